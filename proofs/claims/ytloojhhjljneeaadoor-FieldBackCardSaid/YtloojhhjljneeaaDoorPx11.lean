/- Written by a program of this session (wip/print2: a patched copy of a printer), not by print.sh: Lean functions with the answers of the Go functions, and the proofs of that; no condition beside those that stand in each theorem. -/
import Derived.Test.YtloojhhjljneeaaDoorPx0
import Derived.Test.YtloojhhjljneeaaDoorPx2
import Derived.Test.YtloojhhjljneeaaDoorPx3
namespace Go.Proofs.YtloojhhjljneeaaDoor.P
open Go.RowKit Go.Proofs.YtloojhhjljneeaaDoorW.PrintWords Go.Proofs.YtloojhhjljneeaaDoorW.PrintLast Go.Proofs.YtloojhhjljneeaaDoorW.PrintMore
attribute [local go_sem] max2_int min2_int max_two min_two max_three min_three max_four min_four   -- for this text's walks alone
set_option linter.unusedVariables false
set_option linter.unusedSimpArgs false

/-! ### field_ParseStamp: function 12 -/
mutual
def field_ParseStamp.j0 : Nat → Bool → ByteArray → Int → Int → Int → Int → Int → Int → Option (Int × Int × Int × Int × Int)
  | 0, _, _, _, _, _, _, _, _ => none
  | k + 1, x1, x198000, x198001, x198002, x203000, x203001, x203002, x203003 => if (Go.bits .and .u8 x203000 2) = 0 then (field_ParseStamp.j1 k x1 false x198000 x198001 x198002 x203000 x203001 x203002 x203003) else (field_ParseStamp.j1 k x1 (!x1) x198000 x198001 x198002 x203000 x203001 x203002 x203003)
def field_ParseStamp.j1 : Nat → Bool → Bool → ByteArray → Int → Int → Int → Int → Int → Int → Option (Int × Int × Int × Int × Int)
  | 0, _, _, _, _, _, _, _, _, _ => none
  | k + 1, x1, x28, x198000, x198001, x198002, x203000, x203001, x203002, x203003 => if x28 = true then ((cursor_Cursor_Four.f k x198000 x198001 x198002).bind fun bt207 => (field_ParseStamp.j2 k x1 bt207.2.1 bt207.2.2.1 bt207.2.2.2 x203000 x203001 (wrap32 (bt207.1)) x203003)) else (field_ParseStamp.j2 k x1 x198000 x198001 x198002 x203000 x203001 x203002 x203003)
def field_ParseStamp.j2 : Nat → Bool → ByteArray → Int → Int → Int → Int → Int → Int → Option (Int × Int × Int × Int × Int)
  | 0, _, _, _, _, _, _, _, _ => none
  | k + 1, x1, x198000, x198001, x198002, x203000, x203001, x203002, x203003 => if (Go.bits .and .u8 x203000 4) = 0 then (field_ParseStamp.j3 k x1 false x198000 x198001 x198002 x203000 x203001 x203002 x203003) else (field_ParseStamp.j3 k x1 (!x1) x198000 x198001 x198002 x203000 x203001 x203002 x203003)
def field_ParseStamp.j3 : Nat → Bool → Bool → ByteArray → Int → Int → Int → Int → Int → Int → Option (Int × Int × Int × Int × Int)
  | 0, _, _, _, _, _, _, _, _, _ => none
  | k + 1, x1, x40, x198000, x198001, x198002, x203000, x203001, x203002, x203003 => if x40 = true then ((cursor_Cursor_Four.f k x198000 x198001 x198002).bind fun bt211 => (field_ParseStamp.j4 k x1 bt211.2.1 bt211.2.2.1 bt211.2.2.2 x203000 x203001 x203002 (wrap32 (bt211.1)))) else (field_ParseStamp.j4 k x1 x198000 x198001 x198002 x203000 x203001 x203002 x203003)
def field_ParseStamp.j4 : Nat → Bool → ByteArray → Int → Int → Int → Int → Int → Int → Option (Int × Int × Int × Int × Int)
  | 0, _, _, _, _, _, _, _, _ => none
  | k + 1, x1, x198000, x198001, x198002, x203000, x203001, x203002, x203003 => (cursor_Cursor_Err.f x198000 x198001 x198002).bind fun bt215 => (if bt215.1 = 0 then (if x203000 > 7 then (some (0, 0, 0, 0, 24)) else ((cursor_Cursor_Left.f bt215.2.1 bt215.2.2.1 bt215.2.2.2).bind fun bt219 => (if bt219.1 > 0 then (if x1 = true then (some (x203000, x203001, x203002, x203003, 0)) else (some (0, 0, 0, 0, 24))) else (some (x203000, x203001, x203002, x203003, 0))))) else (some (0, 0, 0, 0, 24)))
end
def field_ParseStamp.f (k : Nat) (a0 : ByteArray) (a1 : Bool) : Option (Int × Int × Int × Int × Int) := (cursor_Over.f a0).bind fun bt194 => ((cursor_Cursor_One.f k bt194.1 bt194.2.1 bt194.2.2).bind fun bt198 => (if (Go.bits .and .u8 bt198.1 1) = 0 then (field_ParseStamp.j0 k a1 bt198.2.1 bt198.2.2.1 bt198.2.2.2 bt198.1 0 0 0) else ((cursor_Cursor_Four.f k bt198.2.1 bt198.2.2.1 bt198.2.2.2).bind fun bt203 => (field_ParseStamp.j0 k a1 bt203.2.1 bt203.2.2.1 bt203.2.2.2 bt198.1 (wrap32 (bt203.1)) 0 0))))
theorem field_ParseStamp.mono_l : ∀ k, (∀ y0 y1 y2 y3 y4 y5 y6 y7, LeO (field_ParseStamp.j0 k y0 y1 y2 y3 y4 y5 y6 y7) (field_ParseStamp.j0 (k + 1) y0 y1 y2 y3 y4 y5 y6 y7)) ∧ (∀ y0 y1 y2 y3 y4 y5 y6 y7 y8, LeO (field_ParseStamp.j1 k y0 y1 y2 y3 y4 y5 y6 y7 y8) (field_ParseStamp.j1 (k + 1) y0 y1 y2 y3 y4 y5 y6 y7 y8)) ∧ (∀ y0 y1 y2 y3 y4 y5 y6 y7, LeO (field_ParseStamp.j2 k y0 y1 y2 y3 y4 y5 y6 y7) (field_ParseStamp.j2 (k + 1) y0 y1 y2 y3 y4 y5 y6 y7)) ∧ (∀ y0 y1 y2 y3 y4 y5 y6 y7 y8, LeO (field_ParseStamp.j3 k y0 y1 y2 y3 y4 y5 y6 y7 y8) (field_ParseStamp.j3 (k + 1) y0 y1 y2 y3 y4 y5 y6 y7 y8)) ∧ (∀ y0 y1 y2 y3 y4 y5 y6 y7, LeO (field_ParseStamp.j4 k y0 y1 y2 y3 y4 y5 y6 y7) (field_ParseStamp.j4 (k + 1) y0 y1 y2 y3 y4 y5 y6 y7))
  | 0 => ⟨fun _ _ _ _ _ _ _ _ r h => by simp [field_ParseStamp.j0] at h, fun _ _ _ _ _ _ _ _ _ r h => by simp [field_ParseStamp.j1] at h, fun _ _ _ _ _ _ _ _ r h => by simp [field_ParseStamp.j2] at h, fun _ _ _ _ _ _ _ _ _ r h => by simp [field_ParseStamp.j3] at h, fun _ _ _ _ _ _ _ _ r h => by simp [field_ParseStamp.j4] at h⟩
  | k + 1 => by
    obtain ⟨ih0, ih1, ih2, ih3, ih4⟩ := field_ParseStamp.mono_l k
    refine ⟨?_, ?_, ?_, ?_, ?_⟩
    · intro y0 y1 y2 y3 y4 y5 y6 y7
      unfold field_ParseStamp.j0
      repeat' first
      | (with_reducible exact ih0 _ _ _ _ _ _ _ _)
      | (with_reducible exact ih1 _ _ _ _ _ _ _ _ _)
      | (with_reducible exact ih2 _ _ _ _ _ _ _ _)
      | (with_reducible exact ih3 _ _ _ _ _ _ _ _ _)
      | (with_reducible exact ih4 _ _ _ _ _ _ _ _)
      | (with_reducible exact cursor_Cursor_Four.mono _ _ _ _)
      | (with_reducible exact cursor_Cursor_One.mono _ _ _ _)
      | (with_reducible exact LeO.refl _)
      | (with_reducible exact LeO.none _)
      | (with_reducible refine LeO.ite ?_ ?_)
      | (with_reducible refine LeO.bind ?_ (fun _ => ?_))
      | exact ih0 _ _ _ _ _ _ _ _
      | exact ih1 _ _ _ _ _ _ _ _ _
      | exact ih2 _ _ _ _ _ _ _ _
      | exact ih3 _ _ _ _ _ _ _ _ _
      | exact ih4 _ _ _ _ _ _ _ _
      | exact cursor_Cursor_Four.mono _ _ _ _
      | exact cursor_Cursor_One.mono _ _ _ _
      | exact LeO.none _
      | refine LeO.ite ?_ ?_
      | refine LeO.bind ?_ (fun _ => ?_)
    · intro y0 y1 y2 y3 y4 y5 y6 y7 y8
      unfold field_ParseStamp.j1
      repeat' first
      | (with_reducible exact ih0 _ _ _ _ _ _ _ _)
      | (with_reducible exact ih1 _ _ _ _ _ _ _ _ _)
      | (with_reducible exact ih2 _ _ _ _ _ _ _ _)
      | (with_reducible exact ih3 _ _ _ _ _ _ _ _ _)
      | (with_reducible exact ih4 _ _ _ _ _ _ _ _)
      | (with_reducible exact cursor_Cursor_Four.mono _ _ _ _)
      | (with_reducible exact cursor_Cursor_One.mono _ _ _ _)
      | (with_reducible exact LeO.refl _)
      | (with_reducible exact LeO.none _)
      | (with_reducible refine LeO.ite ?_ ?_)
      | (with_reducible refine LeO.bind ?_ (fun _ => ?_))
      | exact ih0 _ _ _ _ _ _ _ _
      | exact ih1 _ _ _ _ _ _ _ _ _
      | exact ih2 _ _ _ _ _ _ _ _
      | exact ih3 _ _ _ _ _ _ _ _ _
      | exact ih4 _ _ _ _ _ _ _ _
      | exact cursor_Cursor_Four.mono _ _ _ _
      | exact cursor_Cursor_One.mono _ _ _ _
      | exact LeO.none _
      | refine LeO.ite ?_ ?_
      | refine LeO.bind ?_ (fun _ => ?_)
    · intro y0 y1 y2 y3 y4 y5 y6 y7
      unfold field_ParseStamp.j2
      repeat' first
      | (with_reducible exact ih0 _ _ _ _ _ _ _ _)
      | (with_reducible exact ih1 _ _ _ _ _ _ _ _ _)
      | (with_reducible exact ih2 _ _ _ _ _ _ _ _)
      | (with_reducible exact ih3 _ _ _ _ _ _ _ _ _)
      | (with_reducible exact ih4 _ _ _ _ _ _ _ _)
      | (with_reducible exact cursor_Cursor_Four.mono _ _ _ _)
      | (with_reducible exact cursor_Cursor_One.mono _ _ _ _)
      | (with_reducible exact LeO.refl _)
      | (with_reducible exact LeO.none _)
      | (with_reducible refine LeO.ite ?_ ?_)
      | (with_reducible refine LeO.bind ?_ (fun _ => ?_))
      | exact ih0 _ _ _ _ _ _ _ _
      | exact ih1 _ _ _ _ _ _ _ _ _
      | exact ih2 _ _ _ _ _ _ _ _
      | exact ih3 _ _ _ _ _ _ _ _ _
      | exact ih4 _ _ _ _ _ _ _ _
      | exact cursor_Cursor_Four.mono _ _ _ _
      | exact cursor_Cursor_One.mono _ _ _ _
      | exact LeO.none _
      | refine LeO.ite ?_ ?_
      | refine LeO.bind ?_ (fun _ => ?_)
    · intro y0 y1 y2 y3 y4 y5 y6 y7 y8
      unfold field_ParseStamp.j3
      repeat' first
      | (with_reducible exact ih0 _ _ _ _ _ _ _ _)
      | (with_reducible exact ih1 _ _ _ _ _ _ _ _ _)
      | (with_reducible exact ih2 _ _ _ _ _ _ _ _)
      | (with_reducible exact ih3 _ _ _ _ _ _ _ _ _)
      | (with_reducible exact ih4 _ _ _ _ _ _ _ _)
      | (with_reducible exact cursor_Cursor_Four.mono _ _ _ _)
      | (with_reducible exact cursor_Cursor_One.mono _ _ _ _)
      | (with_reducible exact LeO.refl _)
      | (with_reducible exact LeO.none _)
      | (with_reducible refine LeO.ite ?_ ?_)
      | (with_reducible refine LeO.bind ?_ (fun _ => ?_))
      | exact ih0 _ _ _ _ _ _ _ _
      | exact ih1 _ _ _ _ _ _ _ _ _
      | exact ih2 _ _ _ _ _ _ _ _
      | exact ih3 _ _ _ _ _ _ _ _ _
      | exact ih4 _ _ _ _ _ _ _ _
      | exact cursor_Cursor_Four.mono _ _ _ _
      | exact cursor_Cursor_One.mono _ _ _ _
      | exact LeO.none _
      | refine LeO.ite ?_ ?_
      | refine LeO.bind ?_ (fun _ => ?_)
    · intro y0 y1 y2 y3 y4 y5 y6 y7
      unfold field_ParseStamp.j4
      repeat' first
      | (with_reducible exact ih0 _ _ _ _ _ _ _ _)
      | (with_reducible exact ih1 _ _ _ _ _ _ _ _ _)
      | (with_reducible exact ih2 _ _ _ _ _ _ _ _)
      | (with_reducible exact ih3 _ _ _ _ _ _ _ _ _)
      | (with_reducible exact ih4 _ _ _ _ _ _ _ _)
      | (with_reducible exact cursor_Cursor_Four.mono _ _ _ _)
      | (with_reducible exact cursor_Cursor_One.mono _ _ _ _)
      | (with_reducible exact LeO.refl _)
      | (with_reducible exact LeO.none _)
      | (with_reducible refine LeO.ite ?_ ?_)
      | (with_reducible refine LeO.bind ?_ (fun _ => ?_))
      | exact ih0 _ _ _ _ _ _ _ _
      | exact ih1 _ _ _ _ _ _ _ _ _
      | exact ih2 _ _ _ _ _ _ _ _
      | exact ih3 _ _ _ _ _ _ _ _ _
      | exact ih4 _ _ _ _ _ _ _ _
      | exact cursor_Cursor_Four.mono _ _ _ _
      | exact cursor_Cursor_One.mono _ _ _ _
      | exact LeO.none _
      | refine LeO.ite ?_ ?_
      | refine LeO.bind ?_ (fun _ => ?_)
theorem field_ParseStamp.mono : ∀ a0 a1 k, LeO (field_ParseStamp.f k a0 a1) (field_ParseStamp.f (k + 1) a0 a1) := by
  intro a0 a1 k
  obtain ⟨ih0, ih1, ih2, ih3, ih4⟩ := field_ParseStamp.mono_l k
  unfold field_ParseStamp.f
  repeat' first
      | (with_reducible exact ih0 _ _ _ _ _ _ _ _)
      | (with_reducible exact ih1 _ _ _ _ _ _ _ _ _)
      | (with_reducible exact ih2 _ _ _ _ _ _ _ _)
      | (with_reducible exact ih3 _ _ _ _ _ _ _ _ _)
      | (with_reducible exact ih4 _ _ _ _ _ _ _ _)
      | (with_reducible exact cursor_Cursor_Four.mono _ _ _ _)
      | (with_reducible exact cursor_Cursor_One.mono _ _ _ _)
      | (with_reducible exact LeO.refl _)
      | (with_reducible exact LeO.none _)
      | (with_reducible refine LeO.ite ?_ ?_)
      | (with_reducible refine LeO.bind ?_ (fun _ => ?_))
      | exact ih0 _ _ _ _ _ _ _ _
      | exact ih1 _ _ _ _ _ _ _ _ _
      | exact ih2 _ _ _ _ _ _ _ _
      | exact ih3 _ _ _ _ _ _ _ _ _
      | exact ih4 _ _ _ _ _ _ _ _
      | exact cursor_Cursor_Four.mono _ _ _ _
      | exact cursor_Cursor_One.mono _ _ _ _
      | exact LeO.none _
      | refine LeO.ite ?_ ?_
      | refine LeO.bind ?_ (fun _ => ?_)
set_option maxHeartbeats 8000000 in
set_option maxRecDepth 100000 in
theorem field_ParseStamp.calls (k : Nat) (a0 : ByteArray) (a1 : Bool) (r1 : Int) (r2 : Int) (r3 : Int) (r4 : Int) (r5 : Int) (w : World) (h : field_ParseStamp.f k a0 a1 = some (r1, r2, r3, r4, r5)) :
    Calls Tryd.prog 12 #[.string a0, .bool a1] w fun e w' => e = .returned (.tuple #[.agg #[.int .u8 r1, .int .i32 r2, .int .i32 r3, .int .i32 r4], .int .i64 r5]) ∧ Below w.heap.size w w' := by
  have hu35 := Tryd.underlying35
  have HB := Aside0.mk (Below.refl w.heap.size w)
  have H : ((cursor_Over.f a0).bind fun bt194 => ((cursor_Cursor_One.f k bt194.1 bt194.2.1 bt194.2.2).bind fun bt198 => (if (Go.bits .and .u8 bt198.1 1) = 0 then (field_ParseStamp.j0 k a1 bt198.2.1 bt198.2.2.1 bt198.2.2.2 bt198.1 0 0 0) else ((cursor_Cursor_Four.f k bt198.2.1 bt198.2.2.1 bt198.2.2.2).bind fun bt203 => (field_ParseStamp.j0 k a1 bt203.2.1 bt203.2.2.1 bt203.2.2.2 bt198.1 (wrap32 (bt203.1)) 0 0))))) = some (r1, r2, r3, r4, r5) := h
  clear h
  replace H := Option.bind_eq_some_iff.mp H
  obtain ⟨⟨t194, t195, t196⟩, A30, H⟩ := H
  replace H : ((cursor_Cursor_One.f k t194 t195 t196).bind fun bt198 => (if (Go.bits .and .u8 bt198.1 1) = 0 then (field_ParseStamp.j0 k a1 bt198.2.1 bt198.2.2.1 bt198.2.2.2 bt198.1 0 0 0) else ((cursor_Cursor_Four.f k bt198.2.1 bt198.2.2.1 bt198.2.2.2).bind fun bt203 => (field_ParseStamp.j0 k a1 bt203.2.1 bt203.2.2.1 bt203.2.2.2 bt198.1 (wrap32 (bt203.1)) 0 0)))) = some (r1, r2, r3, r4, r5) := H
  have A3 := Aside0.mk A30
  clear A30
  replace H := Option.bind_eq_some_iff.mp H
  obtain ⟨⟨t198, t199, t200, t201⟩, A40, H⟩ := H
  replace H : (if (Go.bits .and .u8 t198 1) = 0 then (field_ParseStamp.j0 k a1 t199 t200 t201 t198 0 0 0) else ((cursor_Cursor_Four.f k t199 t200 t201).bind fun bt203 => (field_ParseStamp.j0 k a1 bt203.2.1 bt203.2.2.1 bt203.2.2.2 t198 (wrap32 (bt203.1)) 0 0))) = some (r1, r2, r3, r4, r5) := H
  have A4 := Aside0.mk A40
  clear A40
  have HC5 := Aside0.mk H
  clear H
  go_enter Tryd.func12, Tryd.ntmps12
  go_upto_if 16 with (first | ((with_reducible refine gate_dst (N := 4) rfl ?_); refine box_event ?hg (N := 4) ?hd (cs := #[.int .u8 0, .int .i32 0, .int .i32 0, .int .i32 0]) (t := 35) ?hr ?_; (case hd => rfl); (case hg => rfl); (case hr => first | (go_simp; done) | (go_simp; rfl)); intro gb193 hg w6 hbox hb; have n0_ := Aside0.mk (below_step (by repeat (first | (with_reducible first | exact HB.out | apply below_alloc | apply pw_below_drewN | apply below_drew1) | exact HB.out)) hb); have n1_ := Aside0.mk (hbox); have n2_ := Aside0.mk ((by rw [hg]; exact (below_size (by repeat (first | (with_reducible first | exact HB.out | apply below_alloc | apply pw_below_drewN | apply below_drew1) | exact HB.out))) : w.heap.size ≤ gb193)); have n3_ := Aside0.mk ((by rw [hg]; exact (below_size (by repeat (first | (with_reducible first | exact HB.out | apply below_alloc | apply pw_below_drewN | apply below_drew1) | exact HB.out))) : w.heap.size ≤ gb193)); clear HB; have HB := n0_; have BK193 := n1_; have GW193 := n2_; have GE193 := n3_; clear n0_ n1_ n2_ n3_; clear hb hbox hg) | ((with_reducible refine gate_callee (f := 17) rfl ?_); refine goesL_ (some 9) rfl rfl Tryd.func17 (by kernel_rfl) rfl #[.string a0] rfl (by (try simp only [List.map_toArray, List.map_cons, List.map_nil]); first | done | rfl | (simp only [List.length_drop, List.length_take]; rfl)) ?_; (with_reducible refine (cursor_Over.calls a0 t194 t195 t196 w _ ?side1 A3.out).mono ?_); (case side1 => repeat (first | (with_reducible first | exact HB.out | apply below_alloc | apply pw_below_drewN | apply below_drew1 | refine below_set ?_ GE193.out) | exact HB.out)); rintro e w7 ⟨g197, rfl, hi, hb, hb2⟩; refine ⟨_, rfl, ?_⟩; have n0_ := Aside0.mk (blk_below (g := gb193) (o := .cells #[.int .u8 0, .int .i32 0, .int .i32 0, .int .i32 0] 35 (0, 0)) (by (with_reducible repeat (first | refine blk_drewN ?_ _ | refine blk_drew ?_ | refine blk_alloc ?_ _)); exact BK193.out) hb2); have n1_ := Aside0.mk (hb); have n2_ := Aside0.mk (hi); have n3_ := Aside0.mk (IsS71.ne_blk hi (blk_below (g := gb193) (o := .cells #[.int .u8 0, .int .i32 0, .int .i32 0, .int .i32 0] 35 (0, 0)) (by (with_reducible repeat (first | refine blk_drewN ?_ _ | refine blk_drew ?_ | refine blk_alloc ?_ _)); exact BK193.out) hb2) (by decide)); have n4_ := Aside0.mk (Ne.symm (IsS71.ne_blk hi (blk_below (g := gb193) (o := .cells #[.int .u8 0, .int .i32 0, .int .i32 0, .int .i32 0] 35 (0, 0)) (by (with_reducible repeat (first | refine blk_drewN ?_ _ | refine blk_drew ?_ | refine blk_alloc ?_ _)); exact BK193.out) hb2) (by decide))); clear BK193; clear HB; have BK193 := n0_; have HB := n1_; have HI197 := n2_; have NB197_193 := n3_; have NB193_197 := n4_; clear n0_ n1_ n2_ n3_ n4_; (try clear hb); (try clear hb2); (try clear hk); (try clear hi)) | ((with_reducible refine gate_callee (f := 18) rfl ?_); refine goesL_ (some 11) rfl rfl Tryd.func18 (by kernel_rfl) rfl #[.pointer (some ⟨g197, 0, none⟩)] rfl (by (try simp only [List.map_toArray, List.map_cons, List.map_nil]); first | done | rfl | (simp only [List.length_drop, List.length_take]; rfl)) ?_; (with_reducible refine (cursor_Cursor_One.calls k g197 t194 t195 t196 t198 t199 t200 t201 w _ ?side1 ?side2 A4.out).mono ?_); (case side1 => repeat (first | (with_reducible first | exact HI197.out | apply IsS71.alloc | apply IsS71.drewN | apply IsS71.drew | apply IsS71.set_0 | apply IsS71.set_1 | apply IsS71.set_2 | refine IsS71.far ?_ NB197_193.out _) | exact HI197.out)); (case side2 => repeat (first | (with_reducible first | exact HB.out | apply below_alloc | apply pw_below_drewN | apply below_drew1 | refine below_set ?_ (IsS71.ge HI197.out) | refine below_set ?_ GE193.out) | exact HB.out)); rintro e w8 ⟨rfl, hi, hb, hk⟩; refine ⟨_, rfl, ?_⟩; have n0_ := Aside0.mk (KeepBut.blk hk (g' := gb193) (o := .cells #[.int .u8 0, .int .i32 0, .int .i32 0, .int .i32 0] 35 (0, 0)) (by (with_reducible repeat (first | refine blk_drewN ?_ _ | refine blk_drew ?_ | refine blk_alloc ?_ _)); exact BK193.out) NB193_197.out (by simp)); have n1_ := Aside0.mk (hb); have n2_ := Aside0.mk (hi); clear BK193; clear HB; clear HI197; have BK193 := n0_; have HB := n1_; have HI197 := n2_; clear n0_ n1_ n2_; (try clear hb); (try clear hb2); (try clear hk); (try clear hi)) | ((with_reducible refine gate_dst (N := 7) rfl ?_); refine box_event ?hg (N := 7) ?hd (cs := #[.int .u8 0, .int .i32 0, .int .i32 0, .int .i32 0]) (t := 35) ?hr ?_; (case hd => rfl); (case hg => rfl); (case hr => first | (go_simp; done) | (go_simp; rfl)); intro gb202 hg w9 hbox hb; have n0_ := Aside0.mk (blk_below (g := gb193) (o := .cells #[.int .u8 0, .int .i32 0, .int .i32 0, .int .i32 0] 35 (0, 0)) (by (with_reducible repeat (first | refine blk_drewN ?_ _ | refine blk_drew ?_ | refine blk_alloc ?_ _)); exact BK193.out) hb); have n1_ := Aside0.mk (IsS71.below (by repeat (first | (with_reducible first | exact HI197.out | apply IsS71.alloc | apply IsS71.drewN | apply IsS71.drew | apply IsS71.set_0 | apply IsS71.set_1 | apply IsS71.set_2 | refine IsS71.far ?_ NB197_193.out _) | exact HI197.out)) hb); have n2_ := Aside0.mk (below_step (by repeat (first | (with_reducible first | exact HB.out | apply below_alloc | apply pw_below_drewN | apply below_drew1 | refine below_set ?_ (IsS71.ge HI197.out) | refine below_set ?_ GE193.out) | exact HB.out)) hb); have n3_ := Aside0.mk (hbox); have n4_ := Aside0.mk ((by rw [hg]; exact (below_size (by repeat (first | (with_reducible first | exact HB.out | apply below_alloc | apply pw_below_drewN | apply below_drew1 | refine below_set ?_ (IsS71.ge HI197.out) | refine below_set ?_ GE193.out) | exact HB.out))) : w.heap.size ≤ gb202)); have n5_ := Aside0.mk ((by rw [hg]; exact (below_size (by repeat (first | (with_reducible first | exact HB.out | apply below_alloc | apply pw_below_drewN | apply below_drew1 | refine below_set ?_ (IsS71.ge HI197.out) | refine below_set ?_ GE193.out) | exact HB.out))) : w.heap.size ≤ gb202)); have n6_ := Aside0.mk ((by rw [hg]; exact Nat.ne_of_lt (blk_lt (g := gb193) (o := .cells #[.int .u8 0, .int .i32 0, .int .i32 0, .int .i32 0] 35 (0, 0)) (by (with_reducible repeat (first | refine blk_drewN ?_ _ | refine blk_drew ?_ | refine blk_alloc ?_ _)); exact BK193.out)) : gb193 ≠ gb202)); have n7_ := Aside0.mk ((by rw [hg]; exact Nat.ne_of_gt (blk_lt (g := gb193) (o := .cells #[.int .u8 0, .int .i32 0, .int .i32 0, .int .i32 0] 35 (0, 0)) (by (with_reducible repeat (first | refine blk_drewN ?_ _ | refine blk_drew ?_ | refine blk_alloc ?_ _)); exact BK193.out)) : gb202 ≠ gb193)); have n8_ := Aside0.mk ((by rw [hg]; exact Nat.ne_of_lt (IsS71.lt (show IsS71 w _ g197 t199 t200 t201 from by repeat (first | (with_reducible first | exact HI197.out | apply IsS71.alloc | apply IsS71.drewN | apply IsS71.drew | apply IsS71.set_0 | apply IsS71.set_1 | apply IsS71.set_2 | refine IsS71.far ?_ NB197_193.out _) | exact HI197.out))) : g197 ≠ gb202)); have n9_ := Aside0.mk ((by rw [hg]; exact Nat.ne_of_gt (IsS71.lt (show IsS71 w _ g197 t199 t200 t201 from by repeat (first | (with_reducible first | exact HI197.out | apply IsS71.alloc | apply IsS71.drewN | apply IsS71.drew | apply IsS71.set_0 | apply IsS71.set_1 | apply IsS71.set_2 | refine IsS71.far ?_ NB197_193.out _) | exact HI197.out))) : gb202 ≠ g197)); clear BK193; clear HI197; clear HB; have BK193 := n0_; have HI197 := n1_; have HB := n2_; have BK202 := n3_; have GW202 := n4_; have GE202 := n5_; have NB193_202 := n6_; have NB202_193 := n7_; have NB197_202 := n8_; have NB202_197 := n9_; clear n0_ n1_ n2_ n3_ n4_ n5_ n6_ n7_ n8_ n9_; clear hb hbox hg; have hnb10 := NB202_193.out; have hnc10 := NB193_202.out; have hnb11 := NB202_197.out; have hnc11 := NB197_202.out; have hcz12_0 : w9.cell? ⟨gb202, 0, none⟩ = some (.int .u8 0) := (blk_cell BK202.out 0).trans rfl; have hcz12_1 : w9.cell? ⟨gb202, 1, none⟩ = some (.int .i32 0) := (blk_cell BK202.out 1).trans rfl; have hcz12_2 : w9.cell? ⟨gb202, 2, none⟩ = some (.int .i32 0) := (blk_cell BK202.out 2).trans rfl; have hcz12_3 : w9.cell? ⟨gb202, 3, none⟩ = some (.int .i32 0) := (blk_cell BK202.out 3).trans rfl; have hfz12_0 := blk_frozen BK202.out 0; have hfz12_1 := blk_frozen BK202.out 1; have hfz12_2 := blk_frozen BK202.out 2; have hfz12_3 := blk_frozen BK202.out 3))
  (try simp only [Act.put, List.setIfInBounds_toArray, List.set_cons_zero, List.set_cons_succ])
  go_cut [] (fun wc => ∃ (kq : Nat) (x198000_4 : ByteArray) (x198001_4 : Int) (x198002_4 : Int) (x203001_4 : Int), Aside0 (field_ParseStamp.j0 kq a1 x198000_4 x198001_4 x198002_4 t198 x203001_4 0 0 = some (r1, r2, r3, r4, r5)) ∧ Aside0 (kq ≤ k) ∧ Aside0 (wc.heap[gb193]? = some (.cells #[.int .u8 0, .int .i32 0, .int .i32 0, .int .i32 0] 35 (0, 0))) ∧ Aside0 (wc.heap[gb202]? = some (.cells #[.int .u8 t198, .int .i32 x203001_4, .int .i32 0, .int .i32 0] 35 (0, 0))) ∧ Aside0 (IsS71 w wc g197 x198000_4 x198001_4 x198002_4) ∧ Aside0 (Below w.heap.size w wc))
  case first =>
    have H := HC5.out
    clear HC5
    by_cases c13 : (Go.bits .and .u8 t198 1) = 0
    · rw [if_pos c13] at H
      have c13b0 : ((Go.bits .and .u8 t198 1) == 0) = true := beq_iff_eq.mpr c13
      have c13b1 : ((Go.bits .and .u8 t198 1) != 0) = false := bne_eq_false_iff_eq.mpr c13
      clear c13
      (first | rw [c13b0] | (simp only [i64_w, i32_w]; rw [c13b0]) | skip)
      have H' := Aside0.mk H
      clear H
      go_wp2
      go_meet
      case rel => exact ⟨_, (t199), (t200), (t201), (0), H', ⟨by first | omega | exact Nat.le_refl _⟩, ⟨by (with_reducible repeat (first | refine blk_drewN ?_ _ | refine blk_drew ?_ | refine blk_alloc ?_ _)); refine blk_far ?_ NB193_202.out _; (with_reducible repeat (first | refine blk_drewN ?_ _ | refine blk_drew ?_ | refine blk_alloc ?_ _)); refine blk_far ?_ NB193_202.out _; (with_reducible repeat (first | refine blk_drewN ?_ _ | refine blk_drew ?_ | refine blk_alloc ?_ _)); refine blk_far ?_ NB193_202.out _; (with_reducible repeat (first | refine blk_drewN ?_ _ | refine blk_drew ?_ | refine blk_alloc ?_ _)); refine blk_far ?_ NB193_202.out _; (with_reducible repeat (first | refine blk_drewN ?_ _ | refine blk_drew ?_ | refine blk_alloc ?_ _)); exact BK193.out⟩, ⟨by (with_reducible repeat (first | refine blk_drewN ?_ _ | refine blk_drew ?_ | refine blk_alloc ?_ _)); refine blk_put (cs := #[.int .u8 t198, .int .i32 0, .int .i32 0, .int .i32 0]) ?_ 3 _ rfl; (with_reducible repeat (first | refine blk_drewN ?_ _ | refine blk_drew ?_ | refine blk_alloc ?_ _)); refine blk_put (cs := #[.int .u8 t198, .int .i32 0, .int .i32 0, .int .i32 0]) ?_ 2 _ rfl; (with_reducible repeat (first | refine blk_drewN ?_ _ | refine blk_drew ?_ | refine blk_alloc ?_ _)); refine blk_put (cs := #[.int .u8 t198, .int .i32 0, .int .i32 0, .int .i32 0]) ?_ 1 _ rfl; (with_reducible repeat (first | refine blk_drewN ?_ _ | refine blk_drew ?_ | refine blk_alloc ?_ _)); refine blk_put (cs := #[.int .u8 0, .int .i32 0, .int .i32 0, .int .i32 0]) ?_ 0 _ rfl; (with_reducible repeat (first | refine blk_drewN ?_ _ | refine blk_drew ?_ | refine blk_alloc ?_ _)); exact BK202.out⟩, ⟨by repeat (first | (with_reducible first | exact HI197.out | apply IsS71.alloc | apply IsS71.drewN | apply IsS71.drew | apply IsS71.set_0 | apply IsS71.set_1 | apply IsS71.set_2 | refine IsS71.far ?_ NB197_193.out _ | refine IsS71.far ?_ NB197_202.out _) | exact HI197.out)⟩, ⟨by repeat (first | (with_reducible first | exact HB.out | apply below_alloc | apply pw_below_drewN | apply below_drew1 | refine below_set ?_ (IsS71.ge HI197.out) | refine below_set ?_ GE193.out | refine below_set ?_ GE202.out) | exact HB.out)⟩⟩
    · rw [if_neg c13] at H
      have c13b0 : ((Go.bits .and .u8 t198 1) == 0) = false := beq_eq_false_iff_ne.mpr c13
      have c13b1 : ((Go.bits .and .u8 t198 1) != 0) = true := bne_iff_ne.mpr c13
      (first | rw [c13b0] | (simp only [i64_w, i32_w]; rw [c13b0]) | skip)
      replace H := Option.bind_eq_some_iff.mp H
      obtain ⟨⟨t203, t204, t205, t206⟩, A140, H⟩ := H
      replace H : (field_ParseStamp.j0 k a1 t204 t205 t206 t198 (wrap32 (t203)) 0 0) = some (r1, r2, r3, r4, r5) := H
      have A14 := Aside0.mk A140
      clear A140
      have H' := Aside0.mk H
      clear H
      go_wp2_with (first | ((with_reducible refine gate_callee (f := 19) rfl ?_); refine goesL_ (some 18) rfl rfl Tryd.func19 (by kernel_rfl) rfl #[.pointer (some ⟨g197, 0, none⟩)] rfl (by (try simp only [List.map_toArray, List.map_cons, List.map_nil]); first | done | rfl | (simp only [List.length_drop, List.length_take]; rfl)) ?_; (with_reducible refine (cursor_Cursor_Four.calls k g197 t199 t200 t201 t203 t204 t205 t206 w _ ?side1 ?side2 A14.out).mono ?_); (case side1 => repeat (first | (with_reducible first | exact HI197.out | apply IsS71.alloc | apply IsS71.drewN | apply IsS71.drew | apply IsS71.set_0 | apply IsS71.set_1 | apply IsS71.set_2 | refine IsS71.far ?_ NB197_193.out _ | refine IsS71.far ?_ NB197_202.out _) | exact HI197.out)); (case side2 => repeat (first | (with_reducible first | exact HB.out | apply below_alloc | apply pw_below_drewN | apply below_drew1 | refine below_set ?_ (IsS71.ge HI197.out) | refine below_set ?_ GE193.out | refine below_set ?_ GE202.out) | exact HB.out)); rintro e w15 ⟨rfl, hi, hb, hk⟩; refine ⟨_, rfl, ?_⟩; have n0_ := Aside0.mk (KeepBut.blk hk (g' := gb193) (o := .cells #[.int .u8 0, .int .i32 0, .int .i32 0, .int .i32 0] 35 (0, 0)) (by (with_reducible repeat (first | refine blk_drewN ?_ _ | refine blk_drew ?_ | refine blk_alloc ?_ _)); refine blk_far ?_ NB193_202.out _; (with_reducible repeat (first | refine blk_drewN ?_ _ | refine blk_drew ?_ | refine blk_alloc ?_ _)); refine blk_far ?_ NB193_202.out _; (with_reducible repeat (first | refine blk_drewN ?_ _ | refine blk_drew ?_ | refine blk_alloc ?_ _)); refine blk_far ?_ NB193_202.out _; (with_reducible repeat (first | refine blk_drewN ?_ _ | refine blk_drew ?_ | refine blk_alloc ?_ _)); refine blk_far ?_ NB193_202.out _; (with_reducible repeat (first | refine blk_drewN ?_ _ | refine blk_drew ?_ | refine blk_alloc ?_ _)); exact BK193.out) NB193_197.out (by simp)); have n1_ := Aside0.mk (KeepBut.blk hk (g' := gb202) (o := .cells #[.int .u8 t198, .int .i32 0, .int .i32 0, .int .i32 0] 35 (0, 0)) (by (with_reducible repeat (first | refine blk_drewN ?_ _ | refine blk_drew ?_ | refine blk_alloc ?_ _)); refine blk_put (cs := #[.int .u8 t198, .int .i32 0, .int .i32 0, .int .i32 0]) ?_ 3 _ rfl; (with_reducible repeat (first | refine blk_drewN ?_ _ | refine blk_drew ?_ | refine blk_alloc ?_ _)); refine blk_put (cs := #[.int .u8 t198, .int .i32 0, .int .i32 0, .int .i32 0]) ?_ 2 _ rfl; (with_reducible repeat (first | refine blk_drewN ?_ _ | refine blk_drew ?_ | refine blk_alloc ?_ _)); refine blk_put (cs := #[.int .u8 t198, .int .i32 0, .int .i32 0, .int .i32 0]) ?_ 1 _ rfl; (with_reducible repeat (first | refine blk_drewN ?_ _ | refine blk_drew ?_ | refine blk_alloc ?_ _)); refine blk_put (cs := #[.int .u8 0, .int .i32 0, .int .i32 0, .int .i32 0]) ?_ 0 _ rfl; (with_reducible repeat (first | refine blk_drewN ?_ _ | refine blk_drew ?_ | refine blk_alloc ?_ _)); exact BK202.out) NB202_197.out (by simp)); have n2_ := Aside0.mk (hb); have n3_ := Aside0.mk (hi); clear BK193; clear BK202; clear HB; clear HI197; have BK193 := n0_; have BK202 := n1_; have HB := n2_; have HI197 := n3_; clear n0_ n1_ n2_ n3_; (try clear hb); (try clear hb2); (try clear hk); (try clear hi); have hnb16 := NB202_193.out; have hnc16 := NB193_202.out; have hnb17 := NB202_197.out; have hnc17 := NB197_202.out; have hcz18_0 : w15.cell? ⟨gb202, 0, none⟩ = some (.int .u8 t198) := (blk_cell BK202.out 0).trans rfl; have hcz18_1 : w15.cell? ⟨gb202, 1, none⟩ = some (.int .i32 0) := (blk_cell BK202.out 1).trans rfl; have hcz18_2 : w15.cell? ⟨gb202, 2, none⟩ = some (.int .i32 0) := (blk_cell BK202.out 2).trans rfl; have hcz18_3 : w15.cell? ⟨gb202, 3, none⟩ = some (.int .i32 0) := (blk_cell BK202.out 3).trans rfl; have hfz18_0 := blk_frozen BK202.out 0; have hfz18_1 := blk_frozen BK202.out 1; have hfz18_2 := blk_frozen BK202.out 2; have hfz18_3 := blk_frozen BK202.out 3))
      go_meet
      case rel => exact ⟨_, (t204), (t205), (t206), (wrap32 (t203)), H', ⟨by first | omega | exact Nat.le_refl _⟩, ⟨by (with_reducible repeat (first | refine blk_drewN ?_ _ | refine blk_drew ?_ | refine blk_alloc ?_ _)); refine blk_far ?_ NB193_202.out _; (with_reducible repeat (first | refine blk_drewN ?_ _ | refine blk_drew ?_ | refine blk_alloc ?_ _)); exact BK193.out⟩, ⟨by (with_reducible repeat (first | refine blk_drewN ?_ _ | refine blk_drew ?_ | refine blk_alloc ?_ _)); refine blk_put (cs := #[.int .u8 t198, .int .i32 0, .int .i32 0, .int .i32 0]) ?_ 1 _ rfl; (with_reducible repeat (first | refine blk_drewN ?_ _ | refine blk_drew ?_ | refine blk_alloc ?_ _)); exact BK202.out⟩, ⟨by repeat (first | (with_reducible first | exact HI197.out | apply IsS71.alloc | apply IsS71.drewN | apply IsS71.drew | apply IsS71.set_0 | apply IsS71.set_1 | apply IsS71.set_2 | refine IsS71.far ?_ NB197_193.out _ | refine IsS71.far ?_ NB197_202.out _) | exact HI197.out)⟩, ⟨by repeat (first | (with_reducible first | exact HB.out | apply below_alloc | apply pw_below_drewN | apply below_drew1 | refine below_set ?_ (IsS71.ge HI197.out) | refine below_set ?_ GE193.out | refine below_set ?_ GE202.out) | exact HB.out)⟩⟩
  case rest =>
    clear HC5
    try clear c1
    try clear p2
    try clear p3
    try clear c10
    try clear c11
    try clear c12
    try clear c13
    try clear c13b0
    try clear c13b1
    try clear c16
    try clear c17
    try clear c18
    try clear hcz12_0
    try clear hcz12_1
    try clear hcz12_2
    try clear hcz12_3
    try clear hcz18_0
    try clear hcz18_1
    try clear hcz18_2
    try clear hcz18_3
    try clear hfz12_0
    try clear hfz12_1
    try clear hfz12_2
    try clear hfz12_3
    try clear hfz18_0
    try clear hfz18_1
    try clear hfz18_2
    try clear hfz18_3
    obtain ⟨kq, x198000_4, x198001_4, x198002_4, x203001_4, HA, HJ4, BK193, BK202, HI197, HB⟩ := hcut
    cases kq with
    | zero => exact absurd HA.out (by simp [field_ParseStamp.j0])
    | succ kj4 =>
      have H := HA.out
      clear HA
      simp only [field_ParseStamp.j0] at H
      have HC19 := Aside0.mk H
      clear H
      go_upto_region 5 with (fail)
      go_cut [28] (fun v28 wc => ∃ (kq : Nat) (x28_18 : Bool), v28 = .bool x28_18 ∧ Aside0 (field_ParseStamp.j1 kq a1 x28_18 x198000_4 x198001_4 x198002_4 t198 x203001_4 0 0 = some (r1, r2, r3, r4, r5)) ∧ Aside0 (kq ≤ kj4) ∧ Aside0 (wc.heap[gb193]? = some (.cells #[.int .u8 0, .int .i32 0, .int .i32 0, .int .i32 0] 35 (0, 0))) ∧ Aside0 (wc.heap[gb202]? = some (.cells #[.int .u8 t198, .int .i32 x203001_4, .int .i32 0, .int .i32 0] 35 (0, 0))) ∧ Aside0 (IsS71 w wc g197 x198000_4 x198001_4 x198002_4) ∧ Aside0 (Below w.heap.size w wc))
      case first =>
        have H := HC19.out
        clear HC19
        by_cases c20 : (Go.bits .and .u8 t198 2) = 0
        · rw [if_pos c20] at H
          have c20b0 : ((Go.bits .and .u8 t198 2) == 0) = true := beq_iff_eq.mpr c20
          have c20b1 : ((Go.bits .and .u8 t198 2) != 0) = false := bne_eq_false_iff_eq.mpr c20
          clear c20
          (first | rw [c20b0] | (simp only [i64_w, i32_w]; rw [c20b0]) | skip)
          have H' := Aside0.mk H
          clear H
          have hnb21 := NB202_193.out
          have hnc21 := NB193_202.out
          have hnb22 := NB202_197.out
          have hnc22 := NB197_202.out
          have hcz23_0 : wc.cell? ⟨gb202, 0, none⟩ = some (.int .u8 t198) := (blk_cell BK202.out 0).trans rfl
          have hcz23_1 : wc.cell? ⟨gb202, 1, none⟩ = some (.int .i32 x203001_4) := (blk_cell BK202.out 1).trans rfl
          have hcz23_2 : wc.cell? ⟨gb202, 2, none⟩ = some (.int .i32 0) := (blk_cell BK202.out 2).trans rfl
          have hcz23_3 : wc.cell? ⟨gb202, 3, none⟩ = some (.int .i32 0) := (blk_cell BK202.out 3).trans rfl
          have hfz23_0 := blk_frozen BK202.out 0
          have hfz23_1 := blk_frozen BK202.out 1
          have hfz23_2 := blk_frozen BK202.out 2
          have hfz23_3 := blk_frozen BK202.out 3
          go_wp2
          go_meet
          case rel => exact ⟨_, (false), (by first | rfl | (simp; done) | (simp [*]; done)), H', ⟨by have := HJ4.out; first | omega | exact Nat.le_refl _⟩, ⟨by (with_reducible repeat (first | refine blk_drewN ?_ _ | refine blk_drew ?_ | refine blk_alloc ?_ _)); exact BK193.out⟩, ⟨by (with_reducible repeat (first | refine blk_drewN ?_ _ | refine blk_drew ?_ | refine blk_alloc ?_ _)); exact BK202.out⟩, ⟨by repeat (first | (with_reducible first | exact HI197.out | apply IsS71.alloc | apply IsS71.drewN | apply IsS71.drew | apply IsS71.set_0 | apply IsS71.set_1 | apply IsS71.set_2 | refine IsS71.far ?_ NB197_193.out _ | refine IsS71.far ?_ NB197_202.out _) | exact HI197.out)⟩, ⟨by repeat (first | (with_reducible first | exact HB.out | apply below_alloc | apply pw_below_drewN | apply below_drew1 | refine below_set ?_ (IsS71.ge HI197.out) | refine below_set ?_ GE193.out | refine below_set ?_ GE202.out) | exact HB.out)⟩⟩
        · rw [if_neg c20] at H
          have c20b0 : ((Go.bits .and .u8 t198 2) == 0) = false := beq_eq_false_iff_ne.mpr c20
          have c20b1 : ((Go.bits .and .u8 t198 2) != 0) = true := bne_iff_ne.mpr c20
          (first | rw [c20b0] | (simp only [i64_w, i32_w]; rw [c20b0]) | skip)
          have H' := Aside0.mk H
          clear H
          have hnb24 := NB202_193.out
          have hnc24 := NB193_202.out
          have hnb25 := NB202_197.out
          have hnc25 := NB197_202.out
          have hcz26_0 : wc.cell? ⟨gb202, 0, none⟩ = some (.int .u8 t198) := (blk_cell BK202.out 0).trans rfl
          have hcz26_1 : wc.cell? ⟨gb202, 1, none⟩ = some (.int .i32 x203001_4) := (blk_cell BK202.out 1).trans rfl
          have hcz26_2 : wc.cell? ⟨gb202, 2, none⟩ = some (.int .i32 0) := (blk_cell BK202.out 2).trans rfl
          have hcz26_3 : wc.cell? ⟨gb202, 3, none⟩ = some (.int .i32 0) := (blk_cell BK202.out 3).trans rfl
          have hfz26_0 := blk_frozen BK202.out 0
          have hfz26_1 := blk_frozen BK202.out 1
          have hfz26_2 := blk_frozen BK202.out 2
          have hfz26_3 := blk_frozen BK202.out 3
          go_wp2
          go_meet
          case rel => exact ⟨_, (!a1), (by first | rfl | (simp; done) | (simp [*]; done)), H', ⟨by have := HJ4.out; first | omega | exact Nat.le_refl _⟩, ⟨by (with_reducible repeat (first | refine blk_drewN ?_ _ | refine blk_drew ?_ | refine blk_alloc ?_ _)); exact BK193.out⟩, ⟨by (with_reducible repeat (first | refine blk_drewN ?_ _ | refine blk_drew ?_ | refine blk_alloc ?_ _)); exact BK202.out⟩, ⟨by repeat (first | (with_reducible first | exact HI197.out | apply IsS71.alloc | apply IsS71.drewN | apply IsS71.drew | apply IsS71.set_0 | apply IsS71.set_1 | apply IsS71.set_2 | refine IsS71.far ?_ NB197_193.out _ | refine IsS71.far ?_ NB197_202.out _) | exact HI197.out)⟩, ⟨by repeat (first | (with_reducible first | exact HB.out | apply below_alloc | apply pw_below_drewN | apply below_drew1 | refine below_set ?_ (IsS71.ge HI197.out) | refine below_set ?_ GE193.out | refine below_set ?_ GE202.out) | exact HB.out)⟩⟩
      case rest =>
        clear HC19
        try clear c1
        try clear c2
        try clear p2
        try clear p3
        try clear c10
        try clear c11
        try clear c12
        try clear c13
        try clear c13b0
        try clear c13b1
        try clear c16
        try clear c17
        try clear c18
        try clear c19
        try clear c20
        try clear c20b0
        try clear c20b1
        try clear c21
        try clear c22
        try clear c24
        try clear c25
        try clear hcz12_0
        try clear hcz12_1
        try clear hcz12_2
        try clear hcz12_3
        try clear hcz18_0
        try clear hcz18_1
        try clear hcz18_2
        try clear hcz18_3
        try clear hcz23_0
        try clear hcz23_1
        try clear hcz23_2
        try clear hcz23_3
        try clear hcz26_0
        try clear hcz26_1
        try clear hcz26_2
        try clear hcz26_3
        try clear hfz12_0
        try clear hfz12_1
        try clear hfz12_2
        try clear hfz12_3
        try clear hfz18_0
        try clear hfz18_1
        try clear hfz18_2
        try clear hfz18_3
        try clear hfz23_0
        try clear hfz23_1
        try clear hfz23_2
        try clear hfz23_3
        try clear hfz26_0
        try clear hfz26_1
        try clear hfz26_2
        try clear hfz26_3
        try clear p2
        try clear p3
        obtain ⟨kq, x28_18, rfl, HA, HJ18, BK193, BK202, HI197, HB⟩ := hcut
        cases kq with
        | zero => exact absurd HA.out (by simp [field_ParseStamp.j1])
        | succ kj18 =>
          have H := HA.out
          clear HA
          simp only [field_ParseStamp.j1] at H
          have HC27 := Aside0.mk H
          clear H
          go_upto_if 28 with (fail)
          go_cut [] (fun wc => ∃ (kq : Nat) (x198000_26 : ByteArray) (x198001_26 : Int) (x198002_26 : Int) (x203002_26 : Int), Aside0 (field_ParseStamp.j2 kq a1 x198000_26 x198001_26 x198002_26 t198 x203001_4 x203002_26 0 = some (r1, r2, r3, r4, r5)) ∧ Aside0 (kq ≤ kj18) ∧ Aside0 (wc.heap[gb193]? = some (.cells #[.int .u8 0, .int .i32 0, .int .i32 0, .int .i32 0] 35 (0, 0))) ∧ Aside0 (wc.heap[gb202]? = some (.cells #[.int .u8 t198, .int .i32 x203001_4, .int .i32 x203002_26, .int .i32 0] 35 (0, 0))) ∧ Aside0 (IsS71 w wc g197 x198000_26 x198001_26 x198002_26) ∧ Aside0 (Below w.heap.size w wc))
          case first =>
            have H := HC27.out
            clear HC27
            by_cases c28 : x28_18 = true
            · subst c28
              have H1 : ((cursor_Cursor_Four.f kj18 x198000_4 x198001_4 x198002_4).bind fun bt207 => (field_ParseStamp.j2 kj18 a1 bt207.2.1 bt207.2.2.1 bt207.2.2.2 t198 x203001_4 (wrap32 (bt207.1)) 0)) = some (r1, r2, r3, r4, r5) := by rw [if_pos rfl] at H; exact H
              clear H
              have H := H1
              clear H1
              replace H := Option.bind_eq_some_iff.mp H
              obtain ⟨⟨t207, t208, t209, t210⟩, A290, H⟩ := H
              replace H : (field_ParseStamp.j2 kj18 a1 t208 t209 t210 t198 x203001_4 (wrap32 (t207)) 0) = some (r1, r2, r3, r4, r5) := H
              have A29 := Aside0.mk A290
              clear A290
              have H' := Aside0.mk H
              clear H
              go_wp2_with (first | ((with_reducible refine gate_callee (f := 19) rfl ?_); refine goesL_ (some 30) rfl rfl Tryd.func19 (by kernel_rfl) rfl #[.pointer (some ⟨g197, 0, none⟩)] rfl (by (try simp only [List.map_toArray, List.map_cons, List.map_nil]); first | done | rfl | (simp only [List.length_drop, List.length_take]; rfl)) ?_; (with_reducible refine (cursor_Cursor_Four.calls kj18 g197 x198000_4 x198001_4 x198002_4 t207 t208 t209 t210 w _ ?side1 ?side2 A29.out).mono ?_); (case side1 => repeat (first | (with_reducible first | exact HI197.out | apply IsS71.alloc | apply IsS71.drewN | apply IsS71.drew | apply IsS71.set_0 | apply IsS71.set_1 | apply IsS71.set_2 | refine IsS71.far ?_ NB197_193.out _ | refine IsS71.far ?_ NB197_202.out _) | exact HI197.out)); (case side2 => repeat (first | (with_reducible first | exact HB.out | apply below_alloc | apply pw_below_drewN | apply below_drew1 | refine below_set ?_ (IsS71.ge HI197.out) | refine below_set ?_ GE193.out | refine below_set ?_ GE202.out) | exact HB.out)); rintro e w30 ⟨rfl, hi, hb, hk⟩; refine ⟨_, rfl, ?_⟩; have n0_ := Aside0.mk (KeepBut.blk hk (g' := gb193) (o := .cells #[.int .u8 0, .int .i32 0, .int .i32 0, .int .i32 0] 35 (0, 0)) (by (with_reducible repeat (first | refine blk_drewN ?_ _ | refine blk_drew ?_ | refine blk_alloc ?_ _)); exact BK193.out) NB193_197.out (by simp)); have n1_ := Aside0.mk (KeepBut.blk hk (g' := gb202) (o := .cells #[.int .u8 t198, .int .i32 x203001_4, .int .i32 0, .int .i32 0] 35 (0, 0)) (by (with_reducible repeat (first | refine blk_drewN ?_ _ | refine blk_drew ?_ | refine blk_alloc ?_ _)); exact BK202.out) NB202_197.out (by simp)); have n2_ := Aside0.mk (hb); have n3_ := Aside0.mk (hi); clear BK193; clear BK202; clear HB; clear HI197; have BK193 := n0_; have BK202 := n1_; have HB := n2_; have HI197 := n3_; clear n0_ n1_ n2_ n3_; (try clear hb); (try clear hb2); (try clear hk); (try clear hi); have hnb31 := NB202_193.out; have hnc31 := NB193_202.out; have hnb32 := NB202_197.out; have hnc32 := NB197_202.out; have hcz33_0 : w30.cell? ⟨gb202, 0, none⟩ = some (.int .u8 t198) := (blk_cell BK202.out 0).trans rfl; have hcz33_1 : w30.cell? ⟨gb202, 1, none⟩ = some (.int .i32 x203001_4) := (blk_cell BK202.out 1).trans rfl; have hcz33_2 : w30.cell? ⟨gb202, 2, none⟩ = some (.int .i32 0) := (blk_cell BK202.out 2).trans rfl; have hcz33_3 : w30.cell? ⟨gb202, 3, none⟩ = some (.int .i32 0) := (blk_cell BK202.out 3).trans rfl; have hfz33_0 := blk_frozen BK202.out 0; have hfz33_1 := blk_frozen BK202.out 1; have hfz33_2 := blk_frozen BK202.out 2; have hfz33_3 := blk_frozen BK202.out 3))
              go_meet
              case rel => exact ⟨_, (t208), (t209), (t210), (wrap32 (t207)), H', ⟨by have := HJ4.out; have := HJ18.out; first | omega | exact Nat.le_refl _⟩, ⟨by (with_reducible repeat (first | refine blk_drewN ?_ _ | refine blk_drew ?_ | refine blk_alloc ?_ _)); refine blk_far ?_ NB193_202.out _; (with_reducible repeat (first | refine blk_drewN ?_ _ | refine blk_drew ?_ | refine blk_alloc ?_ _)); exact BK193.out⟩, ⟨by (with_reducible repeat (first | refine blk_drewN ?_ _ | refine blk_drew ?_ | refine blk_alloc ?_ _)); refine blk_put (cs := #[.int .u8 t198, .int .i32 x203001_4, .int .i32 0, .int .i32 0]) ?_ 2 _ rfl; (with_reducible repeat (first | refine blk_drewN ?_ _ | refine blk_drew ?_ | refine blk_alloc ?_ _)); exact BK202.out⟩, ⟨by repeat (first | (with_reducible first | exact HI197.out | apply IsS71.alloc | apply IsS71.drewN | apply IsS71.drew | apply IsS71.set_0 | apply IsS71.set_1 | apply IsS71.set_2 | refine IsS71.far ?_ NB197_193.out _ | refine IsS71.far ?_ NB197_202.out _) | exact HI197.out)⟩, ⟨by repeat (first | (with_reducible first | exact HB.out | apply below_alloc | apply pw_below_drewN | apply below_drew1 | refine below_set ?_ (IsS71.ge HI197.out) | refine below_set ?_ GE193.out | refine below_set ?_ GE202.out) | exact HB.out)⟩⟩
            · replace c28 := Bool.eq_false_iff.mpr c28
              subst c28
              have H1 : (field_ParseStamp.j2 kj18 a1 x198000_4 x198001_4 x198002_4 t198 x203001_4 0 0) = some (r1, r2, r3, r4, r5) := by rw [if_neg (show ¬ (false = true) by decide)] at H; exact H
              clear H
              have H := H1
              clear H1
              have H' := Aside0.mk H
              clear H
              go_wp2
              go_meet
              case rel => exact ⟨_, (x198000_4), (x198001_4), (x198002_4), (0), H', ⟨by have := HJ4.out; have := HJ18.out; first | omega | exact Nat.le_refl _⟩, ⟨by (with_reducible repeat (first | refine blk_drewN ?_ _ | refine blk_drew ?_ | refine blk_alloc ?_ _)); exact BK193.out⟩, ⟨by (with_reducible repeat (first | refine blk_drewN ?_ _ | refine blk_drew ?_ | refine blk_alloc ?_ _)); exact BK202.out⟩, ⟨by repeat (first | (with_reducible first | exact HI197.out | apply IsS71.alloc | apply IsS71.drewN | apply IsS71.drew | apply IsS71.set_0 | apply IsS71.set_1 | apply IsS71.set_2 | refine IsS71.far ?_ NB197_193.out _ | refine IsS71.far ?_ NB197_202.out _) | exact HI197.out)⟩, ⟨by repeat (first | (with_reducible first | exact HB.out | apply below_alloc | apply pw_below_drewN | apply below_drew1 | refine below_set ?_ (IsS71.ge HI197.out) | refine below_set ?_ GE193.out | refine below_set ?_ GE202.out) | exact HB.out)⟩⟩
          case rest =>
            clear HC27
            try clear c1
            try clear c2
            try clear p2
            try clear c3
            try clear p3
            try clear c10
            try clear c11
            try clear c12
            try clear c13
            try clear c13b0
            try clear c13b1
            try clear c16
            try clear c17
            try clear c18
            try clear c19
            try clear c20
            try clear c20b0
            try clear c20b1
            try clear c21
            try clear c22
            try clear c24
            try clear c25
            try clear c28
            try clear c31
            try clear c32
            try clear p32
            try clear hcz12_0
            try clear hcz12_1
            try clear hcz12_2
            try clear hcz12_3
            try clear hcz18_0
            try clear hcz18_1
            try clear hcz18_2
            try clear hcz18_3
            try clear hcz23_0
            try clear hcz23_1
            try clear hcz23_2
            try clear hcz23_3
            try clear hcz26_0
            try clear hcz26_1
            try clear hcz26_2
            try clear hcz26_3
            try clear hcz33_0
            try clear hcz33_1
            try clear hcz33_2
            try clear hcz33_3
            try clear hfz12_0
            try clear hfz12_1
            try clear hfz12_2
            try clear hfz12_3
            try clear hfz18_0
            try clear hfz18_1
            try clear hfz18_2
            try clear hfz18_3
            try clear hfz23_0
            try clear hfz23_1
            try clear hfz23_2
            try clear hfz23_3
            try clear hfz26_0
            try clear hfz26_1
            try clear hfz26_2
            try clear hfz26_3
            try clear hfz33_0
            try clear hfz33_1
            try clear hfz33_2
            try clear hfz33_3
            try clear p2
            try clear p3
            obtain ⟨kq, x198000_26, x198001_26, x198002_26, x203002_26, HA, HJ26, BK193, BK202, HI197, HB⟩ := hcut
            cases kq with
            | zero => exact absurd HA.out (by simp [field_ParseStamp.j2])
            | succ kj26 =>
              have H := HA.out
              clear HA
              simp only [field_ParseStamp.j2] at H
              have HC34 := Aside0.mk H
              clear H
              go_upto_region 7 with (fail)
              go_cut [40] (fun v40 wc => ∃ (kq : Nat) (x40_33 : Bool), v40 = .bool x40_33 ∧ Aside0 (field_ParseStamp.j3 kq a1 x40_33 x198000_26 x198001_26 x198002_26 t198 x203001_4 x203002_26 0 = some (r1, r2, r3, r4, r5)) ∧ Aside0 (kq ≤ kj26) ∧ Aside0 (wc.heap[gb193]? = some (.cells #[.int .u8 0, .int .i32 0, .int .i32 0, .int .i32 0] 35 (0, 0))) ∧ Aside0 (wc.heap[gb202]? = some (.cells #[.int .u8 t198, .int .i32 x203001_4, .int .i32 x203002_26, .int .i32 0] 35 (0, 0))) ∧ Aside0 (IsS71 w wc g197 x198000_26 x198001_26 x198002_26) ∧ Aside0 (Below w.heap.size w wc))
              case first =>
                have H := HC34.out
                clear HC34
                by_cases c35 : (Go.bits .and .u8 t198 4) = 0
                · rw [if_pos c35] at H
                  have c35b0 : ((Go.bits .and .u8 t198 4) == 0) = true := beq_iff_eq.mpr c35
                  have c35b1 : ((Go.bits .and .u8 t198 4) != 0) = false := bne_eq_false_iff_eq.mpr c35
                  clear c35
                  (first | rw [c35b0] | (simp only [i64_w, i32_w]; rw [c35b0]) | skip)
                  have H' := Aside0.mk H
                  clear H
                  have hnb36 := NB202_193.out
                  have hnc36 := NB193_202.out
                  have hnb37 := NB202_197.out
                  have hnc37 := NB197_202.out
                  have hcz38_0 : wc.cell? ⟨gb202, 0, none⟩ = some (.int .u8 t198) := (blk_cell BK202.out 0).trans rfl
                  have hcz38_1 : wc.cell? ⟨gb202, 1, none⟩ = some (.int .i32 x203001_4) := (blk_cell BK202.out 1).trans rfl
                  have hcz38_2 : wc.cell? ⟨gb202, 2, none⟩ = some (.int .i32 x203002_26) := (blk_cell BK202.out 2).trans rfl
                  have hcz38_3 : wc.cell? ⟨gb202, 3, none⟩ = some (.int .i32 0) := (blk_cell BK202.out 3).trans rfl
                  have hfz38_0 := blk_frozen BK202.out 0
                  have hfz38_1 := blk_frozen BK202.out 1
                  have hfz38_2 := blk_frozen BK202.out 2
                  have hfz38_3 := blk_frozen BK202.out 3
                  go_wp2
                  go_meet
                  case rel => exact ⟨_, (false), (by first | rfl | (simp; done) | (simp [*]; done)), H', ⟨by have := HJ4.out; have := HJ18.out; have := HJ26.out; first | omega | exact Nat.le_refl _⟩, ⟨by (with_reducible repeat (first | refine blk_drewN ?_ _ | refine blk_drew ?_ | refine blk_alloc ?_ _)); exact BK193.out⟩, ⟨by (with_reducible repeat (first | refine blk_drewN ?_ _ | refine blk_drew ?_ | refine blk_alloc ?_ _)); exact BK202.out⟩, ⟨by repeat (first | (with_reducible first | exact HI197.out | apply IsS71.alloc | apply IsS71.drewN | apply IsS71.drew | apply IsS71.set_0 | apply IsS71.set_1 | apply IsS71.set_2 | refine IsS71.far ?_ NB197_193.out _ | refine IsS71.far ?_ NB197_202.out _) | exact HI197.out)⟩, ⟨by repeat (first | (with_reducible first | exact HB.out | apply below_alloc | apply pw_below_drewN | apply below_drew1 | refine below_set ?_ (IsS71.ge HI197.out) | refine below_set ?_ GE193.out | refine below_set ?_ GE202.out) | exact HB.out)⟩⟩
                · rw [if_neg c35] at H
                  have c35b0 : ((Go.bits .and .u8 t198 4) == 0) = false := beq_eq_false_iff_ne.mpr c35
                  have c35b1 : ((Go.bits .and .u8 t198 4) != 0) = true := bne_iff_ne.mpr c35
                  (first | rw [c35b0] | (simp only [i64_w, i32_w]; rw [c35b0]) | skip)
                  have H' := Aside0.mk H
                  clear H
                  have hnb39 := NB202_193.out
                  have hnc39 := NB193_202.out
                  have hnb40 := NB202_197.out
                  have hnc40 := NB197_202.out
                  have hcz41_0 : wc.cell? ⟨gb202, 0, none⟩ = some (.int .u8 t198) := (blk_cell BK202.out 0).trans rfl
                  have hcz41_1 : wc.cell? ⟨gb202, 1, none⟩ = some (.int .i32 x203001_4) := (blk_cell BK202.out 1).trans rfl
                  have hcz41_2 : wc.cell? ⟨gb202, 2, none⟩ = some (.int .i32 x203002_26) := (blk_cell BK202.out 2).trans rfl
                  have hcz41_3 : wc.cell? ⟨gb202, 3, none⟩ = some (.int .i32 0) := (blk_cell BK202.out 3).trans rfl
                  have hfz41_0 := blk_frozen BK202.out 0
                  have hfz41_1 := blk_frozen BK202.out 1
                  have hfz41_2 := blk_frozen BK202.out 2
                  have hfz41_3 := blk_frozen BK202.out 3
                  go_wp2
                  go_meet
                  case rel => exact ⟨_, (!a1), (by first | rfl | (simp; done) | (simp [*]; done)), H', ⟨by have := HJ4.out; have := HJ18.out; have := HJ26.out; first | omega | exact Nat.le_refl _⟩, ⟨by (with_reducible repeat (first | refine blk_drewN ?_ _ | refine blk_drew ?_ | refine blk_alloc ?_ _)); exact BK193.out⟩, ⟨by (with_reducible repeat (first | refine blk_drewN ?_ _ | refine blk_drew ?_ | refine blk_alloc ?_ _)); exact BK202.out⟩, ⟨by repeat (first | (with_reducible first | exact HI197.out | apply IsS71.alloc | apply IsS71.drewN | apply IsS71.drew | apply IsS71.set_0 | apply IsS71.set_1 | apply IsS71.set_2 | refine IsS71.far ?_ NB197_193.out _ | refine IsS71.far ?_ NB197_202.out _) | exact HI197.out)⟩, ⟨by repeat (first | (with_reducible first | exact HB.out | apply below_alloc | apply pw_below_drewN | apply below_drew1 | refine below_set ?_ (IsS71.ge HI197.out) | refine below_set ?_ GE193.out | refine below_set ?_ GE202.out) | exact HB.out)⟩⟩
              case rest =>
                clear HC34
                try clear c1
                try clear c2
                try clear p2
                try clear c3
                try clear p3
                try clear c4
                try clear c10
                try clear c11
                try clear c12
                try clear c13
                try clear c13b0
                try clear c13b1
                try clear c16
                try clear c17
                try clear c18
                try clear c19
                try clear c20
                try clear c20b0
                try clear c20b1
                try clear c21
                try clear c22
                try clear c24
                try clear c25
                try clear c28
                try clear c31
                try clear c32
                try clear p32
                try clear c35
                try clear c35b0
                try clear c35b1
                try clear c36
                try clear c37
                try clear c39
                try clear c40
                try clear hcz12_0
                try clear hcz12_1
                try clear hcz12_2
                try clear hcz12_3
                try clear hcz18_0
                try clear hcz18_1
                try clear hcz18_2
                try clear hcz18_3
                try clear hcz23_0
                try clear hcz23_1
                try clear hcz23_2
                try clear hcz23_3
                try clear hcz26_0
                try clear hcz26_1
                try clear hcz26_2
                try clear hcz26_3
                try clear hcz33_0
                try clear hcz33_1
                try clear hcz33_2
                try clear hcz33_3
                try clear hcz38_0
                try clear hcz38_1
                try clear hcz38_2
                try clear hcz38_3
                try clear hcz41_0
                try clear hcz41_1
                try clear hcz41_2
                try clear hcz41_3
                try clear hfz12_0
                try clear hfz12_1
                try clear hfz12_2
                try clear hfz12_3
                try clear hfz18_0
                try clear hfz18_1
                try clear hfz18_2
                try clear hfz18_3
                try clear hfz23_0
                try clear hfz23_1
                try clear hfz23_2
                try clear hfz23_3
                try clear hfz26_0
                try clear hfz26_1
                try clear hfz26_2
                try clear hfz26_3
                try clear hfz33_0
                try clear hfz33_1
                try clear hfz33_2
                try clear hfz33_3
                try clear hfz38_0
                try clear hfz38_1
                try clear hfz38_2
                try clear hfz38_3
                try clear hfz41_0
                try clear hfz41_1
                try clear hfz41_2
                try clear hfz41_3
                try clear p2
                try clear p3
                try clear p32
                obtain ⟨kq, x40_33, rfl, HA, HJ33, BK193, BK202, HI197, HB⟩ := hcut
                cases kq with
                | zero => exact absurd HA.out (by simp [field_ParseStamp.j3])
                | succ kj33 =>
                  have H := HA.out
                  clear HA
                  simp only [field_ParseStamp.j3] at H
                  have HC42 := Aside0.mk H
                  clear H
                  go_upto_if 40 with (fail)
                  go_cut [] (fun wc => ∃ (kq : Nat) (x198000_41 : ByteArray) (x198001_41 : Int) (x198002_41 : Int) (x203003_41 : Int), Aside0 (field_ParseStamp.j4 kq a1 x198000_41 x198001_41 x198002_41 t198 x203001_4 x203002_26 x203003_41 = some (r1, r2, r3, r4, r5)) ∧ Aside0 (kq ≤ kj33) ∧ Aside0 (wc.heap[gb193]? = some (.cells #[.int .u8 0, .int .i32 0, .int .i32 0, .int .i32 0] 35 (0, 0))) ∧ Aside0 (wc.heap[gb202]? = some (.cells #[.int .u8 t198, .int .i32 x203001_4, .int .i32 x203002_26, .int .i32 x203003_41] 35 (0, 0))) ∧ Aside0 (IsS71 w wc g197 x198000_41 x198001_41 x198002_41) ∧ Aside0 (Below w.heap.size w wc))
                  case first =>
                    have H := HC42.out
                    clear HC42
                    by_cases c43 : x40_33 = true
                    · subst c43
                      have H1 : ((cursor_Cursor_Four.f kj33 x198000_26 x198001_26 x198002_26).bind fun bt211 => (field_ParseStamp.j4 kj33 a1 bt211.2.1 bt211.2.2.1 bt211.2.2.2 t198 x203001_4 x203002_26 (wrap32 (bt211.1)))) = some (r1, r2, r3, r4, r5) := by rw [if_pos rfl] at H; exact H
                      clear H
                      have H := H1
                      clear H1
                      replace H := Option.bind_eq_some_iff.mp H
                      obtain ⟨⟨t211, t212, t213, t214⟩, A440, H⟩ := H
                      replace H : (field_ParseStamp.j4 kj33 a1 t212 t213 t214 t198 x203001_4 x203002_26 (wrap32 (t211))) = some (r1, r2, r3, r4, r5) := H
                      have A44 := Aside0.mk A440
                      clear A440
                      have H' := Aside0.mk H
                      clear H
                      go_wp2_with (first | ((with_reducible refine gate_callee (f := 19) rfl ?_); refine goesL_ (some 42) rfl rfl Tryd.func19 (by kernel_rfl) rfl #[.pointer (some ⟨g197, 0, none⟩)] rfl (by (try simp only [List.map_toArray, List.map_cons, List.map_nil]); first | done | rfl | (simp only [List.length_drop, List.length_take]; rfl)) ?_; (with_reducible refine (cursor_Cursor_Four.calls kj33 g197 x198000_26 x198001_26 x198002_26 t211 t212 t213 t214 w _ ?side1 ?side2 A44.out).mono ?_); (case side1 => repeat (first | (with_reducible first | exact HI197.out | apply IsS71.alloc | apply IsS71.drewN | apply IsS71.drew | apply IsS71.set_0 | apply IsS71.set_1 | apply IsS71.set_2 | refine IsS71.far ?_ NB197_193.out _ | refine IsS71.far ?_ NB197_202.out _) | exact HI197.out)); (case side2 => repeat (first | (with_reducible first | exact HB.out | apply below_alloc | apply pw_below_drewN | apply below_drew1 | refine below_set ?_ (IsS71.ge HI197.out) | refine below_set ?_ GE193.out | refine below_set ?_ GE202.out) | exact HB.out)); rintro e w45 ⟨rfl, hi, hb, hk⟩; refine ⟨_, rfl, ?_⟩; have n0_ := Aside0.mk (KeepBut.blk hk (g' := gb193) (o := .cells #[.int .u8 0, .int .i32 0, .int .i32 0, .int .i32 0] 35 (0, 0)) (by (with_reducible repeat (first | refine blk_drewN ?_ _ | refine blk_drew ?_ | refine blk_alloc ?_ _)); exact BK193.out) NB193_197.out (by simp)); have n1_ := Aside0.mk (KeepBut.blk hk (g' := gb202) (o := .cells #[.int .u8 t198, .int .i32 x203001_4, .int .i32 x203002_26, .int .i32 0] 35 (0, 0)) (by (with_reducible repeat (first | refine blk_drewN ?_ _ | refine blk_drew ?_ | refine blk_alloc ?_ _)); exact BK202.out) NB202_197.out (by simp)); have n2_ := Aside0.mk (hb); have n3_ := Aside0.mk (hi); clear BK193; clear BK202; clear HB; clear HI197; have BK193 := n0_; have BK202 := n1_; have HB := n2_; have HI197 := n3_; clear n0_ n1_ n2_ n3_; (try clear hb); (try clear hb2); (try clear hk); (try clear hi); have hnb46 := NB202_193.out; have hnc46 := NB193_202.out; have hnb47 := NB202_197.out; have hnc47 := NB197_202.out; have hcz48_0 : w45.cell? ⟨gb202, 0, none⟩ = some (.int .u8 t198) := (blk_cell BK202.out 0).trans rfl; have hcz48_1 : w45.cell? ⟨gb202, 1, none⟩ = some (.int .i32 x203001_4) := (blk_cell BK202.out 1).trans rfl; have hcz48_2 : w45.cell? ⟨gb202, 2, none⟩ = some (.int .i32 x203002_26) := (blk_cell BK202.out 2).trans rfl; have hcz48_3 : w45.cell? ⟨gb202, 3, none⟩ = some (.int .i32 0) := (blk_cell BK202.out 3).trans rfl; have hfz48_0 := blk_frozen BK202.out 0; have hfz48_1 := blk_frozen BK202.out 1; have hfz48_2 := blk_frozen BK202.out 2; have hfz48_3 := blk_frozen BK202.out 3))
                      go_meet
                      case rel => exact ⟨_, (t212), (t213), (t214), (wrap32 (t211)), H', ⟨by have := HJ4.out; have := HJ18.out; have := HJ26.out; have := HJ33.out; first | omega | exact Nat.le_refl _⟩, ⟨by (with_reducible repeat (first | refine blk_drewN ?_ _ | refine blk_drew ?_ | refine blk_alloc ?_ _)); refine blk_far ?_ NB193_202.out _; (with_reducible repeat (first | refine blk_drewN ?_ _ | refine blk_drew ?_ | refine blk_alloc ?_ _)); exact BK193.out⟩, ⟨by (with_reducible repeat (first | refine blk_drewN ?_ _ | refine blk_drew ?_ | refine blk_alloc ?_ _)); refine blk_put (cs := #[.int .u8 t198, .int .i32 x203001_4, .int .i32 x203002_26, .int .i32 0]) ?_ 3 _ rfl; (with_reducible repeat (first | refine blk_drewN ?_ _ | refine blk_drew ?_ | refine blk_alloc ?_ _)); exact BK202.out⟩, ⟨by repeat (first | (with_reducible first | exact HI197.out | apply IsS71.alloc | apply IsS71.drewN | apply IsS71.drew | apply IsS71.set_0 | apply IsS71.set_1 | apply IsS71.set_2 | refine IsS71.far ?_ NB197_193.out _ | refine IsS71.far ?_ NB197_202.out _) | exact HI197.out)⟩, ⟨by repeat (first | (with_reducible first | exact HB.out | apply below_alloc | apply pw_below_drewN | apply below_drew1 | refine below_set ?_ (IsS71.ge HI197.out) | refine below_set ?_ GE193.out | refine below_set ?_ GE202.out) | exact HB.out)⟩⟩
                    · replace c43 := Bool.eq_false_iff.mpr c43
                      subst c43
                      have H1 : (field_ParseStamp.j4 kj33 a1 x198000_26 x198001_26 x198002_26 t198 x203001_4 x203002_26 0) = some (r1, r2, r3, r4, r5) := by rw [if_neg (show ¬ (false = true) by decide)] at H; exact H
                      clear H
                      have H := H1
                      clear H1
                      have H' := Aside0.mk H
                      clear H
                      go_wp2
                      go_meet
                      case rel => exact ⟨_, (x198000_26), (x198001_26), (x198002_26), (0), H', ⟨by have := HJ4.out; have := HJ18.out; have := HJ26.out; have := HJ33.out; first | omega | exact Nat.le_refl _⟩, ⟨by (with_reducible repeat (first | refine blk_drewN ?_ _ | refine blk_drew ?_ | refine blk_alloc ?_ _)); exact BK193.out⟩, ⟨by (with_reducible repeat (first | refine blk_drewN ?_ _ | refine blk_drew ?_ | refine blk_alloc ?_ _)); exact BK202.out⟩, ⟨by repeat (first | (with_reducible first | exact HI197.out | apply IsS71.alloc | apply IsS71.drewN | apply IsS71.drew | apply IsS71.set_0 | apply IsS71.set_1 | apply IsS71.set_2 | refine IsS71.far ?_ NB197_193.out _ | refine IsS71.far ?_ NB197_202.out _) | exact HI197.out)⟩, ⟨by repeat (first | (with_reducible first | exact HB.out | apply below_alloc | apply pw_below_drewN | apply below_drew1 | refine below_set ?_ (IsS71.ge HI197.out) | refine below_set ?_ GE193.out | refine below_set ?_ GE202.out) | exact HB.out)⟩⟩
                  case rest =>
                    clear HC42
                    try clear c1
                    try clear c2
                    try clear p2
                    try clear c3
                    try clear p3
                    try clear c4
                    try clear c10
                    try clear c11
                    try clear c12
                    try clear c13
                    try clear c13b0
                    try clear c13b1
                    try clear c16
                    try clear c17
                    try clear c18
                    try clear c19
                    try clear c20
                    try clear c20b0
                    try clear c20b1
                    try clear c21
                    try clear c22
                    try clear c24
                    try clear c25
                    try clear c28
                    try clear c31
                    try clear c32
                    try clear p32
                    try clear c35
                    try clear c35b0
                    try clear c35b1
                    try clear c36
                    try clear c37
                    try clear c39
                    try clear c40
                    try clear c43
                    try clear c46
                    try clear c47
                    try clear hcz12_0
                    try clear hcz12_1
                    try clear hcz12_2
                    try clear hcz12_3
                    try clear hcz18_0
                    try clear hcz18_1
                    try clear hcz18_2
                    try clear hcz18_3
                    try clear hcz23_0
                    try clear hcz23_1
                    try clear hcz23_2
                    try clear hcz23_3
                    try clear hcz26_0
                    try clear hcz26_1
                    try clear hcz26_2
                    try clear hcz26_3
                    try clear hcz33_0
                    try clear hcz33_1
                    try clear hcz33_2
                    try clear hcz33_3
                    try clear hcz38_0
                    try clear hcz38_1
                    try clear hcz38_2
                    try clear hcz38_3
                    try clear hcz41_0
                    try clear hcz41_1
                    try clear hcz41_2
                    try clear hcz41_3
                    try clear hcz48_0
                    try clear hcz48_1
                    try clear hcz48_2
                    try clear hcz48_3
                    try clear hfz12_0
                    try clear hfz12_1
                    try clear hfz12_2
                    try clear hfz12_3
                    try clear hfz18_0
                    try clear hfz18_1
                    try clear hfz18_2
                    try clear hfz18_3
                    try clear hfz23_0
                    try clear hfz23_1
                    try clear hfz23_2
                    try clear hfz23_3
                    try clear hfz26_0
                    try clear hfz26_1
                    try clear hfz26_2
                    try clear hfz26_3
                    try clear hfz33_0
                    try clear hfz33_1
                    try clear hfz33_2
                    try clear hfz33_3
                    try clear hfz38_0
                    try clear hfz38_1
                    try clear hfz38_2
                    try clear hfz38_3
                    try clear hfz41_0
                    try clear hfz41_1
                    try clear hfz41_2
                    try clear hfz41_3
                    try clear hfz48_0
                    try clear hfz48_1
                    try clear hfz48_2
                    try clear hfz48_3
                    try clear p2
                    try clear p3
                    try clear p32
                    obtain ⟨kq, x198000_41, x198001_41, x198002_41, x203003_41, HA, HJ41, BK193, BK202, HI197, HB⟩ := hcut
                    cases kq with
                    | zero => exact absurd HA.out (by simp [field_ParseStamp.j4])
                    | succ kj41 =>
                      have H := HA.out
                      clear HA
                      simp only [field_ParseStamp.j4] at H
                      replace H := Option.bind_eq_some_iff.mp H
                      obtain ⟨⟨t215, t216, t217, t218⟩, A490, H⟩ := H
                      replace H : (if t215 = 0 then (if t198 > 7 then (some (0, 0, 0, 0, 24)) else ((cursor_Cursor_Left.f t216 t217 t218).bind fun bt219 => (if bt219.1 > 0 then (if a1 = true then (some (t198, x203001_4, x203002_26, x203003_41, 0)) else (some (0, 0, 0, 0, 24))) else (some (t198, x203001_4, x203002_26, x203003_41, 0))))) else (some (0, 0, 0, 0, 24))) = some (r1, r2, r3, r4, r5) := H
                      have A49 := Aside0.mk A490
                      clear A490
                      by_cases c50 : t215 = 0
                      · rw [if_pos c50] at H
                        have c50b0 : (t215 == 0) = true := beq_iff_eq.mpr c50
                        have c50b1 : (t215 != 0) = false := bne_eq_false_iff_eq.mpr c50
                        clear c50
                        by_cases c51 : t198 > 7
                        · rw [if_pos c51] at H
                          have c51b0 : decide (7 < t198) = true := decide_eq_true c51
                          clear c51
                          simp only [Option.some.injEq, Prod.mk.injEq] at H
                          obtain ⟨rfl, rfl, rfl, rfl, rfl⟩ := H
                          go_wp2_with (first | ((with_reducible refine gate_callee (f := 22) rfl ?_); refine goesL_ (some 46) rfl rfl Tryd.func22 (by kernel_rfl) rfl #[.pointer (some ⟨g197, 0, none⟩)] rfl (by (try simp only [List.map_toArray, List.map_cons, List.map_nil]); first | done | rfl | (simp only [List.length_drop, List.length_take]; rfl)) ?_; (with_reducible refine (cursor_Cursor_Err.calls g197 x198000_41 x198001_41 x198002_41 t215 t216 t217 t218 w _ ?side1 ?side2 A49.out).mono ?_); (case side1 => repeat (first | (with_reducible first | exact HI197.out | apply IsS71.alloc | apply IsS71.drewN | apply IsS71.drew | apply IsS71.set_0 | apply IsS71.set_1 | apply IsS71.set_2 | refine IsS71.far ?_ NB197_193.out _ | refine IsS71.far ?_ NB197_202.out _) | exact HI197.out)); (case side2 => repeat (first | (with_reducible first | exact HB.out | apply below_alloc | apply pw_below_drewN | apply below_drew1 | refine below_set ?_ (IsS71.ge HI197.out) | refine below_set ?_ GE193.out | refine below_set ?_ GE202.out) | exact HB.out)); rintro e w52 ⟨rfl, hi, hb, hk⟩; refine ⟨_, rfl, ?_⟩; have n0_ := Aside0.mk (KeepBut.blk hk (g' := gb193) (o := .cells #[.int .u8 0, .int .i32 0, .int .i32 0, .int .i32 0] 35 (0, 0)) (by (with_reducible repeat (first | refine blk_drewN ?_ _ | refine blk_drew ?_ | refine blk_alloc ?_ _)); exact BK193.out) NB193_197.out (by simp)); have n1_ := Aside0.mk (KeepBut.blk hk (g' := gb202) (o := .cells #[.int .u8 t198, .int .i32 x203001_4, .int .i32 x203002_26, .int .i32 x203003_41] 35 (0, 0)) (by (with_reducible repeat (first | refine blk_drewN ?_ _ | refine blk_drew ?_ | refine blk_alloc ?_ _)); exact BK202.out) NB202_197.out (by simp)); have n2_ := Aside0.mk (hb); have n3_ := Aside0.mk (hi); clear BK193; clear BK202; clear HB; clear HI197; have BK193 := n0_; have BK202 := n1_; have HB := n2_; have HI197 := n3_; clear n0_ n1_ n2_ n3_; (try clear hb); (try clear hb2); (try clear hk); (try clear hi); have hnb53 := NB202_193.out; have hnc53 := NB193_202.out; have hnb54 := NB202_197.out; have hnc54 := NB197_202.out; have hcz55_0 : w52.cell? ⟨gb202, 0, none⟩ = some (.int .u8 t198) := (blk_cell BK202.out 0).trans rfl; have hcz55_1 : w52.cell? ⟨gb202, 1, none⟩ = some (.int .i32 x203001_4) := (blk_cell BK202.out 1).trans rfl; have hcz55_2 : w52.cell? ⟨gb202, 2, none⟩ = some (.int .i32 x203002_26) := (blk_cell BK202.out 2).trans rfl; have hcz55_3 : w52.cell? ⟨gb202, 3, none⟩ = some (.int .i32 x203003_41) := (blk_cell BK202.out 3).trans rfl; have hfz55_0 := blk_frozen BK202.out 0; have hfz55_1 := blk_frozen BK202.out 1; have hfz55_2 := blk_frozen BK202.out 2; have hfz55_3 := blk_frozen BK202.out 3; have hnb56 := NB193_197.out; have hnc56 := NB197_193.out; have hcz57_0 : w52.cell? ⟨gb193, 0, none⟩ = some (.int .u8 0) := (blk_cell BK193.out 0).trans rfl; have hcz57_1 : w52.cell? ⟨gb193, 1, none⟩ = some (.int .i32 0) := (blk_cell BK193.out 1).trans rfl; have hcz57_2 : w52.cell? ⟨gb193, 2, none⟩ = some (.int .i32 0) := (blk_cell BK193.out 2).trans rfl; have hcz57_3 : w52.cell? ⟨gb193, 3, none⟩ = some (.int .i32 0) := (blk_cell BK193.out 3).trans rfl; have hfz57_0 := blk_frozen BK193.out 0; have hfz57_1 := blk_frozen BK193.out 1; have hfz57_2 := blk_frozen BK193.out 2; have hfz57_3 := blk_frozen BK193.out 3))
                          refine bodyPost_ret (results_ct rfl _ _ gb193 35 #[.int .u8 0, .int .i32 0, .int .i32 0, .int .i32 0] (0, 0) _ rfl (by (with_reducible repeat (first | refine blk_drewN ?_ _ | refine blk_drew ?_ | refine blk_alloc ?_ _)); refine blk_put (cs := #[.int .u8 0, .int .i32 0, .int .i32 0, .int .i32 0]) ?_ 3 _ rfl; (with_reducible repeat (first | refine blk_drewN ?_ _ | refine blk_drew ?_ | refine blk_alloc ?_ _)); refine blk_put (cs := #[.int .u8 0, .int .i32 0, .int .i32 0, .int .i32 0]) ?_ 2 _ rfl; (with_reducible repeat (first | refine blk_drewN ?_ _ | refine blk_drew ?_ | refine blk_alloc ?_ _)); refine blk_put (cs := #[.int .u8 0, .int .i32 0, .int .i32 0, .int .i32 0]) ?_ 1 _ rfl; (with_reducible repeat (first | refine blk_drewN ?_ _ | refine blk_drew ?_ | refine blk_alloc ?_ _)); refine blk_put (cs := #[.int .u8 0, .int .i32 0, .int .i32 0, .int .i32 0]) ?_ 0 _ rfl; (with_reducible repeat (first | refine blk_drewN ?_ _ | refine blk_drew ?_ | refine blk_alloc ?_ _)); exact BK193.out) Tryd.underlying35 rfl (by kernel_rfl)) rfl ?_
                          exact ⟨by first | rfl | (simp [errW_none, errW_some] <;> rfl) | (simp [*, errW_none, errW_some] <;> rfl), by repeat (first | (with_reducible first | exact HB.out | apply below_alloc | apply pw_below_drewN | apply below_drew1 | refine below_set ?_ (IsS71.ge HI197.out) | refine below_set ?_ GE193.out | refine below_set ?_ GE202.out) | exact HB.out)⟩
                        · rw [if_neg c51] at H
                          have c51b0 : decide (7 < t198) = false := decide_eq_false c51
                          clear c51
                          replace H := Option.bind_eq_some_iff.mp H
                          obtain ⟨⟨t219, t220, t221, t222⟩, A580, H⟩ := H
                          replace H : (if t219 > 0 then (if a1 = true then (some (t198, x203001_4, x203002_26, x203003_41, 0)) else (some (0, 0, 0, 0, 24))) else (some (t198, x203001_4, x203002_26, x203003_41, 0))) = some (r1, r2, r3, r4, r5) := H
                          have A58 := Aside0.mk A580
                          clear A580
                          by_cases c59 : t219 > 0
                          · rw [if_pos c59] at H
                            have c59b0 : decide (0 < t219) = true := decide_eq_true c59
                            clear c59
                            by_cases c60 : a1 = true
                            · subst c60
                              have H1 : (some (t198, x203001_4, x203002_26, x203003_41, 0)) = some (r1, r2, r3, r4, r5) := by rw [if_pos rfl] at H; exact H
                              clear H
                              have H := H1
                              clear H1
                              simp only [Option.some.injEq, Prod.mk.injEq] at H
                              obtain ⟨rfl, rfl, rfl, rfl, rfl⟩ := H
                              go_wp2_with (first | ((with_reducible refine gate_callee (f := 22) rfl ?_); refine goesL_ (some 46) rfl rfl Tryd.func22 (by kernel_rfl) rfl #[.pointer (some ⟨g197, 0, none⟩)] rfl (by (try simp only [List.map_toArray, List.map_cons, List.map_nil]); first | done | rfl | (simp only [List.length_drop, List.length_take]; rfl)) ?_; (with_reducible refine (cursor_Cursor_Err.calls g197 x198000_41 x198001_41 x198002_41 t215 t216 t217 t218 w _ ?side1 ?side2 A49.out).mono ?_); (case side1 => repeat (first | (with_reducible first | exact HI197.out | apply IsS71.alloc | apply IsS71.drewN | apply IsS71.drew | apply IsS71.set_0 | apply IsS71.set_1 | apply IsS71.set_2 | refine IsS71.far ?_ NB197_193.out _ | refine IsS71.far ?_ NB197_202.out _) | exact HI197.out)); (case side2 => repeat (first | (with_reducible first | exact HB.out | apply below_alloc | apply pw_below_drewN | apply below_drew1 | refine below_set ?_ (IsS71.ge HI197.out) | refine below_set ?_ GE193.out | refine below_set ?_ GE202.out) | exact HB.out)); rintro e w61 ⟨rfl, hi, hb, hk⟩; refine ⟨_, rfl, ?_⟩; have n0_ := Aside0.mk (KeepBut.blk hk (g' := gb193) (o := .cells #[.int .u8 0, .int .i32 0, .int .i32 0, .int .i32 0] 35 (0, 0)) (by (with_reducible repeat (first | refine blk_drewN ?_ _ | refine blk_drew ?_ | refine blk_alloc ?_ _)); exact BK193.out) NB193_197.out (by simp)); have n1_ := Aside0.mk (KeepBut.blk hk (g' := gb202) (o := .cells #[.int .u8 t198, .int .i32 x203001_4, .int .i32 x203002_26, .int .i32 x203003_41] 35 (0, 0)) (by (with_reducible repeat (first | refine blk_drewN ?_ _ | refine blk_drew ?_ | refine blk_alloc ?_ _)); exact BK202.out) NB202_197.out (by simp)); have n2_ := Aside0.mk (hb); have n3_ := Aside0.mk (hi); clear BK193; clear BK202; clear HB; clear HI197; have BK193 := n0_; have BK202 := n1_; have HB := n2_; have HI197 := n3_; clear n0_ n1_ n2_ n3_; (try clear hb); (try clear hb2); (try clear hk); (try clear hi); have hnb62 := NB202_193.out; have hnc62 := NB193_202.out; have hnb63 := NB202_197.out; have hnc63 := NB197_202.out; have hcz64_0 : w61.cell? ⟨gb202, 0, none⟩ = some (.int .u8 t198) := (blk_cell BK202.out 0).trans rfl; have hcz64_1 : w61.cell? ⟨gb202, 1, none⟩ = some (.int .i32 x203001_4) := (blk_cell BK202.out 1).trans rfl; have hcz64_2 : w61.cell? ⟨gb202, 2, none⟩ = some (.int .i32 x203002_26) := (blk_cell BK202.out 2).trans rfl; have hcz64_3 : w61.cell? ⟨gb202, 3, none⟩ = some (.int .i32 x203003_41) := (blk_cell BK202.out 3).trans rfl; have hfz64_0 := blk_frozen BK202.out 0; have hfz64_1 := blk_frozen BK202.out 1; have hfz64_2 := blk_frozen BK202.out 2; have hfz64_3 := blk_frozen BK202.out 3) | (go_at_call 21; (with_reducible refine (cursor_Cursor_Left.calls g197 t216 t217 t218 t219 t220 t221 t222 w _ ?side1 ?side2 A58.out).mono ?_); (case side1 => repeat (first | (with_reducible first | exact HI197.out | apply IsS71.alloc | apply IsS71.drewN | apply IsS71.drew | apply IsS71.set_0 | apply IsS71.set_1 | apply IsS71.set_2 | refine IsS71.far ?_ NB197_193.out _ | refine IsS71.far ?_ NB197_202.out _) | exact HI197.out)); (case side2 => repeat (first | (with_reducible first | exact HB.out | apply below_alloc | apply pw_below_drewN | apply below_drew1 | refine below_set ?_ (IsS71.ge HI197.out) | refine below_set ?_ GE193.out | refine below_set ?_ GE202.out) | exact HB.out)); rintro e w65 ⟨rfl, hi, hb, hk⟩; have n0_ := Aside0.mk (KeepBut.blk hk (g' := gb193) (o := .cells #[.int .u8 0, .int .i32 0, .int .i32 0, .int .i32 0] 35 (0, 0)) (by (with_reducible repeat (first | refine blk_drewN ?_ _ | refine blk_drew ?_ | refine blk_alloc ?_ _)); exact BK193.out) NB193_197.out (by simp)); have n1_ := Aside0.mk (KeepBut.blk hk (g' := gb202) (o := .cells #[.int .u8 t198, .int .i32 x203001_4, .int .i32 x203002_26, .int .i32 x203003_41] 35 (0, 0)) (by (with_reducible repeat (first | refine blk_drewN ?_ _ | refine blk_drew ?_ | refine blk_alloc ?_ _)); exact BK202.out) NB202_197.out (by simp)); have n2_ := Aside0.mk (hb); have n3_ := Aside0.mk (hi); clear BK193; clear BK202; clear HB; clear HI197; have BK193 := n0_; have BK202 := n1_; have HB := n2_; have HI197 := n3_; clear n0_ n1_ n2_ n3_; (try clear hb); (try clear hb2); (try clear hk); (try clear hi); have hcz66_0 : w65.cell? ⟨gb202, 0, none⟩ = some (.int .u8 t198) := (blk_cell BK202.out 0).trans rfl; have hcz66_1 : w65.cell? ⟨gb202, 1, none⟩ = some (.int .i32 x203001_4) := (blk_cell BK202.out 1).trans rfl; have hcz66_2 : w65.cell? ⟨gb202, 2, none⟩ = some (.int .i32 x203002_26) := (blk_cell BK202.out 2).trans rfl; have hcz66_3 : w65.cell? ⟨gb202, 3, none⟩ = some (.int .i32 x203003_41) := (blk_cell BK202.out 3).trans rfl; have hfz66_0 := blk_frozen BK202.out 0; have hfz66_1 := blk_frozen BK202.out 1; have hfz66_2 := blk_frozen BK202.out 2; have hfz66_3 := blk_frozen BK202.out 3; have hnb67 := NB193_197.out; have hnc67 := NB197_193.out; have hcz68_0 : w65.cell? ⟨gb193, 0, none⟩ = some (.int .u8 0) := (blk_cell BK193.out 0).trans rfl; have hcz68_1 : w65.cell? ⟨gb193, 1, none⟩ = some (.int .i32 0) := (blk_cell BK193.out 1).trans rfl; have hcz68_2 : w65.cell? ⟨gb193, 2, none⟩ = some (.int .i32 0) := (blk_cell BK193.out 2).trans rfl; have hcz68_3 : w65.cell? ⟨gb193, 3, none⟩ = some (.int .i32 0) := (blk_cell BK193.out 3).trans rfl; have hfz68_0 := blk_frozen BK193.out 0; have hfz68_1 := blk_frozen BK193.out 1; have hfz68_2 := blk_frozen BK193.out 2; have hfz68_3 := blk_frozen BK193.out 3))
                              refine bodyPost_ret (results_ct rfl _ _ gb193 35 #[.int .u8 t198, .int .i32 x203001_4, .int .i32 x203002_26, .int .i32 x203003_41] (0, 0) _ rfl (by (with_reducible repeat (first | refine blk_drewN ?_ _ | refine blk_drew ?_ | refine blk_alloc ?_ _)); refine blk_put (cs := #[.int .u8 t198, .int .i32 x203001_4, .int .i32 x203002_26, .int .i32 0]) ?_ 3 _ rfl; (with_reducible repeat (first | refine blk_drewN ?_ _ | refine blk_drew ?_ | refine blk_alloc ?_ _)); refine blk_put (cs := #[.int .u8 t198, .int .i32 x203001_4, .int .i32 0, .int .i32 0]) ?_ 2 _ rfl; (with_reducible repeat (first | refine blk_drewN ?_ _ | refine blk_drew ?_ | refine blk_alloc ?_ _)); refine blk_put (cs := #[.int .u8 t198, .int .i32 0, .int .i32 0, .int .i32 0]) ?_ 1 _ rfl; (with_reducible repeat (first | refine blk_drewN ?_ _ | refine blk_drew ?_ | refine blk_alloc ?_ _)); refine blk_put (cs := #[.int .u8 0, .int .i32 0, .int .i32 0, .int .i32 0]) ?_ 0 _ rfl; (with_reducible repeat (first | refine blk_drewN ?_ _ | refine blk_drew ?_ | refine blk_alloc ?_ _)); exact BK193.out) Tryd.underlying35 rfl (by kernel_rfl)) rfl ?_
                              exact ⟨by first | rfl | (simp [errW_none, errW_some] <;> rfl) | (simp [*, errW_none, errW_some] <;> rfl), by repeat (first | (with_reducible first | exact HB.out | apply below_alloc | apply pw_below_drewN | apply below_drew1 | refine below_set ?_ (IsS71.ge HI197.out) | refine below_set ?_ GE193.out | refine below_set ?_ GE202.out) | exact HB.out)⟩
                            · replace c60 := Bool.eq_false_iff.mpr c60
                              subst c60
                              have H1 : (some (0, 0, 0, 0, 24)) = some (r1, r2, r3, r4, r5) := by rw [if_neg (show ¬ (false = true) by decide)] at H; exact H
                              clear H
                              have H := H1
                              clear H1
                              simp only [Option.some.injEq, Prod.mk.injEq] at H
                              obtain ⟨rfl, rfl, rfl, rfl, rfl⟩ := H
                              go_wp2_with (first | ((with_reducible refine gate_callee (f := 22) rfl ?_); refine goesL_ (some 46) rfl rfl Tryd.func22 (by kernel_rfl) rfl #[.pointer (some ⟨g197, 0, none⟩)] rfl (by (try simp only [List.map_toArray, List.map_cons, List.map_nil]); first | done | rfl | (simp only [List.length_drop, List.length_take]; rfl)) ?_; (with_reducible refine (cursor_Cursor_Err.calls g197 x198000_41 x198001_41 x198002_41 t215 t216 t217 t218 w _ ?side1 ?side2 A49.out).mono ?_); (case side1 => repeat (first | (with_reducible first | exact HI197.out | apply IsS71.alloc | apply IsS71.drewN | apply IsS71.drew | apply IsS71.set_0 | apply IsS71.set_1 | apply IsS71.set_2 | refine IsS71.far ?_ NB197_193.out _ | refine IsS71.far ?_ NB197_202.out _) | exact HI197.out)); (case side2 => repeat (first | (with_reducible first | exact HB.out | apply below_alloc | apply pw_below_drewN | apply below_drew1 | refine below_set ?_ (IsS71.ge HI197.out) | refine below_set ?_ GE193.out | refine below_set ?_ GE202.out) | exact HB.out)); rintro e w69 ⟨rfl, hi, hb, hk⟩; refine ⟨_, rfl, ?_⟩; have n0_ := Aside0.mk (KeepBut.blk hk (g' := gb193) (o := .cells #[.int .u8 0, .int .i32 0, .int .i32 0, .int .i32 0] 35 (0, 0)) (by (with_reducible repeat (first | refine blk_drewN ?_ _ | refine blk_drew ?_ | refine blk_alloc ?_ _)); exact BK193.out) NB193_197.out (by simp)); have n1_ := Aside0.mk (KeepBut.blk hk (g' := gb202) (o := .cells #[.int .u8 t198, .int .i32 x203001_4, .int .i32 x203002_26, .int .i32 x203003_41] 35 (0, 0)) (by (with_reducible repeat (first | refine blk_drewN ?_ _ | refine blk_drew ?_ | refine blk_alloc ?_ _)); exact BK202.out) NB202_197.out (by simp)); have n2_ := Aside0.mk (hb); have n3_ := Aside0.mk (hi); clear BK193; clear BK202; clear HB; clear HI197; have BK193 := n0_; have BK202 := n1_; have HB := n2_; have HI197 := n3_; clear n0_ n1_ n2_ n3_; (try clear hb); (try clear hb2); (try clear hk); (try clear hi); have hnb70 := NB202_193.out; have hnc70 := NB193_202.out; have hnb71 := NB202_197.out; have hnc71 := NB197_202.out; have hcz72_0 : w69.cell? ⟨gb202, 0, none⟩ = some (.int .u8 t198) := (blk_cell BK202.out 0).trans rfl; have hcz72_1 : w69.cell? ⟨gb202, 1, none⟩ = some (.int .i32 x203001_4) := (blk_cell BK202.out 1).trans rfl; have hcz72_2 : w69.cell? ⟨gb202, 2, none⟩ = some (.int .i32 x203002_26) := (blk_cell BK202.out 2).trans rfl; have hcz72_3 : w69.cell? ⟨gb202, 3, none⟩ = some (.int .i32 x203003_41) := (blk_cell BK202.out 3).trans rfl; have hfz72_0 := blk_frozen BK202.out 0; have hfz72_1 := blk_frozen BK202.out 1; have hfz72_2 := blk_frozen BK202.out 2; have hfz72_3 := blk_frozen BK202.out 3) | (go_at_call 21; (with_reducible refine (cursor_Cursor_Left.calls g197 t216 t217 t218 t219 t220 t221 t222 w _ ?side1 ?side2 A58.out).mono ?_); (case side1 => repeat (first | (with_reducible first | exact HI197.out | apply IsS71.alloc | apply IsS71.drewN | apply IsS71.drew | apply IsS71.set_0 | apply IsS71.set_1 | apply IsS71.set_2 | refine IsS71.far ?_ NB197_193.out _ | refine IsS71.far ?_ NB197_202.out _) | exact HI197.out)); (case side2 => repeat (first | (with_reducible first | exact HB.out | apply below_alloc | apply pw_below_drewN | apply below_drew1 | refine below_set ?_ (IsS71.ge HI197.out) | refine below_set ?_ GE193.out | refine below_set ?_ GE202.out) | exact HB.out)); rintro e w73 ⟨rfl, hi, hb, hk⟩; have n0_ := Aside0.mk (KeepBut.blk hk (g' := gb193) (o := .cells #[.int .u8 0, .int .i32 0, .int .i32 0, .int .i32 0] 35 (0, 0)) (by (with_reducible repeat (first | refine blk_drewN ?_ _ | refine blk_drew ?_ | refine blk_alloc ?_ _)); exact BK193.out) NB193_197.out (by simp)); have n1_ := Aside0.mk (KeepBut.blk hk (g' := gb202) (o := .cells #[.int .u8 t198, .int .i32 x203001_4, .int .i32 x203002_26, .int .i32 x203003_41] 35 (0, 0)) (by (with_reducible repeat (first | refine blk_drewN ?_ _ | refine blk_drew ?_ | refine blk_alloc ?_ _)); exact BK202.out) NB202_197.out (by simp)); have n2_ := Aside0.mk (hb); have n3_ := Aside0.mk (hi); clear BK193; clear BK202; clear HB; clear HI197; have BK193 := n0_; have BK202 := n1_; have HB := n2_; have HI197 := n3_; clear n0_ n1_ n2_ n3_; (try clear hb); (try clear hb2); (try clear hk); (try clear hi); have hnb74 := NB193_197.out; have hnc74 := NB197_193.out; have hcz75_0 : w73.cell? ⟨gb193, 0, none⟩ = some (.int .u8 0) := (blk_cell BK193.out 0).trans rfl; have hcz75_1 : w73.cell? ⟨gb193, 1, none⟩ = some (.int .i32 0) := (blk_cell BK193.out 1).trans rfl; have hcz75_2 : w73.cell? ⟨gb193, 2, none⟩ = some (.int .i32 0) := (blk_cell BK193.out 2).trans rfl; have hcz75_3 : w73.cell? ⟨gb193, 3, none⟩ = some (.int .i32 0) := (blk_cell BK193.out 3).trans rfl; have hfz75_0 := blk_frozen BK193.out 0; have hfz75_1 := blk_frozen BK193.out 1; have hfz75_2 := blk_frozen BK193.out 2; have hfz75_3 := blk_frozen BK193.out 3))
                              refine bodyPost_ret (results_ct rfl _ _ gb193 35 #[.int .u8 0, .int .i32 0, .int .i32 0, .int .i32 0] (0, 0) _ rfl (by (with_reducible repeat (first | refine blk_drewN ?_ _ | refine blk_drew ?_ | refine blk_alloc ?_ _)); refine blk_put (cs := #[.int .u8 0, .int .i32 0, .int .i32 0, .int .i32 0]) ?_ 3 _ rfl; (with_reducible repeat (first | refine blk_drewN ?_ _ | refine blk_drew ?_ | refine blk_alloc ?_ _)); refine blk_put (cs := #[.int .u8 0, .int .i32 0, .int .i32 0, .int .i32 0]) ?_ 2 _ rfl; (with_reducible repeat (first | refine blk_drewN ?_ _ | refine blk_drew ?_ | refine blk_alloc ?_ _)); refine blk_put (cs := #[.int .u8 0, .int .i32 0, .int .i32 0, .int .i32 0]) ?_ 1 _ rfl; (with_reducible repeat (first | refine blk_drewN ?_ _ | refine blk_drew ?_ | refine blk_alloc ?_ _)); refine blk_put (cs := #[.int .u8 0, .int .i32 0, .int .i32 0, .int .i32 0]) ?_ 0 _ rfl; (with_reducible repeat (first | refine blk_drewN ?_ _ | refine blk_drew ?_ | refine blk_alloc ?_ _)); exact BK193.out) Tryd.underlying35 rfl (by kernel_rfl)) rfl ?_
                              exact ⟨by first | rfl | (simp [errW_none, errW_some] <;> rfl) | (simp [*, errW_none, errW_some] <;> rfl), by repeat (first | (with_reducible first | exact HB.out | apply below_alloc | apply pw_below_drewN | apply below_drew1 | refine below_set ?_ (IsS71.ge HI197.out) | refine below_set ?_ GE193.out | refine below_set ?_ GE202.out) | exact HB.out)⟩
                          · rw [if_neg c59] at H
                            have c59b0 : decide (0 < t219) = false := decide_eq_false c59
                            clear c59
                            simp only [Option.some.injEq, Prod.mk.injEq] at H
                            obtain ⟨rfl, rfl, rfl, rfl, rfl⟩ := H
                            go_wp2_with (first | ((with_reducible refine gate_callee (f := 22) rfl ?_); refine goesL_ (some 46) rfl rfl Tryd.func22 (by kernel_rfl) rfl #[.pointer (some ⟨g197, 0, none⟩)] rfl (by (try simp only [List.map_toArray, List.map_cons, List.map_nil]); first | done | rfl | (simp only [List.length_drop, List.length_take]; rfl)) ?_; (with_reducible refine (cursor_Cursor_Err.calls g197 x198000_41 x198001_41 x198002_41 t215 t216 t217 t218 w _ ?side1 ?side2 A49.out).mono ?_); (case side1 => repeat (first | (with_reducible first | exact HI197.out | apply IsS71.alloc | apply IsS71.drewN | apply IsS71.drew | apply IsS71.set_0 | apply IsS71.set_1 | apply IsS71.set_2 | refine IsS71.far ?_ NB197_193.out _ | refine IsS71.far ?_ NB197_202.out _) | exact HI197.out)); (case side2 => repeat (first | (with_reducible first | exact HB.out | apply below_alloc | apply pw_below_drewN | apply below_drew1 | refine below_set ?_ (IsS71.ge HI197.out) | refine below_set ?_ GE193.out | refine below_set ?_ GE202.out) | exact HB.out)); rintro e w76 ⟨rfl, hi, hb, hk⟩; refine ⟨_, rfl, ?_⟩; have n0_ := Aside0.mk (KeepBut.blk hk (g' := gb193) (o := .cells #[.int .u8 0, .int .i32 0, .int .i32 0, .int .i32 0] 35 (0, 0)) (by (with_reducible repeat (first | refine blk_drewN ?_ _ | refine blk_drew ?_ | refine blk_alloc ?_ _)); exact BK193.out) NB193_197.out (by simp)); have n1_ := Aside0.mk (KeepBut.blk hk (g' := gb202) (o := .cells #[.int .u8 t198, .int .i32 x203001_4, .int .i32 x203002_26, .int .i32 x203003_41] 35 (0, 0)) (by (with_reducible repeat (first | refine blk_drewN ?_ _ | refine blk_drew ?_ | refine blk_alloc ?_ _)); exact BK202.out) NB202_197.out (by simp)); have n2_ := Aside0.mk (hb); have n3_ := Aside0.mk (hi); clear BK193; clear BK202; clear HB; clear HI197; have BK193 := n0_; have BK202 := n1_; have HB := n2_; have HI197 := n3_; clear n0_ n1_ n2_ n3_; (try clear hb); (try clear hb2); (try clear hk); (try clear hi); have hnb77 := NB202_193.out; have hnc77 := NB193_202.out; have hnb78 := NB202_197.out; have hnc78 := NB197_202.out; have hcz79_0 : w76.cell? ⟨gb202, 0, none⟩ = some (.int .u8 t198) := (blk_cell BK202.out 0).trans rfl; have hcz79_1 : w76.cell? ⟨gb202, 1, none⟩ = some (.int .i32 x203001_4) := (blk_cell BK202.out 1).trans rfl; have hcz79_2 : w76.cell? ⟨gb202, 2, none⟩ = some (.int .i32 x203002_26) := (blk_cell BK202.out 2).trans rfl; have hcz79_3 : w76.cell? ⟨gb202, 3, none⟩ = some (.int .i32 x203003_41) := (blk_cell BK202.out 3).trans rfl; have hfz79_0 := blk_frozen BK202.out 0; have hfz79_1 := blk_frozen BK202.out 1; have hfz79_2 := blk_frozen BK202.out 2; have hfz79_3 := blk_frozen BK202.out 3) | (go_at_call 21; (with_reducible refine (cursor_Cursor_Left.calls g197 t216 t217 t218 t219 t220 t221 t222 w _ ?side1 ?side2 A58.out).mono ?_); (case side1 => repeat (first | (with_reducible first | exact HI197.out | apply IsS71.alloc | apply IsS71.drewN | apply IsS71.drew | apply IsS71.set_0 | apply IsS71.set_1 | apply IsS71.set_2 | refine IsS71.far ?_ NB197_193.out _ | refine IsS71.far ?_ NB197_202.out _) | exact HI197.out)); (case side2 => repeat (first | (with_reducible first | exact HB.out | apply below_alloc | apply pw_below_drewN | apply below_drew1 | refine below_set ?_ (IsS71.ge HI197.out) | refine below_set ?_ GE193.out | refine below_set ?_ GE202.out) | exact HB.out)); rintro e w80 ⟨rfl, hi, hb, hk⟩; have n0_ := Aside0.mk (KeepBut.blk hk (g' := gb193) (o := .cells #[.int .u8 0, .int .i32 0, .int .i32 0, .int .i32 0] 35 (0, 0)) (by (with_reducible repeat (first | refine blk_drewN ?_ _ | refine blk_drew ?_ | refine blk_alloc ?_ _)); exact BK193.out) NB193_197.out (by simp)); have n1_ := Aside0.mk (KeepBut.blk hk (g' := gb202) (o := .cells #[.int .u8 t198, .int .i32 x203001_4, .int .i32 x203002_26, .int .i32 x203003_41] 35 (0, 0)) (by (with_reducible repeat (first | refine blk_drewN ?_ _ | refine blk_drew ?_ | refine blk_alloc ?_ _)); exact BK202.out) NB202_197.out (by simp)); have n2_ := Aside0.mk (hb); have n3_ := Aside0.mk (hi); clear BK193; clear BK202; clear HB; clear HI197; have BK193 := n0_; have BK202 := n1_; have HB := n2_; have HI197 := n3_; clear n0_ n1_ n2_ n3_; (try clear hb); (try clear hb2); (try clear hk); (try clear hi); have hcz81_0 : w80.cell? ⟨gb202, 0, none⟩ = some (.int .u8 t198) := (blk_cell BK202.out 0).trans rfl; have hcz81_1 : w80.cell? ⟨gb202, 1, none⟩ = some (.int .i32 x203001_4) := (blk_cell BK202.out 1).trans rfl; have hcz81_2 : w80.cell? ⟨gb202, 2, none⟩ = some (.int .i32 x203002_26) := (blk_cell BK202.out 2).trans rfl; have hcz81_3 : w80.cell? ⟨gb202, 3, none⟩ = some (.int .i32 x203003_41) := (blk_cell BK202.out 3).trans rfl; have hfz81_0 := blk_frozen BK202.out 0; have hfz81_1 := blk_frozen BK202.out 1; have hfz81_2 := blk_frozen BK202.out 2; have hfz81_3 := blk_frozen BK202.out 3; have hnb82 := NB193_197.out; have hnc82 := NB197_193.out; have hcz83_0 : w80.cell? ⟨gb193, 0, none⟩ = some (.int .u8 0) := (blk_cell BK193.out 0).trans rfl; have hcz83_1 : w80.cell? ⟨gb193, 1, none⟩ = some (.int .i32 0) := (blk_cell BK193.out 1).trans rfl; have hcz83_2 : w80.cell? ⟨gb193, 2, none⟩ = some (.int .i32 0) := (blk_cell BK193.out 2).trans rfl; have hcz83_3 : w80.cell? ⟨gb193, 3, none⟩ = some (.int .i32 0) := (blk_cell BK193.out 3).trans rfl; have hfz83_0 := blk_frozen BK193.out 0; have hfz83_1 := blk_frozen BK193.out 1; have hfz83_2 := blk_frozen BK193.out 2; have hfz83_3 := blk_frozen BK193.out 3))
                            refine bodyPost_ret (results_ct rfl _ _ gb193 35 #[.int .u8 t198, .int .i32 x203001_4, .int .i32 x203002_26, .int .i32 x203003_41] (0, 0) _ rfl (by (with_reducible repeat (first | refine blk_drewN ?_ _ | refine blk_drew ?_ | refine blk_alloc ?_ _)); refine blk_put (cs := #[.int .u8 t198, .int .i32 x203001_4, .int .i32 x203002_26, .int .i32 0]) ?_ 3 _ rfl; (with_reducible repeat (first | refine blk_drewN ?_ _ | refine blk_drew ?_ | refine blk_alloc ?_ _)); refine blk_put (cs := #[.int .u8 t198, .int .i32 x203001_4, .int .i32 0, .int .i32 0]) ?_ 2 _ rfl; (with_reducible repeat (first | refine blk_drewN ?_ _ | refine blk_drew ?_ | refine blk_alloc ?_ _)); refine blk_put (cs := #[.int .u8 t198, .int .i32 0, .int .i32 0, .int .i32 0]) ?_ 1 _ rfl; (with_reducible repeat (first | refine blk_drewN ?_ _ | refine blk_drew ?_ | refine blk_alloc ?_ _)); refine blk_put (cs := #[.int .u8 0, .int .i32 0, .int .i32 0, .int .i32 0]) ?_ 0 _ rfl; (with_reducible repeat (first | refine blk_drewN ?_ _ | refine blk_drew ?_ | refine blk_alloc ?_ _)); exact BK193.out) Tryd.underlying35 rfl (by kernel_rfl)) rfl ?_
                            exact ⟨by first | rfl | (simp [errW_none, errW_some] <;> rfl) | (simp [*, errW_none, errW_some] <;> rfl), by repeat (first | (with_reducible first | exact HB.out | apply below_alloc | apply pw_below_drewN | apply below_drew1 | refine below_set ?_ (IsS71.ge HI197.out) | refine below_set ?_ GE193.out | refine below_set ?_ GE202.out) | exact HB.out)⟩
                      · rw [if_neg c50] at H
                        have c50b0 : (t215 == 0) = false := beq_eq_false_iff_ne.mpr c50
                        have c50b1 : (t215 != 0) = true := bne_iff_ne.mpr c50
                        simp only [Option.some.injEq, Prod.mk.injEq] at H
                        obtain ⟨rfl, rfl, rfl, rfl, rfl⟩ := H
                        go_wp2_with (first | ((with_reducible refine gate_callee (f := 22) rfl ?_); refine goesL_ (some 46) rfl rfl Tryd.func22 (by kernel_rfl) rfl #[.pointer (some ⟨g197, 0, none⟩)] rfl (by (try simp only [List.map_toArray, List.map_cons, List.map_nil]); first | done | rfl | (simp only [List.length_drop, List.length_take]; rfl)) ?_; (with_reducible refine (cursor_Cursor_Err.calls g197 x198000_41 x198001_41 x198002_41 t215 t216 t217 t218 w _ ?side1 ?side2 A49.out).mono ?_); (case side1 => repeat (first | (with_reducible first | exact HI197.out | apply IsS71.alloc | apply IsS71.drewN | apply IsS71.drew | apply IsS71.set_0 | apply IsS71.set_1 | apply IsS71.set_2 | refine IsS71.far ?_ NB197_193.out _ | refine IsS71.far ?_ NB197_202.out _) | exact HI197.out)); (case side2 => repeat (first | (with_reducible first | exact HB.out | apply below_alloc | apply pw_below_drewN | apply below_drew1 | refine below_set ?_ (IsS71.ge HI197.out) | refine below_set ?_ GE193.out | refine below_set ?_ GE202.out) | exact HB.out)); rintro e w84 ⟨rfl, hi, hb, hk⟩; refine ⟨_, rfl, ?_⟩; have n0_ := Aside0.mk (KeepBut.blk hk (g' := gb193) (o := .cells #[.int .u8 0, .int .i32 0, .int .i32 0, .int .i32 0] 35 (0, 0)) (by (with_reducible repeat (first | refine blk_drewN ?_ _ | refine blk_drew ?_ | refine blk_alloc ?_ _)); exact BK193.out) NB193_197.out (by simp)); have n1_ := Aside0.mk (KeepBut.blk hk (g' := gb202) (o := .cells #[.int .u8 t198, .int .i32 x203001_4, .int .i32 x203002_26, .int .i32 x203003_41] 35 (0, 0)) (by (with_reducible repeat (first | refine blk_drewN ?_ _ | refine blk_drew ?_ | refine blk_alloc ?_ _)); exact BK202.out) NB202_197.out (by simp)); have n2_ := Aside0.mk (hb); have n3_ := Aside0.mk (hi); clear BK193; clear BK202; clear HB; clear HI197; have BK193 := n0_; have BK202 := n1_; have HB := n2_; have HI197 := n3_; clear n0_ n1_ n2_ n3_; (try clear hb); (try clear hb2); (try clear hk); (try clear hi); have hnb85 := NB193_202.out; have hnc85 := NB202_193.out; have hnb86 := NB193_197.out; have hnc86 := NB197_193.out; have hcz87_0 : w84.cell? ⟨gb193, 0, none⟩ = some (.int .u8 0) := (blk_cell BK193.out 0).trans rfl; have hcz87_1 : w84.cell? ⟨gb193, 1, none⟩ = some (.int .i32 0) := (blk_cell BK193.out 1).trans rfl; have hcz87_2 : w84.cell? ⟨gb193, 2, none⟩ = some (.int .i32 0) := (blk_cell BK193.out 2).trans rfl; have hcz87_3 : w84.cell? ⟨gb193, 3, none⟩ = some (.int .i32 0) := (blk_cell BK193.out 3).trans rfl; have hfz87_0 := blk_frozen BK193.out 0; have hfz87_1 := blk_frozen BK193.out 1; have hfz87_2 := blk_frozen BK193.out 2; have hfz87_3 := blk_frozen BK193.out 3))
                        refine bodyPost_ret (results_ct rfl _ _ gb193 35 #[.int .u8 0, .int .i32 0, .int .i32 0, .int .i32 0] (0, 0) _ rfl (by (with_reducible repeat (first | refine blk_drewN ?_ _ | refine blk_drew ?_ | refine blk_alloc ?_ _)); refine blk_put (cs := #[.int .u8 0, .int .i32 0, .int .i32 0, .int .i32 0]) ?_ 3 _ rfl; (with_reducible repeat (first | refine blk_drewN ?_ _ | refine blk_drew ?_ | refine blk_alloc ?_ _)); refine blk_put (cs := #[.int .u8 0, .int .i32 0, .int .i32 0, .int .i32 0]) ?_ 2 _ rfl; (with_reducible repeat (first | refine blk_drewN ?_ _ | refine blk_drew ?_ | refine blk_alloc ?_ _)); refine blk_put (cs := #[.int .u8 0, .int .i32 0, .int .i32 0, .int .i32 0]) ?_ 1 _ rfl; (with_reducible repeat (first | refine blk_drewN ?_ _ | refine blk_drew ?_ | refine blk_alloc ?_ _)); refine blk_put (cs := #[.int .u8 0, .int .i32 0, .int .i32 0, .int .i32 0]) ?_ 0 _ rfl; (with_reducible repeat (first | refine blk_drewN ?_ _ | refine blk_drew ?_ | refine blk_alloc ?_ _)); exact BK193.out) Tryd.underlying35 rfl (by kernel_rfl)) rfl ?_
                        exact ⟨by first | rfl | (simp [errW_none, errW_some] <;> rfl) | (simp [*, errW_none, errW_some] <;> rfl), by repeat (first | (with_reducible first | exact HB.out | apply below_alloc | apply pw_below_drewN | apply below_drew1 | refine below_set ?_ (IsS71.ge HI197.out) | refine below_set ?_ GE193.out | refine below_set ?_ GE202.out) | exact HB.out)⟩

end Go.Proofs.YtloojhhjljneeaaDoor.P
