/- Written by a program of this session (wip/print2: a patched copy of a printer), not by print.sh: Lean functions with the answers of the Go functions, and the proofs of that; no condition beside those that stand in each theorem. -/
import Derived.Test.YtloojhhjljneeaaPx0
import Derived.Test.YtloojhhjljneeaaPx2
import Derived.Test.YtloojhhjljneeaaPx3
namespace Go.Proofs.Ytloojhhjljneeaa.P
open Go.RowKit Go.Proofs.YtloojhhjljneeaaW.PrintWords Go.Proofs.YtloojhhjljneeaaW.PrintLast Go.Proofs.YtloojhhjljneeaaW.PrintMore
attribute [local go_sem] max2_int min2_int max_two min_two max_three min_three max_four min_four   -- for this text's walks alone
set_option linter.unusedVariables false
set_option linter.unusedSimpArgs false

/-! ### field_ParseStamp: function 13 -/
mutual
def field_ParseStamp.j0 : Nat → Bool → ByteArray → Int → Int → Int → Int → Int → Int → Option (Int × Int × Int × Int × Int)
  | 0, _, _, _, _, _, _, _, _ => none
  | k + 1, x1, x125000, x125001, x125002, x130000, x130001, x130002, x130003 => if (Go.bits .and .u8 x130000 2) = 0 then (field_ParseStamp.j1 k x1 false x125000 x125001 x125002 x130000 x130001 x130002 x130003) else (field_ParseStamp.j1 k x1 (!x1) x125000 x125001 x125002 x130000 x130001 x130002 x130003)
def field_ParseStamp.j1 : Nat → Bool → Bool → ByteArray → Int → Int → Int → Int → Int → Int → Option (Int × Int × Int × Int × Int)
  | 0, _, _, _, _, _, _, _, _, _ => none
  | k + 1, x1, x28, x125000, x125001, x125002, x130000, x130001, x130002, x130003 => if x28 = true then ((cursor_Cursor_Four.f k x125000 x125001 x125002).bind fun bt134 => (field_ParseStamp.j2 k x1 bt134.2.1 bt134.2.2.1 bt134.2.2.2 x130000 x130001 (wrap32 (bt134.1)) x130003)) else (field_ParseStamp.j2 k x1 x125000 x125001 x125002 x130000 x130001 x130002 x130003)
def field_ParseStamp.j2 : Nat → Bool → ByteArray → Int → Int → Int → Int → Int → Int → Option (Int × Int × Int × Int × Int)
  | 0, _, _, _, _, _, _, _, _ => none
  | k + 1, x1, x125000, x125001, x125002, x130000, x130001, x130002, x130003 => if (Go.bits .and .u8 x130000 4) = 0 then (field_ParseStamp.j3 k x1 false x125000 x125001 x125002 x130000 x130001 x130002 x130003) else (field_ParseStamp.j3 k x1 (!x1) x125000 x125001 x125002 x130000 x130001 x130002 x130003)
def field_ParseStamp.j3 : Nat → Bool → Bool → ByteArray → Int → Int → Int → Int → Int → Int → Option (Int × Int × Int × Int × Int)
  | 0, _, _, _, _, _, _, _, _, _ => none
  | k + 1, x1, x40, x125000, x125001, x125002, x130000, x130001, x130002, x130003 => if x40 = true then ((cursor_Cursor_Four.f k x125000 x125001 x125002).bind fun bt138 => (field_ParseStamp.j4 k x1 bt138.2.1 bt138.2.2.1 bt138.2.2.2 x130000 x130001 x130002 (wrap32 (bt138.1)))) else (field_ParseStamp.j4 k x1 x125000 x125001 x125002 x130000 x130001 x130002 x130003)
def field_ParseStamp.j4 : Nat → Bool → ByteArray → Int → Int → Int → Int → Int → Int → Option (Int × Int × Int × Int × Int)
  | 0, _, _, _, _, _, _, _, _ => none
  | k + 1, x1, x125000, x125001, x125002, x130000, x130001, x130002, x130003 => (cursor_Cursor_Err.f x125000 x125001 x125002).bind fun bt142 => (if bt142.1 = 0 then (if x130000 > 7 then (some (0, 0, 0, 0, 24)) else ((cursor_Cursor_Left.f bt142.2.1 bt142.2.2.1 bt142.2.2.2).bind fun bt146 => (if bt146.1 > 0 then (if x1 = true then (some (x130000, x130001, x130002, x130003, 0)) else (some (0, 0, 0, 0, 24))) else (some (x130000, x130001, x130002, x130003, 0))))) else (some (0, 0, 0, 0, 24)))
end
def field_ParseStamp.f (k : Nat) (a0 : ByteArray) (a1 : Bool) : Option (Int × Int × Int × Int × Int) := (cursor_Over.f a0).bind fun bt121 => ((cursor_Cursor_One.f k bt121.1 bt121.2.1 bt121.2.2).bind fun bt125 => (if (Go.bits .and .u8 bt125.1 1) = 0 then (field_ParseStamp.j0 k a1 bt125.2.1 bt125.2.2.1 bt125.2.2.2 bt125.1 0 0 0) else ((cursor_Cursor_Four.f k bt125.2.1 bt125.2.2.1 bt125.2.2.2).bind fun bt130 => (field_ParseStamp.j0 k a1 bt130.2.1 bt130.2.2.1 bt130.2.2.2 bt125.1 (wrap32 (bt130.1)) 0 0))))
theorem field_ParseStamp.mono_l : ∀ k, (∀ y0 y1 y2 y3 y4 y5 y6 y7, LeO (field_ParseStamp.j0 k y0 y1 y2 y3 y4 y5 y6 y7) (field_ParseStamp.j0 (k + 1) y0 y1 y2 y3 y4 y5 y6 y7)) ∧ (∀ y0 y1 y2 y3 y4 y5 y6 y7 y8, LeO (field_ParseStamp.j1 k y0 y1 y2 y3 y4 y5 y6 y7 y8) (field_ParseStamp.j1 (k + 1) y0 y1 y2 y3 y4 y5 y6 y7 y8)) ∧ (∀ y0 y1 y2 y3 y4 y5 y6 y7, LeO (field_ParseStamp.j2 k y0 y1 y2 y3 y4 y5 y6 y7) (field_ParseStamp.j2 (k + 1) y0 y1 y2 y3 y4 y5 y6 y7)) ∧ (∀ y0 y1 y2 y3 y4 y5 y6 y7 y8, LeO (field_ParseStamp.j3 k y0 y1 y2 y3 y4 y5 y6 y7 y8) (field_ParseStamp.j3 (k + 1) y0 y1 y2 y3 y4 y5 y6 y7 y8)) ∧ (∀ y0 y1 y2 y3 y4 y5 y6 y7, LeO (field_ParseStamp.j4 k y0 y1 y2 y3 y4 y5 y6 y7) (field_ParseStamp.j4 (k + 1) y0 y1 y2 y3 y4 y5 y6 y7))
  | 0 => ⟨fun _ _ _ _ _ _ _ _ r h => by simp [field_ParseStamp.j0] at h, fun _ _ _ _ _ _ _ _ _ r h => by simp [field_ParseStamp.j1] at h, fun _ _ _ _ _ _ _ _ r h => by simp [field_ParseStamp.j2] at h, fun _ _ _ _ _ _ _ _ _ r h => by simp [field_ParseStamp.j3] at h, fun _ _ _ _ _ _ _ _ r h => by simp [field_ParseStamp.j4] at h⟩
  | k + 1 => by
    obtain ⟨ih0, ih1, ih2, ih3, ih4⟩ := field_ParseStamp.mono_l k
    refine ⟨?_, ?_, ?_, ?_, ?_⟩
    · intro y0 y1 y2 y3 y4 y5 y6 y7
      unfold field_ParseStamp.j0
      repeat' first
      | (with_reducible exact ih0 _ _ _ _ _ _ _ _)
      | (with_reducible exact ih1 _ _ _ _ _ _ _ _ _)
      | (with_reducible exact ih2 _ _ _ _ _ _ _ _)
      | (with_reducible exact ih3 _ _ _ _ _ _ _ _ _)
      | (with_reducible exact ih4 _ _ _ _ _ _ _ _)
      | (with_reducible exact cursor_Cursor_Four.mono _ _ _ _)
      | (with_reducible exact cursor_Cursor_One.mono _ _ _ _)
      | (with_reducible exact LeO.refl _)
      | (with_reducible exact LeO.none _)
      | (with_reducible refine LeO.ite ?_ ?_)
      | (with_reducible refine LeO.bind ?_ (fun _ => ?_))
      | exact ih0 _ _ _ _ _ _ _ _
      | exact ih1 _ _ _ _ _ _ _ _ _
      | exact ih2 _ _ _ _ _ _ _ _
      | exact ih3 _ _ _ _ _ _ _ _ _
      | exact ih4 _ _ _ _ _ _ _ _
      | exact cursor_Cursor_Four.mono _ _ _ _
      | exact cursor_Cursor_One.mono _ _ _ _
      | exact LeO.none _
      | refine LeO.ite ?_ ?_
      | refine LeO.bind ?_ (fun _ => ?_)
    · intro y0 y1 y2 y3 y4 y5 y6 y7 y8
      unfold field_ParseStamp.j1
      repeat' first
      | (with_reducible exact ih0 _ _ _ _ _ _ _ _)
      | (with_reducible exact ih1 _ _ _ _ _ _ _ _ _)
      | (with_reducible exact ih2 _ _ _ _ _ _ _ _)
      | (with_reducible exact ih3 _ _ _ _ _ _ _ _ _)
      | (with_reducible exact ih4 _ _ _ _ _ _ _ _)
      | (with_reducible exact cursor_Cursor_Four.mono _ _ _ _)
      | (with_reducible exact cursor_Cursor_One.mono _ _ _ _)
      | (with_reducible exact LeO.refl _)
      | (with_reducible exact LeO.none _)
      | (with_reducible refine LeO.ite ?_ ?_)
      | (with_reducible refine LeO.bind ?_ (fun _ => ?_))
      | exact ih0 _ _ _ _ _ _ _ _
      | exact ih1 _ _ _ _ _ _ _ _ _
      | exact ih2 _ _ _ _ _ _ _ _
      | exact ih3 _ _ _ _ _ _ _ _ _
      | exact ih4 _ _ _ _ _ _ _ _
      | exact cursor_Cursor_Four.mono _ _ _ _
      | exact cursor_Cursor_One.mono _ _ _ _
      | exact LeO.none _
      | refine LeO.ite ?_ ?_
      | refine LeO.bind ?_ (fun _ => ?_)
    · intro y0 y1 y2 y3 y4 y5 y6 y7
      unfold field_ParseStamp.j2
      repeat' first
      | (with_reducible exact ih0 _ _ _ _ _ _ _ _)
      | (with_reducible exact ih1 _ _ _ _ _ _ _ _ _)
      | (with_reducible exact ih2 _ _ _ _ _ _ _ _)
      | (with_reducible exact ih3 _ _ _ _ _ _ _ _ _)
      | (with_reducible exact ih4 _ _ _ _ _ _ _ _)
      | (with_reducible exact cursor_Cursor_Four.mono _ _ _ _)
      | (with_reducible exact cursor_Cursor_One.mono _ _ _ _)
      | (with_reducible exact LeO.refl _)
      | (with_reducible exact LeO.none _)
      | (with_reducible refine LeO.ite ?_ ?_)
      | (with_reducible refine LeO.bind ?_ (fun _ => ?_))
      | exact ih0 _ _ _ _ _ _ _ _
      | exact ih1 _ _ _ _ _ _ _ _ _
      | exact ih2 _ _ _ _ _ _ _ _
      | exact ih3 _ _ _ _ _ _ _ _ _
      | exact ih4 _ _ _ _ _ _ _ _
      | exact cursor_Cursor_Four.mono _ _ _ _
      | exact cursor_Cursor_One.mono _ _ _ _
      | exact LeO.none _
      | refine LeO.ite ?_ ?_
      | refine LeO.bind ?_ (fun _ => ?_)
    · intro y0 y1 y2 y3 y4 y5 y6 y7 y8
      unfold field_ParseStamp.j3
      repeat' first
      | (with_reducible exact ih0 _ _ _ _ _ _ _ _)
      | (with_reducible exact ih1 _ _ _ _ _ _ _ _ _)
      | (with_reducible exact ih2 _ _ _ _ _ _ _ _)
      | (with_reducible exact ih3 _ _ _ _ _ _ _ _ _)
      | (with_reducible exact ih4 _ _ _ _ _ _ _ _)
      | (with_reducible exact cursor_Cursor_Four.mono _ _ _ _)
      | (with_reducible exact cursor_Cursor_One.mono _ _ _ _)
      | (with_reducible exact LeO.refl _)
      | (with_reducible exact LeO.none _)
      | (with_reducible refine LeO.ite ?_ ?_)
      | (with_reducible refine LeO.bind ?_ (fun _ => ?_))
      | exact ih0 _ _ _ _ _ _ _ _
      | exact ih1 _ _ _ _ _ _ _ _ _
      | exact ih2 _ _ _ _ _ _ _ _
      | exact ih3 _ _ _ _ _ _ _ _ _
      | exact ih4 _ _ _ _ _ _ _ _
      | exact cursor_Cursor_Four.mono _ _ _ _
      | exact cursor_Cursor_One.mono _ _ _ _
      | exact LeO.none _
      | refine LeO.ite ?_ ?_
      | refine LeO.bind ?_ (fun _ => ?_)
    · intro y0 y1 y2 y3 y4 y5 y6 y7
      unfold field_ParseStamp.j4
      repeat' first
      | (with_reducible exact ih0 _ _ _ _ _ _ _ _)
      | (with_reducible exact ih1 _ _ _ _ _ _ _ _ _)
      | (with_reducible exact ih2 _ _ _ _ _ _ _ _)
      | (with_reducible exact ih3 _ _ _ _ _ _ _ _ _)
      | (with_reducible exact ih4 _ _ _ _ _ _ _ _)
      | (with_reducible exact cursor_Cursor_Four.mono _ _ _ _)
      | (with_reducible exact cursor_Cursor_One.mono _ _ _ _)
      | (with_reducible exact LeO.refl _)
      | (with_reducible exact LeO.none _)
      | (with_reducible refine LeO.ite ?_ ?_)
      | (with_reducible refine LeO.bind ?_ (fun _ => ?_))
      | exact ih0 _ _ _ _ _ _ _ _
      | exact ih1 _ _ _ _ _ _ _ _ _
      | exact ih2 _ _ _ _ _ _ _ _
      | exact ih3 _ _ _ _ _ _ _ _ _
      | exact ih4 _ _ _ _ _ _ _ _
      | exact cursor_Cursor_Four.mono _ _ _ _
      | exact cursor_Cursor_One.mono _ _ _ _
      | exact LeO.none _
      | refine LeO.ite ?_ ?_
      | refine LeO.bind ?_ (fun _ => ?_)
theorem field_ParseStamp.mono : ∀ a0 a1 k, LeO (field_ParseStamp.f k a0 a1) (field_ParseStamp.f (k + 1) a0 a1) := by
  intro a0 a1 k
  obtain ⟨ih0, ih1, ih2, ih3, ih4⟩ := field_ParseStamp.mono_l k
  unfold field_ParseStamp.f
  repeat' first
      | (with_reducible exact ih0 _ _ _ _ _ _ _ _)
      | (with_reducible exact ih1 _ _ _ _ _ _ _ _ _)
      | (with_reducible exact ih2 _ _ _ _ _ _ _ _)
      | (with_reducible exact ih3 _ _ _ _ _ _ _ _ _)
      | (with_reducible exact ih4 _ _ _ _ _ _ _ _)
      | (with_reducible exact cursor_Cursor_Four.mono _ _ _ _)
      | (with_reducible exact cursor_Cursor_One.mono _ _ _ _)
      | (with_reducible exact LeO.refl _)
      | (with_reducible exact LeO.none _)
      | (with_reducible refine LeO.ite ?_ ?_)
      | (with_reducible refine LeO.bind ?_ (fun _ => ?_))
      | exact ih0 _ _ _ _ _ _ _ _
      | exact ih1 _ _ _ _ _ _ _ _ _
      | exact ih2 _ _ _ _ _ _ _ _
      | exact ih3 _ _ _ _ _ _ _ _ _
      | exact ih4 _ _ _ _ _ _ _ _
      | exact cursor_Cursor_Four.mono _ _ _ _
      | exact cursor_Cursor_One.mono _ _ _ _
      | exact LeO.none _
      | refine LeO.ite ?_ ?_
      | refine LeO.bind ?_ (fun _ => ?_)
set_option maxHeartbeats 8000000 in
set_option maxRecDepth 100000 in
theorem field_ParseStamp.calls (k : Nat) (a0 : ByteArray) (a1 : Bool) (r1 : Int) (r2 : Int) (r3 : Int) (r4 : Int) (r5 : Int) (w : World) (h : field_ParseStamp.f k a0 a1 = some (r1, r2, r3, r4, r5)) :
    Calls Try.prog 13 #[.string a0, .bool a1] w fun e w' => e = .returned (.tuple #[.agg #[.int .u8 r1, .int .i32 r2, .int .i32 r3, .int .i32 r4], .int .i64 r5]) ∧ Below w.heap.size w w' := by
  have hu32 := Try.underlying32
  have HB := Aside0.mk (Below.refl w.heap.size w)
  have H : ((cursor_Over.f a0).bind fun bt121 => ((cursor_Cursor_One.f k bt121.1 bt121.2.1 bt121.2.2).bind fun bt125 => (if (Go.bits .and .u8 bt125.1 1) = 0 then (field_ParseStamp.j0 k a1 bt125.2.1 bt125.2.2.1 bt125.2.2.2 bt125.1 0 0 0) else ((cursor_Cursor_Four.f k bt125.2.1 bt125.2.2.1 bt125.2.2.2).bind fun bt130 => (field_ParseStamp.j0 k a1 bt130.2.1 bt130.2.2.1 bt130.2.2.2 bt125.1 (wrap32 (bt130.1)) 0 0))))) = some (r1, r2, r3, r4, r5) := h
  clear h
  replace H := Option.bind_eq_some_iff.mp H
  obtain ⟨⟨t121, t122, t123⟩, A30, H⟩ := H
  replace H : ((cursor_Cursor_One.f k t121 t122 t123).bind fun bt125 => (if (Go.bits .and .u8 bt125.1 1) = 0 then (field_ParseStamp.j0 k a1 bt125.2.1 bt125.2.2.1 bt125.2.2.2 bt125.1 0 0 0) else ((cursor_Cursor_Four.f k bt125.2.1 bt125.2.2.1 bt125.2.2.2).bind fun bt130 => (field_ParseStamp.j0 k a1 bt130.2.1 bt130.2.2.1 bt130.2.2.2 bt125.1 (wrap32 (bt130.1)) 0 0)))) = some (r1, r2, r3, r4, r5) := H
  have A3 := Aside0.mk A30
  clear A30
  replace H := Option.bind_eq_some_iff.mp H
  obtain ⟨⟨t125, t126, t127, t128⟩, A40, H⟩ := H
  replace H : (if (Go.bits .and .u8 t125 1) = 0 then (field_ParseStamp.j0 k a1 t126 t127 t128 t125 0 0 0) else ((cursor_Cursor_Four.f k t126 t127 t128).bind fun bt130 => (field_ParseStamp.j0 k a1 bt130.2.1 bt130.2.2.1 bt130.2.2.2 t125 (wrap32 (bt130.1)) 0 0))) = some (r1, r2, r3, r4, r5) := H
  have A4 := Aside0.mk A40
  clear A40
  have HC5 := Aside0.mk H
  clear H
  go_enter Try.func13, Try.ntmps13
  go_upto_if 16 with (first | ((with_reducible refine gate_dst (N := 4) rfl ?_); refine box_event ?hg (N := 4) ?hd (cs := #[.int .u8 0, .int .i32 0, .int .i32 0, .int .i32 0]) (t := 32) ?hr ?_; (case hd => rfl); (case hg => rfl); (case hr => first | (go_simp; done) | (go_simp; rfl)); intro gb120 hg w6 hbox hb; have n0_ := Aside0.mk (below_step (by repeat (first | (with_reducible first | exact HB.out | apply below_alloc | apply pw_below_drewN | apply below_drew1) | exact HB.out)) hb); have n1_ := Aside0.mk (hbox); have n2_ := Aside0.mk ((by rw [hg]; exact (below_size (by repeat (first | (with_reducible first | exact HB.out | apply below_alloc | apply pw_below_drewN | apply below_drew1) | exact HB.out))) : w.heap.size ≤ gb120)); have n3_ := Aside0.mk ((by rw [hg]; exact (below_size (by repeat (first | (with_reducible first | exact HB.out | apply below_alloc | apply pw_below_drewN | apply below_drew1) | exact HB.out))) : w.heap.size ≤ gb120)); clear HB; have HB := n0_; have BK120 := n1_; have GW120 := n2_; have GE120 := n3_; clear n0_ n1_ n2_ n3_; clear hb hbox hg) | ((with_reducible refine gate_callee (f := 21) rfl ?_); refine goesL_ (some 9) rfl rfl Try.func21 (by kernel_rfl) rfl #[.string a0] rfl (by (try simp only [List.map_toArray, List.map_cons, List.map_nil]); first | done | rfl | (simp only [List.length_drop, List.length_take]; rfl)) ?_; (with_reducible refine (cursor_Over.calls a0 t121 t122 t123 w _ ?side1 A3.out).mono ?_); (case side1 => repeat (first | (with_reducible first | exact HB.out | apply below_alloc | apply pw_below_drewN | apply below_drew1 | refine below_set ?_ GE120.out) | exact HB.out)); rintro e w7 ⟨g124, rfl, hi, hb, hb2⟩; refine ⟨_, rfl, ?_⟩; have n0_ := Aside0.mk (blk_below (g := gb120) (o := .cells #[.int .u8 0, .int .i32 0, .int .i32 0, .int .i32 0] 32 (0, 0)) (by (with_reducible repeat (first | refine blk_drewN ?_ _ | refine blk_drew ?_ | refine blk_alloc ?_ _)); exact BK120.out) hb2); have n1_ := Aside0.mk (hb); have n2_ := Aside0.mk (hi); have n3_ := Aside0.mk (IsS81.ne_blk hi (blk_below (g := gb120) (o := .cells #[.int .u8 0, .int .i32 0, .int .i32 0, .int .i32 0] 32 (0, 0)) (by (with_reducible repeat (first | refine blk_drewN ?_ _ | refine blk_drew ?_ | refine blk_alloc ?_ _)); exact BK120.out) hb2) (by decide)); have n4_ := Aside0.mk (Ne.symm (IsS81.ne_blk hi (blk_below (g := gb120) (o := .cells #[.int .u8 0, .int .i32 0, .int .i32 0, .int .i32 0] 32 (0, 0)) (by (with_reducible repeat (first | refine blk_drewN ?_ _ | refine blk_drew ?_ | refine blk_alloc ?_ _)); exact BK120.out) hb2) (by decide))); clear BK120; clear HB; have BK120 := n0_; have HB := n1_; have HI124 := n2_; have NB124_120 := n3_; have NB120_124 := n4_; clear n0_ n1_ n2_ n3_ n4_; (try clear hb); (try clear hb2); (try clear hk); (try clear hi)) | ((with_reducible refine gate_callee (f := 22) rfl ?_); refine goesL_ (some 11) rfl rfl Try.func22 (by kernel_rfl) rfl #[.pointer (some ⟨g124, 0, none⟩)] rfl (by (try simp only [List.map_toArray, List.map_cons, List.map_nil]); first | done | rfl | (simp only [List.length_drop, List.length_take]; rfl)) ?_; (with_reducible refine (cursor_Cursor_One.calls k g124 t121 t122 t123 t125 t126 t127 t128 w _ ?side1 ?side2 A4.out).mono ?_); (case side1 => repeat (first | (with_reducible first | exact HI124.out | apply IsS81.alloc | apply IsS81.drewN | apply IsS81.drew | apply IsS81.set_0 | apply IsS81.set_1 | apply IsS81.set_2 | refine IsS81.far ?_ NB124_120.out _) | exact HI124.out)); (case side2 => repeat (first | (with_reducible first | exact HB.out | apply below_alloc | apply pw_below_drewN | apply below_drew1 | refine below_set ?_ (IsS81.ge HI124.out) | refine below_set ?_ GE120.out) | exact HB.out)); rintro e w8 ⟨rfl, hi, hb, hk⟩; refine ⟨_, rfl, ?_⟩; have n0_ := Aside0.mk (KeepBut.blk hk (g' := gb120) (o := .cells #[.int .u8 0, .int .i32 0, .int .i32 0, .int .i32 0] 32 (0, 0)) (by (with_reducible repeat (first | refine blk_drewN ?_ _ | refine blk_drew ?_ | refine blk_alloc ?_ _)); exact BK120.out) NB120_124.out (by simp)); have n1_ := Aside0.mk (hb); have n2_ := Aside0.mk (hi); clear BK120; clear HB; clear HI124; have BK120 := n0_; have HB := n1_; have HI124 := n2_; clear n0_ n1_ n2_; (try clear hb); (try clear hb2); (try clear hk); (try clear hi)) | ((with_reducible refine gate_dst (N := 7) rfl ?_); refine box_event ?hg (N := 7) ?hd (cs := #[.int .u8 0, .int .i32 0, .int .i32 0, .int .i32 0]) (t := 32) ?hr ?_; (case hd => rfl); (case hg => rfl); (case hr => first | (go_simp; done) | (go_simp; rfl)); intro gb129 hg w9 hbox hb; have n0_ := Aside0.mk (blk_below (g := gb120) (o := .cells #[.int .u8 0, .int .i32 0, .int .i32 0, .int .i32 0] 32 (0, 0)) (by (with_reducible repeat (first | refine blk_drewN ?_ _ | refine blk_drew ?_ | refine blk_alloc ?_ _)); exact BK120.out) hb); have n1_ := Aside0.mk (IsS81.below (by repeat (first | (with_reducible first | exact HI124.out | apply IsS81.alloc | apply IsS81.drewN | apply IsS81.drew | apply IsS81.set_0 | apply IsS81.set_1 | apply IsS81.set_2 | refine IsS81.far ?_ NB124_120.out _) | exact HI124.out)) hb); have n2_ := Aside0.mk (below_step (by repeat (first | (with_reducible first | exact HB.out | apply below_alloc | apply pw_below_drewN | apply below_drew1 | refine below_set ?_ (IsS81.ge HI124.out) | refine below_set ?_ GE120.out) | exact HB.out)) hb); have n3_ := Aside0.mk (hbox); have n4_ := Aside0.mk ((by rw [hg]; exact (below_size (by repeat (first | (with_reducible first | exact HB.out | apply below_alloc | apply pw_below_drewN | apply below_drew1 | refine below_set ?_ (IsS81.ge HI124.out) | refine below_set ?_ GE120.out) | exact HB.out))) : w.heap.size ≤ gb129)); have n5_ := Aside0.mk ((by rw [hg]; exact (below_size (by repeat (first | (with_reducible first | exact HB.out | apply below_alloc | apply pw_below_drewN | apply below_drew1 | refine below_set ?_ (IsS81.ge HI124.out) | refine below_set ?_ GE120.out) | exact HB.out))) : w.heap.size ≤ gb129)); have n6_ := Aside0.mk ((by rw [hg]; exact Nat.ne_of_lt (blk_lt (g := gb120) (o := .cells #[.int .u8 0, .int .i32 0, .int .i32 0, .int .i32 0] 32 (0, 0)) (by (with_reducible repeat (first | refine blk_drewN ?_ _ | refine blk_drew ?_ | refine blk_alloc ?_ _)); exact BK120.out)) : gb120 ≠ gb129)); have n7_ := Aside0.mk ((by rw [hg]; exact Nat.ne_of_gt (blk_lt (g := gb120) (o := .cells #[.int .u8 0, .int .i32 0, .int .i32 0, .int .i32 0] 32 (0, 0)) (by (with_reducible repeat (first | refine blk_drewN ?_ _ | refine blk_drew ?_ | refine blk_alloc ?_ _)); exact BK120.out)) : gb129 ≠ gb120)); have n8_ := Aside0.mk ((by rw [hg]; exact Nat.ne_of_lt (IsS81.lt (show IsS81 w _ g124 t126 t127 t128 from by repeat (first | (with_reducible first | exact HI124.out | apply IsS81.alloc | apply IsS81.drewN | apply IsS81.drew | apply IsS81.set_0 | apply IsS81.set_1 | apply IsS81.set_2 | refine IsS81.far ?_ NB124_120.out _) | exact HI124.out))) : g124 ≠ gb129)); have n9_ := Aside0.mk ((by rw [hg]; exact Nat.ne_of_gt (IsS81.lt (show IsS81 w _ g124 t126 t127 t128 from by repeat (first | (with_reducible first | exact HI124.out | apply IsS81.alloc | apply IsS81.drewN | apply IsS81.drew | apply IsS81.set_0 | apply IsS81.set_1 | apply IsS81.set_2 | refine IsS81.far ?_ NB124_120.out _) | exact HI124.out))) : gb129 ≠ g124)); clear BK120; clear HI124; clear HB; have BK120 := n0_; have HI124 := n1_; have HB := n2_; have BK129 := n3_; have GW129 := n4_; have GE129 := n5_; have NB120_129 := n6_; have NB129_120 := n7_; have NB124_129 := n8_; have NB129_124 := n9_; clear n0_ n1_ n2_ n3_ n4_ n5_ n6_ n7_ n8_ n9_; clear hb hbox hg; have hnb10 := NB129_120.out; have hnc10 := NB120_129.out; have hnb11 := NB129_124.out; have hnc11 := NB124_129.out; have hcz12_0 : w9.cell? ⟨gb129, 0, none⟩ = some (.int .u8 0) := (blk_cell BK129.out 0).trans rfl; have hcz12_1 : w9.cell? ⟨gb129, 1, none⟩ = some (.int .i32 0) := (blk_cell BK129.out 1).trans rfl; have hcz12_2 : w9.cell? ⟨gb129, 2, none⟩ = some (.int .i32 0) := (blk_cell BK129.out 2).trans rfl; have hcz12_3 : w9.cell? ⟨gb129, 3, none⟩ = some (.int .i32 0) := (blk_cell BK129.out 3).trans rfl; have hfz12_0 := blk_frozen BK129.out 0; have hfz12_1 := blk_frozen BK129.out 1; have hfz12_2 := blk_frozen BK129.out 2; have hfz12_3 := blk_frozen BK129.out 3))
  (try simp only [Act.put, List.setIfInBounds_toArray, List.set_cons_zero, List.set_cons_succ])
  go_cut [] (fun wc => ∃ (kq : Nat) (x125000_4 : ByteArray) (x125001_4 : Int) (x125002_4 : Int) (x130001_4 : Int), Aside0 (field_ParseStamp.j0 kq a1 x125000_4 x125001_4 x125002_4 t125 x130001_4 0 0 = some (r1, r2, r3, r4, r5)) ∧ Aside0 (kq ≤ k) ∧ Aside0 (wc.heap[gb120]? = some (.cells #[.int .u8 0, .int .i32 0, .int .i32 0, .int .i32 0] 32 (0, 0))) ∧ Aside0 (wc.heap[gb129]? = some (.cells #[.int .u8 t125, .int .i32 x130001_4, .int .i32 0, .int .i32 0] 32 (0, 0))) ∧ Aside0 (IsS81 w wc g124 x125000_4 x125001_4 x125002_4) ∧ Aside0 (Below w.heap.size w wc))
  case first =>
    have H := HC5.out
    clear HC5
    by_cases c13 : (Go.bits .and .u8 t125 1) = 0
    · rw [if_pos c13] at H
      have c13b0 : ((Go.bits .and .u8 t125 1) == 0) = true := beq_iff_eq.mpr c13
      have c13b1 : ((Go.bits .and .u8 t125 1) != 0) = false := bne_eq_false_iff_eq.mpr c13
      clear c13
      (first | rw [c13b0] | (simp only [i64_w, i32_w]; rw [c13b0]) | skip)
      have H' := Aside0.mk H
      clear H
      go_wp2
      go_meet
      case rel => exact ⟨_, (t126), (t127), (t128), (0), H', ⟨by first | omega | exact Nat.le_refl _⟩, ⟨by (with_reducible repeat (first | refine blk_drewN ?_ _ | refine blk_drew ?_ | refine blk_alloc ?_ _)); refine blk_far ?_ NB120_129.out _; (with_reducible repeat (first | refine blk_drewN ?_ _ | refine blk_drew ?_ | refine blk_alloc ?_ _)); refine blk_far ?_ NB120_129.out _; (with_reducible repeat (first | refine blk_drewN ?_ _ | refine blk_drew ?_ | refine blk_alloc ?_ _)); refine blk_far ?_ NB120_129.out _; (with_reducible repeat (first | refine blk_drewN ?_ _ | refine blk_drew ?_ | refine blk_alloc ?_ _)); refine blk_far ?_ NB120_129.out _; (with_reducible repeat (first | refine blk_drewN ?_ _ | refine blk_drew ?_ | refine blk_alloc ?_ _)); exact BK120.out⟩, ⟨by (with_reducible repeat (first | refine blk_drewN ?_ _ | refine blk_drew ?_ | refine blk_alloc ?_ _)); refine blk_put (cs := #[.int .u8 t125, .int .i32 0, .int .i32 0, .int .i32 0]) ?_ 3 _ rfl; (with_reducible repeat (first | refine blk_drewN ?_ _ | refine blk_drew ?_ | refine blk_alloc ?_ _)); refine blk_put (cs := #[.int .u8 t125, .int .i32 0, .int .i32 0, .int .i32 0]) ?_ 2 _ rfl; (with_reducible repeat (first | refine blk_drewN ?_ _ | refine blk_drew ?_ | refine blk_alloc ?_ _)); refine blk_put (cs := #[.int .u8 t125, .int .i32 0, .int .i32 0, .int .i32 0]) ?_ 1 _ rfl; (with_reducible repeat (first | refine blk_drewN ?_ _ | refine blk_drew ?_ | refine blk_alloc ?_ _)); refine blk_put (cs := #[.int .u8 0, .int .i32 0, .int .i32 0, .int .i32 0]) ?_ 0 _ rfl; (with_reducible repeat (first | refine blk_drewN ?_ _ | refine blk_drew ?_ | refine blk_alloc ?_ _)); exact BK129.out⟩, ⟨by repeat (first | (with_reducible first | exact HI124.out | apply IsS81.alloc | apply IsS81.drewN | apply IsS81.drew | apply IsS81.set_0 | apply IsS81.set_1 | apply IsS81.set_2 | refine IsS81.far ?_ NB124_120.out _ | refine IsS81.far ?_ NB124_129.out _) | exact HI124.out)⟩, ⟨by repeat (first | (with_reducible first | exact HB.out | apply below_alloc | apply pw_below_drewN | apply below_drew1 | refine below_set ?_ (IsS81.ge HI124.out) | refine below_set ?_ GE120.out | refine below_set ?_ GE129.out) | exact HB.out)⟩⟩
    · rw [if_neg c13] at H
      have c13b0 : ((Go.bits .and .u8 t125 1) == 0) = false := beq_eq_false_iff_ne.mpr c13
      have c13b1 : ((Go.bits .and .u8 t125 1) != 0) = true := bne_iff_ne.mpr c13
      (first | rw [c13b0] | (simp only [i64_w, i32_w]; rw [c13b0]) | skip)
      replace H := Option.bind_eq_some_iff.mp H
      obtain ⟨⟨t130, t131, t132, t133⟩, A140, H⟩ := H
      replace H : (field_ParseStamp.j0 k a1 t131 t132 t133 t125 (wrap32 (t130)) 0 0) = some (r1, r2, r3, r4, r5) := H
      have A14 := Aside0.mk A140
      clear A140
      have H' := Aside0.mk H
      clear H
      go_wp2_with (first | ((with_reducible refine gate_callee (f := 31) rfl ?_); refine goesL_ (some 18) rfl rfl Try.func31 (by kernel_rfl) rfl #[.pointer (some ⟨g124, 0, none⟩)] rfl (by (try simp only [List.map_toArray, List.map_cons, List.map_nil]); first | done | rfl | (simp only [List.length_drop, List.length_take]; rfl)) ?_; (with_reducible refine (cursor_Cursor_Four.calls k g124 t126 t127 t128 t130 t131 t132 t133 w _ ?side1 ?side2 A14.out).mono ?_); (case side1 => repeat (first | (with_reducible first | exact HI124.out | apply IsS81.alloc | apply IsS81.drewN | apply IsS81.drew | apply IsS81.set_0 | apply IsS81.set_1 | apply IsS81.set_2 | refine IsS81.far ?_ NB124_120.out _ | refine IsS81.far ?_ NB124_129.out _) | exact HI124.out)); (case side2 => repeat (first | (with_reducible first | exact HB.out | apply below_alloc | apply pw_below_drewN | apply below_drew1 | refine below_set ?_ (IsS81.ge HI124.out) | refine below_set ?_ GE120.out | refine below_set ?_ GE129.out) | exact HB.out)); rintro e w15 ⟨rfl, hi, hb, hk⟩; refine ⟨_, rfl, ?_⟩; have n0_ := Aside0.mk (KeepBut.blk hk (g' := gb120) (o := .cells #[.int .u8 0, .int .i32 0, .int .i32 0, .int .i32 0] 32 (0, 0)) (by (with_reducible repeat (first | refine blk_drewN ?_ _ | refine blk_drew ?_ | refine blk_alloc ?_ _)); refine blk_far ?_ NB120_129.out _; (with_reducible repeat (first | refine blk_drewN ?_ _ | refine blk_drew ?_ | refine blk_alloc ?_ _)); refine blk_far ?_ NB120_129.out _; (with_reducible repeat (first | refine blk_drewN ?_ _ | refine blk_drew ?_ | refine blk_alloc ?_ _)); refine blk_far ?_ NB120_129.out _; (with_reducible repeat (first | refine blk_drewN ?_ _ | refine blk_drew ?_ | refine blk_alloc ?_ _)); refine blk_far ?_ NB120_129.out _; (with_reducible repeat (first | refine blk_drewN ?_ _ | refine blk_drew ?_ | refine blk_alloc ?_ _)); exact BK120.out) NB120_124.out (by simp)); have n1_ := Aside0.mk (KeepBut.blk hk (g' := gb129) (o := .cells #[.int .u8 t125, .int .i32 0, .int .i32 0, .int .i32 0] 32 (0, 0)) (by (with_reducible repeat (first | refine blk_drewN ?_ _ | refine blk_drew ?_ | refine blk_alloc ?_ _)); refine blk_put (cs := #[.int .u8 t125, .int .i32 0, .int .i32 0, .int .i32 0]) ?_ 3 _ rfl; (with_reducible repeat (first | refine blk_drewN ?_ _ | refine blk_drew ?_ | refine blk_alloc ?_ _)); refine blk_put (cs := #[.int .u8 t125, .int .i32 0, .int .i32 0, .int .i32 0]) ?_ 2 _ rfl; (with_reducible repeat (first | refine blk_drewN ?_ _ | refine blk_drew ?_ | refine blk_alloc ?_ _)); refine blk_put (cs := #[.int .u8 t125, .int .i32 0, .int .i32 0, .int .i32 0]) ?_ 1 _ rfl; (with_reducible repeat (first | refine blk_drewN ?_ _ | refine blk_drew ?_ | refine blk_alloc ?_ _)); refine blk_put (cs := #[.int .u8 0, .int .i32 0, .int .i32 0, .int .i32 0]) ?_ 0 _ rfl; (with_reducible repeat (first | refine blk_drewN ?_ _ | refine blk_drew ?_ | refine blk_alloc ?_ _)); exact BK129.out) NB129_124.out (by simp)); have n2_ := Aside0.mk (hb); have n3_ := Aside0.mk (hi); clear BK120; clear BK129; clear HB; clear HI124; have BK120 := n0_; have BK129 := n1_; have HB := n2_; have HI124 := n3_; clear n0_ n1_ n2_ n3_; (try clear hb); (try clear hb2); (try clear hk); (try clear hi); have hnb16 := NB129_120.out; have hnc16 := NB120_129.out; have hnb17 := NB129_124.out; have hnc17 := NB124_129.out; have hcz18_0 : w15.cell? ⟨gb129, 0, none⟩ = some (.int .u8 t125) := (blk_cell BK129.out 0).trans rfl; have hcz18_1 : w15.cell? ⟨gb129, 1, none⟩ = some (.int .i32 0) := (blk_cell BK129.out 1).trans rfl; have hcz18_2 : w15.cell? ⟨gb129, 2, none⟩ = some (.int .i32 0) := (blk_cell BK129.out 2).trans rfl; have hcz18_3 : w15.cell? ⟨gb129, 3, none⟩ = some (.int .i32 0) := (blk_cell BK129.out 3).trans rfl; have hfz18_0 := blk_frozen BK129.out 0; have hfz18_1 := blk_frozen BK129.out 1; have hfz18_2 := blk_frozen BK129.out 2; have hfz18_3 := blk_frozen BK129.out 3))
      go_meet
      case rel => exact ⟨_, (t131), (t132), (t133), (wrap32 (t130)), H', ⟨by first | omega | exact Nat.le_refl _⟩, ⟨by (with_reducible repeat (first | refine blk_drewN ?_ _ | refine blk_drew ?_ | refine blk_alloc ?_ _)); refine blk_far ?_ NB120_129.out _; (with_reducible repeat (first | refine blk_drewN ?_ _ | refine blk_drew ?_ | refine blk_alloc ?_ _)); exact BK120.out⟩, ⟨by (with_reducible repeat (first | refine blk_drewN ?_ _ | refine blk_drew ?_ | refine blk_alloc ?_ _)); refine blk_put (cs := #[.int .u8 t125, .int .i32 0, .int .i32 0, .int .i32 0]) ?_ 1 _ rfl; (with_reducible repeat (first | refine blk_drewN ?_ _ | refine blk_drew ?_ | refine blk_alloc ?_ _)); exact BK129.out⟩, ⟨by repeat (first | (with_reducible first | exact HI124.out | apply IsS81.alloc | apply IsS81.drewN | apply IsS81.drew | apply IsS81.set_0 | apply IsS81.set_1 | apply IsS81.set_2 | refine IsS81.far ?_ NB124_120.out _ | refine IsS81.far ?_ NB124_129.out _) | exact HI124.out)⟩, ⟨by repeat (first | (with_reducible first | exact HB.out | apply below_alloc | apply pw_below_drewN | apply below_drew1 | refine below_set ?_ (IsS81.ge HI124.out) | refine below_set ?_ GE120.out | refine below_set ?_ GE129.out) | exact HB.out)⟩⟩
  case rest =>
    clear HC5
    try clear c1
    try clear c2
    try clear p2
    try clear c3
    try clear p3
    try clear c10
    try clear c11
    try clear c13
    try clear c13b0
    try clear c13b1
    try clear c16
    try clear c17
    try clear hcz12_0
    try clear hcz12_1
    try clear hcz12_2
    try clear hcz12_3
    try clear hcz18_0
    try clear hcz18_1
    try clear hcz18_2
    try clear hcz18_3
    try clear hfz12_0
    try clear hfz12_1
    try clear hfz12_2
    try clear hfz12_3
    try clear hfz18_0
    try clear hfz18_1
    try clear hfz18_2
    try clear hfz18_3
    obtain ⟨kq, x125000_4, x125001_4, x125002_4, x130001_4, HA, HJ4, BK120, BK129, HI124, HB⟩ := hcut
    cases kq with
    | zero => exact absurd HA.out (by simp [field_ParseStamp.j0])
    | succ kj4 =>
      have H := HA.out
      clear HA
      simp only [field_ParseStamp.j0] at H
      have HC19 := Aside0.mk H
      clear H
      go_upto_region 5 with (fail)
      go_cut [28] (fun v28 wc => ∃ (kq : Nat) (x28_18 : Bool), v28 = .bool x28_18 ∧ Aside0 (field_ParseStamp.j1 kq a1 x28_18 x125000_4 x125001_4 x125002_4 t125 x130001_4 0 0 = some (r1, r2, r3, r4, r5)) ∧ Aside0 (kq ≤ kj4) ∧ Aside0 (wc.heap[gb120]? = some (.cells #[.int .u8 0, .int .i32 0, .int .i32 0, .int .i32 0] 32 (0, 0))) ∧ Aside0 (wc.heap[gb129]? = some (.cells #[.int .u8 t125, .int .i32 x130001_4, .int .i32 0, .int .i32 0] 32 (0, 0))) ∧ Aside0 (IsS81 w wc g124 x125000_4 x125001_4 x125002_4) ∧ Aside0 (Below w.heap.size w wc))
      case first =>
        have H := HC19.out
        clear HC19
        by_cases c20 : (Go.bits .and .u8 t125 2) = 0
        · rw [if_pos c20] at H
          have c20b0 : ((Go.bits .and .u8 t125 2) == 0) = true := beq_iff_eq.mpr c20
          have c20b1 : ((Go.bits .and .u8 t125 2) != 0) = false := bne_eq_false_iff_eq.mpr c20
          clear c20
          (first | rw [c20b0] | (simp only [i64_w, i32_w]; rw [c20b0]) | skip)
          have H' := Aside0.mk H
          clear H
          have hnb21 := NB129_120.out
          have hnc21 := NB120_129.out
          have hnb22 := NB129_124.out
          have hnc22 := NB124_129.out
          have hcz23_0 : wc.cell? ⟨gb129, 0, none⟩ = some (.int .u8 t125) := (blk_cell BK129.out 0).trans rfl
          have hcz23_1 : wc.cell? ⟨gb129, 1, none⟩ = some (.int .i32 x130001_4) := (blk_cell BK129.out 1).trans rfl
          have hcz23_2 : wc.cell? ⟨gb129, 2, none⟩ = some (.int .i32 0) := (blk_cell BK129.out 2).trans rfl
          have hcz23_3 : wc.cell? ⟨gb129, 3, none⟩ = some (.int .i32 0) := (blk_cell BK129.out 3).trans rfl
          have hfz23_0 := blk_frozen BK129.out 0
          have hfz23_1 := blk_frozen BK129.out 1
          have hfz23_2 := blk_frozen BK129.out 2
          have hfz23_3 := blk_frozen BK129.out 3
          go_wp2
          go_meet
          case rel => exact ⟨_, (false), (by first | rfl | (simp; done) | (simp [*]; done)), H', ⟨by have := HJ4.out; first | omega | exact Nat.le_refl _⟩, ⟨by (with_reducible repeat (first | refine blk_drewN ?_ _ | refine blk_drew ?_ | refine blk_alloc ?_ _)); exact BK120.out⟩, ⟨by (with_reducible repeat (first | refine blk_drewN ?_ _ | refine blk_drew ?_ | refine blk_alloc ?_ _)); exact BK129.out⟩, ⟨by repeat (first | (with_reducible first | exact HI124.out | apply IsS81.alloc | apply IsS81.drewN | apply IsS81.drew | apply IsS81.set_0 | apply IsS81.set_1 | apply IsS81.set_2 | refine IsS81.far ?_ NB124_120.out _ | refine IsS81.far ?_ NB124_129.out _) | exact HI124.out)⟩, ⟨by repeat (first | (with_reducible first | exact HB.out | apply below_alloc | apply pw_below_drewN | apply below_drew1 | refine below_set ?_ (IsS81.ge HI124.out) | refine below_set ?_ GE120.out | refine below_set ?_ GE129.out) | exact HB.out)⟩⟩
        · rw [if_neg c20] at H
          have c20b0 : ((Go.bits .and .u8 t125 2) == 0) = false := beq_eq_false_iff_ne.mpr c20
          have c20b1 : ((Go.bits .and .u8 t125 2) != 0) = true := bne_iff_ne.mpr c20
          (first | rw [c20b0] | (simp only [i64_w, i32_w]; rw [c20b0]) | skip)
          have H' := Aside0.mk H
          clear H
          have hnb24 := NB129_120.out
          have hnc24 := NB120_129.out
          have hnb25 := NB129_124.out
          have hnc25 := NB124_129.out
          have hcz26_0 : wc.cell? ⟨gb129, 0, none⟩ = some (.int .u8 t125) := (blk_cell BK129.out 0).trans rfl
          have hcz26_1 : wc.cell? ⟨gb129, 1, none⟩ = some (.int .i32 x130001_4) := (blk_cell BK129.out 1).trans rfl
          have hcz26_2 : wc.cell? ⟨gb129, 2, none⟩ = some (.int .i32 0) := (blk_cell BK129.out 2).trans rfl
          have hcz26_3 : wc.cell? ⟨gb129, 3, none⟩ = some (.int .i32 0) := (blk_cell BK129.out 3).trans rfl
          have hfz26_0 := blk_frozen BK129.out 0
          have hfz26_1 := blk_frozen BK129.out 1
          have hfz26_2 := blk_frozen BK129.out 2
          have hfz26_3 := blk_frozen BK129.out 3
          go_wp2
          go_meet
          case rel => exact ⟨_, (!a1), (by first | rfl | (simp; done) | (simp [*]; done)), H', ⟨by have := HJ4.out; first | omega | exact Nat.le_refl _⟩, ⟨by (with_reducible repeat (first | refine blk_drewN ?_ _ | refine blk_drew ?_ | refine blk_alloc ?_ _)); exact BK120.out⟩, ⟨by (with_reducible repeat (first | refine blk_drewN ?_ _ | refine blk_drew ?_ | refine blk_alloc ?_ _)); exact BK129.out⟩, ⟨by repeat (first | (with_reducible first | exact HI124.out | apply IsS81.alloc | apply IsS81.drewN | apply IsS81.drew | apply IsS81.set_0 | apply IsS81.set_1 | apply IsS81.set_2 | refine IsS81.far ?_ NB124_120.out _ | refine IsS81.far ?_ NB124_129.out _) | exact HI124.out)⟩, ⟨by repeat (first | (with_reducible first | exact HB.out | apply below_alloc | apply pw_below_drewN | apply below_drew1 | refine below_set ?_ (IsS81.ge HI124.out) | refine below_set ?_ GE120.out | refine below_set ?_ GE129.out) | exact HB.out)⟩⟩
      case rest =>
        clear HC19
        try clear c1
        try clear c2
        try clear p2
        try clear c3
        try clear p3
        try clear c10
        try clear c11
        try clear c13
        try clear c13b0
        try clear c13b1
        try clear c16
        try clear c17
        try clear c20
        try clear c20b0
        try clear c20b1
        try clear c21
        try clear c22
        try clear c24
        try clear c25
        try clear hcz12_0
        try clear hcz12_1
        try clear hcz12_2
        try clear hcz12_3
        try clear hcz18_0
        try clear hcz18_1
        try clear hcz18_2
        try clear hcz18_3
        try clear hcz23_0
        try clear hcz23_1
        try clear hcz23_2
        try clear hcz23_3
        try clear hcz26_0
        try clear hcz26_1
        try clear hcz26_2
        try clear hcz26_3
        try clear hfz12_0
        try clear hfz12_1
        try clear hfz12_2
        try clear hfz12_3
        try clear hfz18_0
        try clear hfz18_1
        try clear hfz18_2
        try clear hfz18_3
        try clear hfz23_0
        try clear hfz23_1
        try clear hfz23_2
        try clear hfz23_3
        try clear hfz26_0
        try clear hfz26_1
        try clear hfz26_2
        try clear hfz26_3
        try clear p2
        try clear p3
        obtain ⟨kq, x28_18, rfl, HA, HJ18, BK120, BK129, HI124, HB⟩ := hcut
        cases kq with
        | zero => exact absurd HA.out (by simp [field_ParseStamp.j1])
        | succ kj18 =>
          have H := HA.out
          clear HA
          simp only [field_ParseStamp.j1] at H
          have HC27 := Aside0.mk H
          clear H
          go_upto_if 28 with (fail)
          go_cut [] (fun wc => ∃ (kq : Nat) (x125000_26 : ByteArray) (x125001_26 : Int) (x125002_26 : Int) (x130002_26 : Int), Aside0 (field_ParseStamp.j2 kq a1 x125000_26 x125001_26 x125002_26 t125 x130001_4 x130002_26 0 = some (r1, r2, r3, r4, r5)) ∧ Aside0 (kq ≤ kj18) ∧ Aside0 (wc.heap[gb120]? = some (.cells #[.int .u8 0, .int .i32 0, .int .i32 0, .int .i32 0] 32 (0, 0))) ∧ Aside0 (wc.heap[gb129]? = some (.cells #[.int .u8 t125, .int .i32 x130001_4, .int .i32 x130002_26, .int .i32 0] 32 (0, 0))) ∧ Aside0 (IsS81 w wc g124 x125000_26 x125001_26 x125002_26) ∧ Aside0 (Below w.heap.size w wc))
          case first =>
            have H := HC27.out
            clear HC27
            by_cases c28 : x28_18 = true
            · subst c28
              have H1 : ((cursor_Cursor_Four.f kj18 x125000_4 x125001_4 x125002_4).bind fun bt134 => (field_ParseStamp.j2 kj18 a1 bt134.2.1 bt134.2.2.1 bt134.2.2.2 t125 x130001_4 (wrap32 (bt134.1)) 0)) = some (r1, r2, r3, r4, r5) := by rw [if_pos rfl] at H; exact H
              clear H
              have H := H1
              clear H1
              replace H := Option.bind_eq_some_iff.mp H
              obtain ⟨⟨t134, t135, t136, t137⟩, A290, H⟩ := H
              replace H : (field_ParseStamp.j2 kj18 a1 t135 t136 t137 t125 x130001_4 (wrap32 (t134)) 0) = some (r1, r2, r3, r4, r5) := H
              have A29 := Aside0.mk A290
              clear A290
              have H' := Aside0.mk H
              clear H
              go_wp2_with (first | ((with_reducible refine gate_callee (f := 31) rfl ?_); refine goesL_ (some 30) rfl rfl Try.func31 (by kernel_rfl) rfl #[.pointer (some ⟨g124, 0, none⟩)] rfl (by (try simp only [List.map_toArray, List.map_cons, List.map_nil]); first | done | rfl | (simp only [List.length_drop, List.length_take]; rfl)) ?_; (with_reducible refine (cursor_Cursor_Four.calls kj18 g124 x125000_4 x125001_4 x125002_4 t134 t135 t136 t137 w _ ?side1 ?side2 A29.out).mono ?_); (case side1 => repeat (first | (with_reducible first | exact HI124.out | apply IsS81.alloc | apply IsS81.drewN | apply IsS81.drew | apply IsS81.set_0 | apply IsS81.set_1 | apply IsS81.set_2 | refine IsS81.far ?_ NB124_120.out _ | refine IsS81.far ?_ NB124_129.out _) | exact HI124.out)); (case side2 => repeat (first | (with_reducible first | exact HB.out | apply below_alloc | apply pw_below_drewN | apply below_drew1 | refine below_set ?_ (IsS81.ge HI124.out) | refine below_set ?_ GE120.out | refine below_set ?_ GE129.out) | exact HB.out)); rintro e w30 ⟨rfl, hi, hb, hk⟩; refine ⟨_, rfl, ?_⟩; have n0_ := Aside0.mk (KeepBut.blk hk (g' := gb120) (o := .cells #[.int .u8 0, .int .i32 0, .int .i32 0, .int .i32 0] 32 (0, 0)) (by (with_reducible repeat (first | refine blk_drewN ?_ _ | refine blk_drew ?_ | refine blk_alloc ?_ _)); exact BK120.out) NB120_124.out (by simp)); have n1_ := Aside0.mk (KeepBut.blk hk (g' := gb129) (o := .cells #[.int .u8 t125, .int .i32 x130001_4, .int .i32 0, .int .i32 0] 32 (0, 0)) (by (with_reducible repeat (first | refine blk_drewN ?_ _ | refine blk_drew ?_ | refine blk_alloc ?_ _)); exact BK129.out) NB129_124.out (by simp)); have n2_ := Aside0.mk (hb); have n3_ := Aside0.mk (hi); clear BK120; clear BK129; clear HB; clear HI124; have BK120 := n0_; have BK129 := n1_; have HB := n2_; have HI124 := n3_; clear n0_ n1_ n2_ n3_; (try clear hb); (try clear hb2); (try clear hk); (try clear hi); have hnb31 := NB129_120.out; have hnc31 := NB120_129.out; have hnb32 := NB129_124.out; have hnc32 := NB124_129.out; have hcz33_0 : w30.cell? ⟨gb129, 0, none⟩ = some (.int .u8 t125) := (blk_cell BK129.out 0).trans rfl; have hcz33_1 : w30.cell? ⟨gb129, 1, none⟩ = some (.int .i32 x130001_4) := (blk_cell BK129.out 1).trans rfl; have hcz33_2 : w30.cell? ⟨gb129, 2, none⟩ = some (.int .i32 0) := (blk_cell BK129.out 2).trans rfl; have hcz33_3 : w30.cell? ⟨gb129, 3, none⟩ = some (.int .i32 0) := (blk_cell BK129.out 3).trans rfl; have hfz33_0 := blk_frozen BK129.out 0; have hfz33_1 := blk_frozen BK129.out 1; have hfz33_2 := blk_frozen BK129.out 2; have hfz33_3 := blk_frozen BK129.out 3))
              go_meet
              case rel => exact ⟨_, (t135), (t136), (t137), (wrap32 (t134)), H', ⟨by have := HJ4.out; have := HJ18.out; first | omega | exact Nat.le_refl _⟩, ⟨by (with_reducible repeat (first | refine blk_drewN ?_ _ | refine blk_drew ?_ | refine blk_alloc ?_ _)); refine blk_far ?_ NB120_129.out _; (with_reducible repeat (first | refine blk_drewN ?_ _ | refine blk_drew ?_ | refine blk_alloc ?_ _)); exact BK120.out⟩, ⟨by (with_reducible repeat (first | refine blk_drewN ?_ _ | refine blk_drew ?_ | refine blk_alloc ?_ _)); refine blk_put (cs := #[.int .u8 t125, .int .i32 x130001_4, .int .i32 0, .int .i32 0]) ?_ 2 _ rfl; (with_reducible repeat (first | refine blk_drewN ?_ _ | refine blk_drew ?_ | refine blk_alloc ?_ _)); exact BK129.out⟩, ⟨by repeat (first | (with_reducible first | exact HI124.out | apply IsS81.alloc | apply IsS81.drewN | apply IsS81.drew | apply IsS81.set_0 | apply IsS81.set_1 | apply IsS81.set_2 | refine IsS81.far ?_ NB124_120.out _ | refine IsS81.far ?_ NB124_129.out _) | exact HI124.out)⟩, ⟨by repeat (first | (with_reducible first | exact HB.out | apply below_alloc | apply pw_below_drewN | apply below_drew1 | refine below_set ?_ (IsS81.ge HI124.out) | refine below_set ?_ GE120.out | refine below_set ?_ GE129.out) | exact HB.out)⟩⟩
            · replace c28 := Bool.eq_false_iff.mpr c28
              subst c28
              have H1 : (field_ParseStamp.j2 kj18 a1 x125000_4 x125001_4 x125002_4 t125 x130001_4 0 0) = some (r1, r2, r3, r4, r5) := by rw [if_neg (show ¬ (false = true) by decide)] at H; exact H
              clear H
              have H := H1
              clear H1
              have H' := Aside0.mk H
              clear H
              go_wp2
              go_meet
              case rel => exact ⟨_, (x125000_4), (x125001_4), (x125002_4), (0), H', ⟨by have := HJ4.out; have := HJ18.out; first | omega | exact Nat.le_refl _⟩, ⟨by (with_reducible repeat (first | refine blk_drewN ?_ _ | refine blk_drew ?_ | refine blk_alloc ?_ _)); exact BK120.out⟩, ⟨by (with_reducible repeat (first | refine blk_drewN ?_ _ | refine blk_drew ?_ | refine blk_alloc ?_ _)); exact BK129.out⟩, ⟨by repeat (first | (with_reducible first | exact HI124.out | apply IsS81.alloc | apply IsS81.drewN | apply IsS81.drew | apply IsS81.set_0 | apply IsS81.set_1 | apply IsS81.set_2 | refine IsS81.far ?_ NB124_120.out _ | refine IsS81.far ?_ NB124_129.out _) | exact HI124.out)⟩, ⟨by repeat (first | (with_reducible first | exact HB.out | apply below_alloc | apply pw_below_drewN | apply below_drew1 | refine below_set ?_ (IsS81.ge HI124.out) | refine below_set ?_ GE120.out | refine below_set ?_ GE129.out) | exact HB.out)⟩⟩
          case rest =>
            clear HC27
            try clear c1
            try clear c2
            try clear p2
            try clear c3
            try clear p3
            try clear c10
            try clear c11
            try clear c13
            try clear c13b0
            try clear c13b1
            try clear c16
            try clear c17
            try clear c20
            try clear c20b0
            try clear c20b1
            try clear c21
            try clear c22
            try clear c24
            try clear c25
            try clear c28
            try clear c31
            try clear c32
            try clear p32
            try clear hcz12_0
            try clear hcz12_1
            try clear hcz12_2
            try clear hcz12_3
            try clear hcz18_0
            try clear hcz18_1
            try clear hcz18_2
            try clear hcz18_3
            try clear hcz23_0
            try clear hcz23_1
            try clear hcz23_2
            try clear hcz23_3
            try clear hcz26_0
            try clear hcz26_1
            try clear hcz26_2
            try clear hcz26_3
            try clear hcz33_0
            try clear hcz33_1
            try clear hcz33_2
            try clear hcz33_3
            try clear hfz12_0
            try clear hfz12_1
            try clear hfz12_2
            try clear hfz12_3
            try clear hfz18_0
            try clear hfz18_1
            try clear hfz18_2
            try clear hfz18_3
            try clear hfz23_0
            try clear hfz23_1
            try clear hfz23_2
            try clear hfz23_3
            try clear hfz26_0
            try clear hfz26_1
            try clear hfz26_2
            try clear hfz26_3
            try clear hfz33_0
            try clear hfz33_1
            try clear hfz33_2
            try clear hfz33_3
            try clear p2
            try clear p3
            obtain ⟨kq, x125000_26, x125001_26, x125002_26, x130002_26, HA, HJ26, BK120, BK129, HI124, HB⟩ := hcut
            cases kq with
            | zero => exact absurd HA.out (by simp [field_ParseStamp.j2])
            | succ kj26 =>
              have H := HA.out
              clear HA
              simp only [field_ParseStamp.j2] at H
              have HC34 := Aside0.mk H
              clear H
              go_upto_region 7 with (fail)
              go_cut [40] (fun v40 wc => ∃ (kq : Nat) (x40_33 : Bool), v40 = .bool x40_33 ∧ Aside0 (field_ParseStamp.j3 kq a1 x40_33 x125000_26 x125001_26 x125002_26 t125 x130001_4 x130002_26 0 = some (r1, r2, r3, r4, r5)) ∧ Aside0 (kq ≤ kj26) ∧ Aside0 (wc.heap[gb120]? = some (.cells #[.int .u8 0, .int .i32 0, .int .i32 0, .int .i32 0] 32 (0, 0))) ∧ Aside0 (wc.heap[gb129]? = some (.cells #[.int .u8 t125, .int .i32 x130001_4, .int .i32 x130002_26, .int .i32 0] 32 (0, 0))) ∧ Aside0 (IsS81 w wc g124 x125000_26 x125001_26 x125002_26) ∧ Aside0 (Below w.heap.size w wc))
              case first =>
                have H := HC34.out
                clear HC34
                by_cases c35 : (Go.bits .and .u8 t125 4) = 0
                · rw [if_pos c35] at H
                  have c35b0 : ((Go.bits .and .u8 t125 4) == 0) = true := beq_iff_eq.mpr c35
                  have c35b1 : ((Go.bits .and .u8 t125 4) != 0) = false := bne_eq_false_iff_eq.mpr c35
                  clear c35
                  (first | rw [c35b0] | (simp only [i64_w, i32_w]; rw [c35b0]) | skip)
                  have H' := Aside0.mk H
                  clear H
                  have hnb36 := NB129_120.out
                  have hnc36 := NB120_129.out
                  have hnb37 := NB129_124.out
                  have hnc37 := NB124_129.out
                  have hcz38_0 : wc.cell? ⟨gb129, 0, none⟩ = some (.int .u8 t125) := (blk_cell BK129.out 0).trans rfl
                  have hcz38_1 : wc.cell? ⟨gb129, 1, none⟩ = some (.int .i32 x130001_4) := (blk_cell BK129.out 1).trans rfl
                  have hcz38_2 : wc.cell? ⟨gb129, 2, none⟩ = some (.int .i32 x130002_26) := (blk_cell BK129.out 2).trans rfl
                  have hcz38_3 : wc.cell? ⟨gb129, 3, none⟩ = some (.int .i32 0) := (blk_cell BK129.out 3).trans rfl
                  have hfz38_0 := blk_frozen BK129.out 0
                  have hfz38_1 := blk_frozen BK129.out 1
                  have hfz38_2 := blk_frozen BK129.out 2
                  have hfz38_3 := blk_frozen BK129.out 3
                  go_wp2
                  go_meet
                  case rel => exact ⟨_, (false), (by first | rfl | (simp; done) | (simp [*]; done)), H', ⟨by have := HJ4.out; have := HJ18.out; have := HJ26.out; first | omega | exact Nat.le_refl _⟩, ⟨by (with_reducible repeat (first | refine blk_drewN ?_ _ | refine blk_drew ?_ | refine blk_alloc ?_ _)); exact BK120.out⟩, ⟨by (with_reducible repeat (first | refine blk_drewN ?_ _ | refine blk_drew ?_ | refine blk_alloc ?_ _)); exact BK129.out⟩, ⟨by repeat (first | (with_reducible first | exact HI124.out | apply IsS81.alloc | apply IsS81.drewN | apply IsS81.drew | apply IsS81.set_0 | apply IsS81.set_1 | apply IsS81.set_2 | refine IsS81.far ?_ NB124_120.out _ | refine IsS81.far ?_ NB124_129.out _) | exact HI124.out)⟩, ⟨by repeat (first | (with_reducible first | exact HB.out | apply below_alloc | apply pw_below_drewN | apply below_drew1 | refine below_set ?_ (IsS81.ge HI124.out) | refine below_set ?_ GE120.out | refine below_set ?_ GE129.out) | exact HB.out)⟩⟩
                · rw [if_neg c35] at H
                  have c35b0 : ((Go.bits .and .u8 t125 4) == 0) = false := beq_eq_false_iff_ne.mpr c35
                  have c35b1 : ((Go.bits .and .u8 t125 4) != 0) = true := bne_iff_ne.mpr c35
                  (first | rw [c35b0] | (simp only [i64_w, i32_w]; rw [c35b0]) | skip)
                  have H' := Aside0.mk H
                  clear H
                  have hnb39 := NB129_120.out
                  have hnc39 := NB120_129.out
                  have hnb40 := NB129_124.out
                  have hnc40 := NB124_129.out
                  have hcz41_0 : wc.cell? ⟨gb129, 0, none⟩ = some (.int .u8 t125) := (blk_cell BK129.out 0).trans rfl
                  have hcz41_1 : wc.cell? ⟨gb129, 1, none⟩ = some (.int .i32 x130001_4) := (blk_cell BK129.out 1).trans rfl
                  have hcz41_2 : wc.cell? ⟨gb129, 2, none⟩ = some (.int .i32 x130002_26) := (blk_cell BK129.out 2).trans rfl
                  have hcz41_3 : wc.cell? ⟨gb129, 3, none⟩ = some (.int .i32 0) := (blk_cell BK129.out 3).trans rfl
                  have hfz41_0 := blk_frozen BK129.out 0
                  have hfz41_1 := blk_frozen BK129.out 1
                  have hfz41_2 := blk_frozen BK129.out 2
                  have hfz41_3 := blk_frozen BK129.out 3
                  go_wp2
                  go_meet
                  case rel => exact ⟨_, (!a1), (by first | rfl | (simp; done) | (simp [*]; done)), H', ⟨by have := HJ4.out; have := HJ18.out; have := HJ26.out; first | omega | exact Nat.le_refl _⟩, ⟨by (with_reducible repeat (first | refine blk_drewN ?_ _ | refine blk_drew ?_ | refine blk_alloc ?_ _)); exact BK120.out⟩, ⟨by (with_reducible repeat (first | refine blk_drewN ?_ _ | refine blk_drew ?_ | refine blk_alloc ?_ _)); exact BK129.out⟩, ⟨by repeat (first | (with_reducible first | exact HI124.out | apply IsS81.alloc | apply IsS81.drewN | apply IsS81.drew | apply IsS81.set_0 | apply IsS81.set_1 | apply IsS81.set_2 | refine IsS81.far ?_ NB124_120.out _ | refine IsS81.far ?_ NB124_129.out _) | exact HI124.out)⟩, ⟨by repeat (first | (with_reducible first | exact HB.out | apply below_alloc | apply pw_below_drewN | apply below_drew1 | refine below_set ?_ (IsS81.ge HI124.out) | refine below_set ?_ GE120.out | refine below_set ?_ GE129.out) | exact HB.out)⟩⟩
              case rest =>
                clear HC34
                try clear c1
                try clear c2
                try clear p2
                try clear c3
                try clear p3
                try clear c4
                try clear c10
                try clear c11
                try clear c13
                try clear c13b0
                try clear c13b1
                try clear c16
                try clear c17
                try clear c20
                try clear c20b0
                try clear c20b1
                try clear c21
                try clear c22
                try clear c24
                try clear c25
                try clear c28
                try clear c31
                try clear c32
                try clear p32
                try clear c35
                try clear c35b0
                try clear c35b1
                try clear c36
                try clear c37
                try clear c39
                try clear c40
                try clear hcz12_0
                try clear hcz12_1
                try clear hcz12_2
                try clear hcz12_3
                try clear hcz18_0
                try clear hcz18_1
                try clear hcz18_2
                try clear hcz18_3
                try clear hcz23_0
                try clear hcz23_1
                try clear hcz23_2
                try clear hcz23_3
                try clear hcz26_0
                try clear hcz26_1
                try clear hcz26_2
                try clear hcz26_3
                try clear hcz33_0
                try clear hcz33_1
                try clear hcz33_2
                try clear hcz33_3
                try clear hcz38_0
                try clear hcz38_1
                try clear hcz38_2
                try clear hcz38_3
                try clear hcz41_0
                try clear hcz41_1
                try clear hcz41_2
                try clear hcz41_3
                try clear hfz12_0
                try clear hfz12_1
                try clear hfz12_2
                try clear hfz12_3
                try clear hfz18_0
                try clear hfz18_1
                try clear hfz18_2
                try clear hfz18_3
                try clear hfz23_0
                try clear hfz23_1
                try clear hfz23_2
                try clear hfz23_3
                try clear hfz26_0
                try clear hfz26_1
                try clear hfz26_2
                try clear hfz26_3
                try clear hfz33_0
                try clear hfz33_1
                try clear hfz33_2
                try clear hfz33_3
                try clear hfz38_0
                try clear hfz38_1
                try clear hfz38_2
                try clear hfz38_3
                try clear hfz41_0
                try clear hfz41_1
                try clear hfz41_2
                try clear hfz41_3
                try clear p2
                try clear p3
                try clear p32
                obtain ⟨kq, x40_33, rfl, HA, HJ33, BK120, BK129, HI124, HB⟩ := hcut
                cases kq with
                | zero => exact absurd HA.out (by simp [field_ParseStamp.j3])
                | succ kj33 =>
                  have H := HA.out
                  clear HA
                  simp only [field_ParseStamp.j3] at H
                  have HC42 := Aside0.mk H
                  clear H
                  go_upto_if 40 with (fail)
                  go_cut [] (fun wc => ∃ (kq : Nat) (x125000_41 : ByteArray) (x125001_41 : Int) (x125002_41 : Int) (x130003_41 : Int), Aside0 (field_ParseStamp.j4 kq a1 x125000_41 x125001_41 x125002_41 t125 x130001_4 x130002_26 x130003_41 = some (r1, r2, r3, r4, r5)) ∧ Aside0 (kq ≤ kj33) ∧ Aside0 (wc.heap[gb120]? = some (.cells #[.int .u8 0, .int .i32 0, .int .i32 0, .int .i32 0] 32 (0, 0))) ∧ Aside0 (wc.heap[gb129]? = some (.cells #[.int .u8 t125, .int .i32 x130001_4, .int .i32 x130002_26, .int .i32 x130003_41] 32 (0, 0))) ∧ Aside0 (IsS81 w wc g124 x125000_41 x125001_41 x125002_41) ∧ Aside0 (Below w.heap.size w wc))
                  case first =>
                    have H := HC42.out
                    clear HC42
                    by_cases c43 : x40_33 = true
                    · subst c43
                      have H1 : ((cursor_Cursor_Four.f kj33 x125000_26 x125001_26 x125002_26).bind fun bt138 => (field_ParseStamp.j4 kj33 a1 bt138.2.1 bt138.2.2.1 bt138.2.2.2 t125 x130001_4 x130002_26 (wrap32 (bt138.1)))) = some (r1, r2, r3, r4, r5) := by rw [if_pos rfl] at H; exact H
                      clear H
                      have H := H1
                      clear H1
                      replace H := Option.bind_eq_some_iff.mp H
                      obtain ⟨⟨t138, t139, t140, t141⟩, A440, H⟩ := H
                      replace H : (field_ParseStamp.j4 kj33 a1 t139 t140 t141 t125 x130001_4 x130002_26 (wrap32 (t138))) = some (r1, r2, r3, r4, r5) := H
                      have A44 := Aside0.mk A440
                      clear A440
                      have H' := Aside0.mk H
                      clear H
                      go_wp2_with (first | ((with_reducible refine gate_callee (f := 31) rfl ?_); refine goesL_ (some 42) rfl rfl Try.func31 (by kernel_rfl) rfl #[.pointer (some ⟨g124, 0, none⟩)] rfl (by (try simp only [List.map_toArray, List.map_cons, List.map_nil]); first | done | rfl | (simp only [List.length_drop, List.length_take]; rfl)) ?_; (with_reducible refine (cursor_Cursor_Four.calls kj33 g124 x125000_26 x125001_26 x125002_26 t138 t139 t140 t141 w _ ?side1 ?side2 A44.out).mono ?_); (case side1 => repeat (first | (with_reducible first | exact HI124.out | apply IsS81.alloc | apply IsS81.drewN | apply IsS81.drew | apply IsS81.set_0 | apply IsS81.set_1 | apply IsS81.set_2 | refine IsS81.far ?_ NB124_120.out _ | refine IsS81.far ?_ NB124_129.out _) | exact HI124.out)); (case side2 => repeat (first | (with_reducible first | exact HB.out | apply below_alloc | apply pw_below_drewN | apply below_drew1 | refine below_set ?_ (IsS81.ge HI124.out) | refine below_set ?_ GE120.out | refine below_set ?_ GE129.out) | exact HB.out)); rintro e w45 ⟨rfl, hi, hb, hk⟩; refine ⟨_, rfl, ?_⟩; have n0_ := Aside0.mk (KeepBut.blk hk (g' := gb120) (o := .cells #[.int .u8 0, .int .i32 0, .int .i32 0, .int .i32 0] 32 (0, 0)) (by (with_reducible repeat (first | refine blk_drewN ?_ _ | refine blk_drew ?_ | refine blk_alloc ?_ _)); exact BK120.out) NB120_124.out (by simp)); have n1_ := Aside0.mk (KeepBut.blk hk (g' := gb129) (o := .cells #[.int .u8 t125, .int .i32 x130001_4, .int .i32 x130002_26, .int .i32 0] 32 (0, 0)) (by (with_reducible repeat (first | refine blk_drewN ?_ _ | refine blk_drew ?_ | refine blk_alloc ?_ _)); exact BK129.out) NB129_124.out (by simp)); have n2_ := Aside0.mk (hb); have n3_ := Aside0.mk (hi); clear BK120; clear BK129; clear HB; clear HI124; have BK120 := n0_; have BK129 := n1_; have HB := n2_; have HI124 := n3_; clear n0_ n1_ n2_ n3_; (try clear hb); (try clear hb2); (try clear hk); (try clear hi); have hnb46 := NB129_120.out; have hnc46 := NB120_129.out; have hnb47 := NB129_124.out; have hnc47 := NB124_129.out; have hcz48_0 : w45.cell? ⟨gb129, 0, none⟩ = some (.int .u8 t125) := (blk_cell BK129.out 0).trans rfl; have hcz48_1 : w45.cell? ⟨gb129, 1, none⟩ = some (.int .i32 x130001_4) := (blk_cell BK129.out 1).trans rfl; have hcz48_2 : w45.cell? ⟨gb129, 2, none⟩ = some (.int .i32 x130002_26) := (blk_cell BK129.out 2).trans rfl; have hcz48_3 : w45.cell? ⟨gb129, 3, none⟩ = some (.int .i32 0) := (blk_cell BK129.out 3).trans rfl; have hfz48_0 := blk_frozen BK129.out 0; have hfz48_1 := blk_frozen BK129.out 1; have hfz48_2 := blk_frozen BK129.out 2; have hfz48_3 := blk_frozen BK129.out 3))
                      go_meet
                      case rel => exact ⟨_, (t139), (t140), (t141), (wrap32 (t138)), H', ⟨by have := HJ4.out; have := HJ18.out; have := HJ26.out; have := HJ33.out; first | omega | exact Nat.le_refl _⟩, ⟨by (with_reducible repeat (first | refine blk_drewN ?_ _ | refine blk_drew ?_ | refine blk_alloc ?_ _)); refine blk_far ?_ NB120_129.out _; (with_reducible repeat (first | refine blk_drewN ?_ _ | refine blk_drew ?_ | refine blk_alloc ?_ _)); exact BK120.out⟩, ⟨by (with_reducible repeat (first | refine blk_drewN ?_ _ | refine blk_drew ?_ | refine blk_alloc ?_ _)); refine blk_put (cs := #[.int .u8 t125, .int .i32 x130001_4, .int .i32 x130002_26, .int .i32 0]) ?_ 3 _ rfl; (with_reducible repeat (first | refine blk_drewN ?_ _ | refine blk_drew ?_ | refine blk_alloc ?_ _)); exact BK129.out⟩, ⟨by repeat (first | (with_reducible first | exact HI124.out | apply IsS81.alloc | apply IsS81.drewN | apply IsS81.drew | apply IsS81.set_0 | apply IsS81.set_1 | apply IsS81.set_2 | refine IsS81.far ?_ NB124_120.out _ | refine IsS81.far ?_ NB124_129.out _) | exact HI124.out)⟩, ⟨by repeat (first | (with_reducible first | exact HB.out | apply below_alloc | apply pw_below_drewN | apply below_drew1 | refine below_set ?_ (IsS81.ge HI124.out) | refine below_set ?_ GE120.out | refine below_set ?_ GE129.out) | exact HB.out)⟩⟩
                    · replace c43 := Bool.eq_false_iff.mpr c43
                      subst c43
                      have H1 : (field_ParseStamp.j4 kj33 a1 x125000_26 x125001_26 x125002_26 t125 x130001_4 x130002_26 0) = some (r1, r2, r3, r4, r5) := by rw [if_neg (show ¬ (false = true) by decide)] at H; exact H
                      clear H
                      have H := H1
                      clear H1
                      have H' := Aside0.mk H
                      clear H
                      go_wp2
                      go_meet
                      case rel => exact ⟨_, (x125000_26), (x125001_26), (x125002_26), (0), H', ⟨by have := HJ4.out; have := HJ18.out; have := HJ26.out; have := HJ33.out; first | omega | exact Nat.le_refl _⟩, ⟨by (with_reducible repeat (first | refine blk_drewN ?_ _ | refine blk_drew ?_ | refine blk_alloc ?_ _)); exact BK120.out⟩, ⟨by (with_reducible repeat (first | refine blk_drewN ?_ _ | refine blk_drew ?_ | refine blk_alloc ?_ _)); exact BK129.out⟩, ⟨by repeat (first | (with_reducible first | exact HI124.out | apply IsS81.alloc | apply IsS81.drewN | apply IsS81.drew | apply IsS81.set_0 | apply IsS81.set_1 | apply IsS81.set_2 | refine IsS81.far ?_ NB124_120.out _ | refine IsS81.far ?_ NB124_129.out _) | exact HI124.out)⟩, ⟨by repeat (first | (with_reducible first | exact HB.out | apply below_alloc | apply pw_below_drewN | apply below_drew1 | refine below_set ?_ (IsS81.ge HI124.out) | refine below_set ?_ GE120.out | refine below_set ?_ GE129.out) | exact HB.out)⟩⟩
                  case rest =>
                    clear HC42
                    try clear c1
                    try clear c2
                    try clear p2
                    try clear c3
                    try clear p3
                    try clear c4
                    try clear c10
                    try clear c11
                    try clear c13
                    try clear c13b0
                    try clear c13b1
                    try clear c16
                    try clear c17
                    try clear c20
                    try clear c20b0
                    try clear c20b1
                    try clear c21
                    try clear c22
                    try clear c24
                    try clear c25
                    try clear c28
                    try clear c31
                    try clear c32
                    try clear p32
                    try clear c35
                    try clear c35b0
                    try clear c35b1
                    try clear c36
                    try clear c37
                    try clear c39
                    try clear c40
                    try clear c43
                    try clear c46
                    try clear c47
                    try clear hcz12_0
                    try clear hcz12_1
                    try clear hcz12_2
                    try clear hcz12_3
                    try clear hcz18_0
                    try clear hcz18_1
                    try clear hcz18_2
                    try clear hcz18_3
                    try clear hcz23_0
                    try clear hcz23_1
                    try clear hcz23_2
                    try clear hcz23_3
                    try clear hcz26_0
                    try clear hcz26_1
                    try clear hcz26_2
                    try clear hcz26_3
                    try clear hcz33_0
                    try clear hcz33_1
                    try clear hcz33_2
                    try clear hcz33_3
                    try clear hcz38_0
                    try clear hcz38_1
                    try clear hcz38_2
                    try clear hcz38_3
                    try clear hcz41_0
                    try clear hcz41_1
                    try clear hcz41_2
                    try clear hcz41_3
                    try clear hcz48_0
                    try clear hcz48_1
                    try clear hcz48_2
                    try clear hcz48_3
                    try clear hfz12_0
                    try clear hfz12_1
                    try clear hfz12_2
                    try clear hfz12_3
                    try clear hfz18_0
                    try clear hfz18_1
                    try clear hfz18_2
                    try clear hfz18_3
                    try clear hfz23_0
                    try clear hfz23_1
                    try clear hfz23_2
                    try clear hfz23_3
                    try clear hfz26_0
                    try clear hfz26_1
                    try clear hfz26_2
                    try clear hfz26_3
                    try clear hfz33_0
                    try clear hfz33_1
                    try clear hfz33_2
                    try clear hfz33_3
                    try clear hfz38_0
                    try clear hfz38_1
                    try clear hfz38_2
                    try clear hfz38_3
                    try clear hfz41_0
                    try clear hfz41_1
                    try clear hfz41_2
                    try clear hfz41_3
                    try clear hfz48_0
                    try clear hfz48_1
                    try clear hfz48_2
                    try clear hfz48_3
                    try clear p2
                    try clear p3
                    try clear p32
                    obtain ⟨kq, x125000_41, x125001_41, x125002_41, x130003_41, HA, HJ41, BK120, BK129, HI124, HB⟩ := hcut
                    cases kq with
                    | zero => exact absurd HA.out (by simp [field_ParseStamp.j4])
                    | succ kj41 =>
                      have H := HA.out
                      clear HA
                      simp only [field_ParseStamp.j4] at H
                      replace H := Option.bind_eq_some_iff.mp H
                      obtain ⟨⟨t142, t143, t144, t145⟩, A490, H⟩ := H
                      replace H : (if t142 = 0 then (if t125 > 7 then (some (0, 0, 0, 0, 24)) else ((cursor_Cursor_Left.f t143 t144 t145).bind fun bt146 => (if bt146.1 > 0 then (if a1 = true then (some (t125, x130001_4, x130002_26, x130003_41, 0)) else (some (0, 0, 0, 0, 24))) else (some (t125, x130001_4, x130002_26, x130003_41, 0))))) else (some (0, 0, 0, 0, 24))) = some (r1, r2, r3, r4, r5) := H
                      have A49 := Aside0.mk A490
                      clear A490
                      by_cases c50 : t142 = 0
                      · rw [if_pos c50] at H
                        have c50b0 : (t142 == 0) = true := beq_iff_eq.mpr c50
                        have c50b1 : (t142 != 0) = false := bne_eq_false_iff_eq.mpr c50
                        clear c50
                        by_cases c51 : t125 > 7
                        · rw [if_pos c51] at H
                          have c51b0 : decide (7 < t125) = true := decide_eq_true c51
                          clear c51
                          simp only [Option.some.injEq, Prod.mk.injEq] at H
                          obtain ⟨rfl, rfl, rfl, rfl, rfl⟩ := H
                          go_wp2_with (first | ((with_reducible refine gate_callee (f := 25) rfl ?_); refine goesL_ (some 46) rfl rfl Try.func25 (by kernel_rfl) rfl #[.pointer (some ⟨g124, 0, none⟩)] rfl (by (try simp only [List.map_toArray, List.map_cons, List.map_nil]); first | done | rfl | (simp only [List.length_drop, List.length_take]; rfl)) ?_; (with_reducible refine (cursor_Cursor_Err.calls g124 x125000_41 x125001_41 x125002_41 t142 t143 t144 t145 w _ ?side1 ?side2 A49.out).mono ?_); (case side1 => repeat (first | (with_reducible first | exact HI124.out | apply IsS81.alloc | apply IsS81.drewN | apply IsS81.drew | apply IsS81.set_0 | apply IsS81.set_1 | apply IsS81.set_2 | refine IsS81.far ?_ NB124_120.out _ | refine IsS81.far ?_ NB124_129.out _) | exact HI124.out)); (case side2 => repeat (first | (with_reducible first | exact HB.out | apply below_alloc | apply pw_below_drewN | apply below_drew1 | refine below_set ?_ (IsS81.ge HI124.out) | refine below_set ?_ GE120.out | refine below_set ?_ GE129.out) | exact HB.out)); rintro e w52 ⟨rfl, hi, hb, hk⟩; refine ⟨_, rfl, ?_⟩; have n0_ := Aside0.mk (KeepBut.blk hk (g' := gb120) (o := .cells #[.int .u8 0, .int .i32 0, .int .i32 0, .int .i32 0] 32 (0, 0)) (by (with_reducible repeat (first | refine blk_drewN ?_ _ | refine blk_drew ?_ | refine blk_alloc ?_ _)); exact BK120.out) NB120_124.out (by simp)); have n1_ := Aside0.mk (KeepBut.blk hk (g' := gb129) (o := .cells #[.int .u8 t125, .int .i32 x130001_4, .int .i32 x130002_26, .int .i32 x130003_41] 32 (0, 0)) (by (with_reducible repeat (first | refine blk_drewN ?_ _ | refine blk_drew ?_ | refine blk_alloc ?_ _)); exact BK129.out) NB129_124.out (by simp)); have n2_ := Aside0.mk (hb); have n3_ := Aside0.mk (hi); clear BK120; clear BK129; clear HB; clear HI124; have BK120 := n0_; have BK129 := n1_; have HB := n2_; have HI124 := n3_; clear n0_ n1_ n2_ n3_; (try clear hb); (try clear hb2); (try clear hk); (try clear hi); have hnb53 := NB129_120.out; have hnc53 := NB120_129.out; have hnb54 := NB129_124.out; have hnc54 := NB124_129.out; have hcz55_0 : w52.cell? ⟨gb129, 0, none⟩ = some (.int .u8 t125) := (blk_cell BK129.out 0).trans rfl; have hcz55_1 : w52.cell? ⟨gb129, 1, none⟩ = some (.int .i32 x130001_4) := (blk_cell BK129.out 1).trans rfl; have hcz55_2 : w52.cell? ⟨gb129, 2, none⟩ = some (.int .i32 x130002_26) := (blk_cell BK129.out 2).trans rfl; have hcz55_3 : w52.cell? ⟨gb129, 3, none⟩ = some (.int .i32 x130003_41) := (blk_cell BK129.out 3).trans rfl; have hfz55_0 := blk_frozen BK129.out 0; have hfz55_1 := blk_frozen BK129.out 1; have hfz55_2 := blk_frozen BK129.out 2; have hfz55_3 := blk_frozen BK129.out 3; have hnb56 := NB120_124.out; have hnc56 := NB124_120.out; have hcz57_0 : w52.cell? ⟨gb120, 0, none⟩ = some (.int .u8 0) := (blk_cell BK120.out 0).trans rfl; have hcz57_1 : w52.cell? ⟨gb120, 1, none⟩ = some (.int .i32 0) := (blk_cell BK120.out 1).trans rfl; have hcz57_2 : w52.cell? ⟨gb120, 2, none⟩ = some (.int .i32 0) := (blk_cell BK120.out 2).trans rfl; have hcz57_3 : w52.cell? ⟨gb120, 3, none⟩ = some (.int .i32 0) := (blk_cell BK120.out 3).trans rfl; have hfz57_0 := blk_frozen BK120.out 0; have hfz57_1 := blk_frozen BK120.out 1; have hfz57_2 := blk_frozen BK120.out 2; have hfz57_3 := blk_frozen BK120.out 3))
                          refine bodyPost_ret (results_ct rfl _ _ gb120 32 #[.int .u8 0, .int .i32 0, .int .i32 0, .int .i32 0] (0, 0) _ rfl (by (with_reducible repeat (first | refine blk_drewN ?_ _ | refine blk_drew ?_ | refine blk_alloc ?_ _)); refine blk_put (cs := #[.int .u8 0, .int .i32 0, .int .i32 0, .int .i32 0]) ?_ 3 _ rfl; (with_reducible repeat (first | refine blk_drewN ?_ _ | refine blk_drew ?_ | refine blk_alloc ?_ _)); refine blk_put (cs := #[.int .u8 0, .int .i32 0, .int .i32 0, .int .i32 0]) ?_ 2 _ rfl; (with_reducible repeat (first | refine blk_drewN ?_ _ | refine blk_drew ?_ | refine blk_alloc ?_ _)); refine blk_put (cs := #[.int .u8 0, .int .i32 0, .int .i32 0, .int .i32 0]) ?_ 1 _ rfl; (with_reducible repeat (first | refine blk_drewN ?_ _ | refine blk_drew ?_ | refine blk_alloc ?_ _)); refine blk_put (cs := #[.int .u8 0, .int .i32 0, .int .i32 0, .int .i32 0]) ?_ 0 _ rfl; (with_reducible repeat (first | refine blk_drewN ?_ _ | refine blk_drew ?_ | refine blk_alloc ?_ _)); exact BK120.out) Try.underlying32 rfl (by kernel_rfl)) rfl ?_
                          exact ⟨by first | rfl | (simp [errW_none, errW_some] <;> rfl) | (simp [*, errW_none, errW_some] <;> rfl), by repeat (first | (with_reducible first | exact HB.out | apply below_alloc | apply pw_below_drewN | apply below_drew1 | refine below_set ?_ (IsS81.ge HI124.out) | refine below_set ?_ GE120.out | refine below_set ?_ GE129.out) | exact HB.out)⟩
                        · rw [if_neg c51] at H
                          have c51b0 : decide (7 < t125) = false := decide_eq_false c51
                          clear c51
                          replace H := Option.bind_eq_some_iff.mp H
                          obtain ⟨⟨t146, t147, t148, t149⟩, A580, H⟩ := H
                          replace H : (if t146 > 0 then (if a1 = true then (some (t125, x130001_4, x130002_26, x130003_41, 0)) else (some (0, 0, 0, 0, 24))) else (some (t125, x130001_4, x130002_26, x130003_41, 0))) = some (r1, r2, r3, r4, r5) := H
                          have A58 := Aside0.mk A580
                          clear A580
                          by_cases c59 : t146 > 0
                          · rw [if_pos c59] at H
                            have c59b0 : decide (0 < t146) = true := decide_eq_true c59
                            clear c59
                            by_cases c60 : a1 = true
                            · subst c60
                              have H1 : (some (t125, x130001_4, x130002_26, x130003_41, 0)) = some (r1, r2, r3, r4, r5) := by rw [if_pos rfl] at H; exact H
                              clear H
                              have H := H1
                              clear H1
                              simp only [Option.some.injEq, Prod.mk.injEq] at H
                              obtain ⟨rfl, rfl, rfl, rfl, rfl⟩ := H
                              go_wp2_with (first | ((with_reducible refine gate_callee (f := 25) rfl ?_); refine goesL_ (some 46) rfl rfl Try.func25 (by kernel_rfl) rfl #[.pointer (some ⟨g124, 0, none⟩)] rfl (by (try simp only [List.map_toArray, List.map_cons, List.map_nil]); first | done | rfl | (simp only [List.length_drop, List.length_take]; rfl)) ?_; (with_reducible refine (cursor_Cursor_Err.calls g124 x125000_41 x125001_41 x125002_41 t142 t143 t144 t145 w _ ?side1 ?side2 A49.out).mono ?_); (case side1 => repeat (first | (with_reducible first | exact HI124.out | apply IsS81.alloc | apply IsS81.drewN | apply IsS81.drew | apply IsS81.set_0 | apply IsS81.set_1 | apply IsS81.set_2 | refine IsS81.far ?_ NB124_120.out _ | refine IsS81.far ?_ NB124_129.out _) | exact HI124.out)); (case side2 => repeat (first | (with_reducible first | exact HB.out | apply below_alloc | apply pw_below_drewN | apply below_drew1 | refine below_set ?_ (IsS81.ge HI124.out) | refine below_set ?_ GE120.out | refine below_set ?_ GE129.out) | exact HB.out)); rintro e w61 ⟨rfl, hi, hb, hk⟩; refine ⟨_, rfl, ?_⟩; have n0_ := Aside0.mk (KeepBut.blk hk (g' := gb120) (o := .cells #[.int .u8 0, .int .i32 0, .int .i32 0, .int .i32 0] 32 (0, 0)) (by (with_reducible repeat (first | refine blk_drewN ?_ _ | refine blk_drew ?_ | refine blk_alloc ?_ _)); exact BK120.out) NB120_124.out (by simp)); have n1_ := Aside0.mk (KeepBut.blk hk (g' := gb129) (o := .cells #[.int .u8 t125, .int .i32 x130001_4, .int .i32 x130002_26, .int .i32 x130003_41] 32 (0, 0)) (by (with_reducible repeat (first | refine blk_drewN ?_ _ | refine blk_drew ?_ | refine blk_alloc ?_ _)); exact BK129.out) NB129_124.out (by simp)); have n2_ := Aside0.mk (hb); have n3_ := Aside0.mk (hi); clear BK120; clear BK129; clear HB; clear HI124; have BK120 := n0_; have BK129 := n1_; have HB := n2_; have HI124 := n3_; clear n0_ n1_ n2_ n3_; (try clear hb); (try clear hb2); (try clear hk); (try clear hi); have hnb62 := NB129_120.out; have hnc62 := NB120_129.out; have hnb63 := NB129_124.out; have hnc63 := NB124_129.out; have hcz64_0 : w61.cell? ⟨gb129, 0, none⟩ = some (.int .u8 t125) := (blk_cell BK129.out 0).trans rfl; have hcz64_1 : w61.cell? ⟨gb129, 1, none⟩ = some (.int .i32 x130001_4) := (blk_cell BK129.out 1).trans rfl; have hcz64_2 : w61.cell? ⟨gb129, 2, none⟩ = some (.int .i32 x130002_26) := (blk_cell BK129.out 2).trans rfl; have hcz64_3 : w61.cell? ⟨gb129, 3, none⟩ = some (.int .i32 x130003_41) := (blk_cell BK129.out 3).trans rfl; have hfz64_0 := blk_frozen BK129.out 0; have hfz64_1 := blk_frozen BK129.out 1; have hfz64_2 := blk_frozen BK129.out 2; have hfz64_3 := blk_frozen BK129.out 3) | (go_at_call 26; (with_reducible refine (cursor_Cursor_Left.calls g124 t143 t144 t145 t146 t147 t148 t149 w _ ?side1 ?side2 A58.out).mono ?_); (case side1 => repeat (first | (with_reducible first | exact HI124.out | apply IsS81.alloc | apply IsS81.drewN | apply IsS81.drew | apply IsS81.set_0 | apply IsS81.set_1 | apply IsS81.set_2 | refine IsS81.far ?_ NB124_120.out _ | refine IsS81.far ?_ NB124_129.out _) | exact HI124.out)); (case side2 => repeat (first | (with_reducible first | exact HB.out | apply below_alloc | apply pw_below_drewN | apply below_drew1 | refine below_set ?_ (IsS81.ge HI124.out) | refine below_set ?_ GE120.out | refine below_set ?_ GE129.out) | exact HB.out)); rintro e w65 ⟨rfl, hi, hb, hk⟩; have n0_ := Aside0.mk (KeepBut.blk hk (g' := gb120) (o := .cells #[.int .u8 0, .int .i32 0, .int .i32 0, .int .i32 0] 32 (0, 0)) (by (with_reducible repeat (first | refine blk_drewN ?_ _ | refine blk_drew ?_ | refine blk_alloc ?_ _)); exact BK120.out) NB120_124.out (by simp)); have n1_ := Aside0.mk (KeepBut.blk hk (g' := gb129) (o := .cells #[.int .u8 t125, .int .i32 x130001_4, .int .i32 x130002_26, .int .i32 x130003_41] 32 (0, 0)) (by (with_reducible repeat (first | refine blk_drewN ?_ _ | refine blk_drew ?_ | refine blk_alloc ?_ _)); exact BK129.out) NB129_124.out (by simp)); have n2_ := Aside0.mk (hb); have n3_ := Aside0.mk (hi); clear BK120; clear BK129; clear HB; clear HI124; have BK120 := n0_; have BK129 := n1_; have HB := n2_; have HI124 := n3_; clear n0_ n1_ n2_ n3_; (try clear hb); (try clear hb2); (try clear hk); (try clear hi); have hcz66_0 : w65.cell? ⟨gb129, 0, none⟩ = some (.int .u8 t125) := (blk_cell BK129.out 0).trans rfl; have hcz66_1 : w65.cell? ⟨gb129, 1, none⟩ = some (.int .i32 x130001_4) := (blk_cell BK129.out 1).trans rfl; have hcz66_2 : w65.cell? ⟨gb129, 2, none⟩ = some (.int .i32 x130002_26) := (blk_cell BK129.out 2).trans rfl; have hcz66_3 : w65.cell? ⟨gb129, 3, none⟩ = some (.int .i32 x130003_41) := (blk_cell BK129.out 3).trans rfl; have hfz66_0 := blk_frozen BK129.out 0; have hfz66_1 := blk_frozen BK129.out 1; have hfz66_2 := blk_frozen BK129.out 2; have hfz66_3 := blk_frozen BK129.out 3; have hnb67 := NB120_124.out; have hnc67 := NB124_120.out; have hcz68_0 : w65.cell? ⟨gb120, 0, none⟩ = some (.int .u8 0) := (blk_cell BK120.out 0).trans rfl; have hcz68_1 : w65.cell? ⟨gb120, 1, none⟩ = some (.int .i32 0) := (blk_cell BK120.out 1).trans rfl; have hcz68_2 : w65.cell? ⟨gb120, 2, none⟩ = some (.int .i32 0) := (blk_cell BK120.out 2).trans rfl; have hcz68_3 : w65.cell? ⟨gb120, 3, none⟩ = some (.int .i32 0) := (blk_cell BK120.out 3).trans rfl; have hfz68_0 := blk_frozen BK120.out 0; have hfz68_1 := blk_frozen BK120.out 1; have hfz68_2 := blk_frozen BK120.out 2; have hfz68_3 := blk_frozen BK120.out 3))
                              refine bodyPost_ret (results_ct rfl _ _ gb120 32 #[.int .u8 t125, .int .i32 x130001_4, .int .i32 x130002_26, .int .i32 x130003_41] (0, 0) _ rfl (by (with_reducible repeat (first | refine blk_drewN ?_ _ | refine blk_drew ?_ | refine blk_alloc ?_ _)); refine blk_put (cs := #[.int .u8 t125, .int .i32 x130001_4, .int .i32 x130002_26, .int .i32 0]) ?_ 3 _ rfl; (with_reducible repeat (first | refine blk_drewN ?_ _ | refine blk_drew ?_ | refine blk_alloc ?_ _)); refine blk_put (cs := #[.int .u8 t125, .int .i32 x130001_4, .int .i32 0, .int .i32 0]) ?_ 2 _ rfl; (with_reducible repeat (first | refine blk_drewN ?_ _ | refine blk_drew ?_ | refine blk_alloc ?_ _)); refine blk_put (cs := #[.int .u8 t125, .int .i32 0, .int .i32 0, .int .i32 0]) ?_ 1 _ rfl; (with_reducible repeat (first | refine blk_drewN ?_ _ | refine blk_drew ?_ | refine blk_alloc ?_ _)); refine blk_put (cs := #[.int .u8 0, .int .i32 0, .int .i32 0, .int .i32 0]) ?_ 0 _ rfl; (with_reducible repeat (first | refine blk_drewN ?_ _ | refine blk_drew ?_ | refine blk_alloc ?_ _)); exact BK120.out) Try.underlying32 rfl (by kernel_rfl)) rfl ?_
                              exact ⟨by first | rfl | (simp [errW_none, errW_some] <;> rfl) | (simp [*, errW_none, errW_some] <;> rfl), by repeat (first | (with_reducible first | exact HB.out | apply below_alloc | apply pw_below_drewN | apply below_drew1 | refine below_set ?_ (IsS81.ge HI124.out) | refine below_set ?_ GE120.out | refine below_set ?_ GE129.out) | exact HB.out)⟩
                            · replace c60 := Bool.eq_false_iff.mpr c60
                              subst c60
                              have H1 : (some (0, 0, 0, 0, 24)) = some (r1, r2, r3, r4, r5) := by rw [if_neg (show ¬ (false = true) by decide)] at H; exact H
                              clear H
                              have H := H1
                              clear H1
                              simp only [Option.some.injEq, Prod.mk.injEq] at H
                              obtain ⟨rfl, rfl, rfl, rfl, rfl⟩ := H
                              go_wp2_with (first | ((with_reducible refine gate_callee (f := 25) rfl ?_); refine goesL_ (some 46) rfl rfl Try.func25 (by kernel_rfl) rfl #[.pointer (some ⟨g124, 0, none⟩)] rfl (by (try simp only [List.map_toArray, List.map_cons, List.map_nil]); first | done | rfl | (simp only [List.length_drop, List.length_take]; rfl)) ?_; (with_reducible refine (cursor_Cursor_Err.calls g124 x125000_41 x125001_41 x125002_41 t142 t143 t144 t145 w _ ?side1 ?side2 A49.out).mono ?_); (case side1 => repeat (first | (with_reducible first | exact HI124.out | apply IsS81.alloc | apply IsS81.drewN | apply IsS81.drew | apply IsS81.set_0 | apply IsS81.set_1 | apply IsS81.set_2 | refine IsS81.far ?_ NB124_120.out _ | refine IsS81.far ?_ NB124_129.out _) | exact HI124.out)); (case side2 => repeat (first | (with_reducible first | exact HB.out | apply below_alloc | apply pw_below_drewN | apply below_drew1 | refine below_set ?_ (IsS81.ge HI124.out) | refine below_set ?_ GE120.out | refine below_set ?_ GE129.out) | exact HB.out)); rintro e w69 ⟨rfl, hi, hb, hk⟩; refine ⟨_, rfl, ?_⟩; have n0_ := Aside0.mk (KeepBut.blk hk (g' := gb120) (o := .cells #[.int .u8 0, .int .i32 0, .int .i32 0, .int .i32 0] 32 (0, 0)) (by (with_reducible repeat (first | refine blk_drewN ?_ _ | refine blk_drew ?_ | refine blk_alloc ?_ _)); exact BK120.out) NB120_124.out (by simp)); have n1_ := Aside0.mk (KeepBut.blk hk (g' := gb129) (o := .cells #[.int .u8 t125, .int .i32 x130001_4, .int .i32 x130002_26, .int .i32 x130003_41] 32 (0, 0)) (by (with_reducible repeat (first | refine blk_drewN ?_ _ | refine blk_drew ?_ | refine blk_alloc ?_ _)); exact BK129.out) NB129_124.out (by simp)); have n2_ := Aside0.mk (hb); have n3_ := Aside0.mk (hi); clear BK120; clear BK129; clear HB; clear HI124; have BK120 := n0_; have BK129 := n1_; have HB := n2_; have HI124 := n3_; clear n0_ n1_ n2_ n3_; (try clear hb); (try clear hb2); (try clear hk); (try clear hi); have hnb70 := NB129_120.out; have hnc70 := NB120_129.out; have hnb71 := NB129_124.out; have hnc71 := NB124_129.out; have hcz72_0 : w69.cell? ⟨gb129, 0, none⟩ = some (.int .u8 t125) := (blk_cell BK129.out 0).trans rfl; have hcz72_1 : w69.cell? ⟨gb129, 1, none⟩ = some (.int .i32 x130001_4) := (blk_cell BK129.out 1).trans rfl; have hcz72_2 : w69.cell? ⟨gb129, 2, none⟩ = some (.int .i32 x130002_26) := (blk_cell BK129.out 2).trans rfl; have hcz72_3 : w69.cell? ⟨gb129, 3, none⟩ = some (.int .i32 x130003_41) := (blk_cell BK129.out 3).trans rfl; have hfz72_0 := blk_frozen BK129.out 0; have hfz72_1 := blk_frozen BK129.out 1; have hfz72_2 := blk_frozen BK129.out 2; have hfz72_3 := blk_frozen BK129.out 3) | (go_at_call 26; (with_reducible refine (cursor_Cursor_Left.calls g124 t143 t144 t145 t146 t147 t148 t149 w _ ?side1 ?side2 A58.out).mono ?_); (case side1 => repeat (first | (with_reducible first | exact HI124.out | apply IsS81.alloc | apply IsS81.drewN | apply IsS81.drew | apply IsS81.set_0 | apply IsS81.set_1 | apply IsS81.set_2 | refine IsS81.far ?_ NB124_120.out _ | refine IsS81.far ?_ NB124_129.out _) | exact HI124.out)); (case side2 => repeat (first | (with_reducible first | exact HB.out | apply below_alloc | apply pw_below_drewN | apply below_drew1 | refine below_set ?_ (IsS81.ge HI124.out) | refine below_set ?_ GE120.out | refine below_set ?_ GE129.out) | exact HB.out)); rintro e w73 ⟨rfl, hi, hb, hk⟩; have n0_ := Aside0.mk (KeepBut.blk hk (g' := gb120) (o := .cells #[.int .u8 0, .int .i32 0, .int .i32 0, .int .i32 0] 32 (0, 0)) (by (with_reducible repeat (first | refine blk_drewN ?_ _ | refine blk_drew ?_ | refine blk_alloc ?_ _)); exact BK120.out) NB120_124.out (by simp)); have n1_ := Aside0.mk (KeepBut.blk hk (g' := gb129) (o := .cells #[.int .u8 t125, .int .i32 x130001_4, .int .i32 x130002_26, .int .i32 x130003_41] 32 (0, 0)) (by (with_reducible repeat (first | refine blk_drewN ?_ _ | refine blk_drew ?_ | refine blk_alloc ?_ _)); exact BK129.out) NB129_124.out (by simp)); have n2_ := Aside0.mk (hb); have n3_ := Aside0.mk (hi); clear BK120; clear BK129; clear HB; clear HI124; have BK120 := n0_; have BK129 := n1_; have HB := n2_; have HI124 := n3_; clear n0_ n1_ n2_ n3_; (try clear hb); (try clear hb2); (try clear hk); (try clear hi); have hnb74 := NB120_124.out; have hnc74 := NB124_120.out; have hcz75_0 : w73.cell? ⟨gb120, 0, none⟩ = some (.int .u8 0) := (blk_cell BK120.out 0).trans rfl; have hcz75_1 : w73.cell? ⟨gb120, 1, none⟩ = some (.int .i32 0) := (blk_cell BK120.out 1).trans rfl; have hcz75_2 : w73.cell? ⟨gb120, 2, none⟩ = some (.int .i32 0) := (blk_cell BK120.out 2).trans rfl; have hcz75_3 : w73.cell? ⟨gb120, 3, none⟩ = some (.int .i32 0) := (blk_cell BK120.out 3).trans rfl; have hfz75_0 := blk_frozen BK120.out 0; have hfz75_1 := blk_frozen BK120.out 1; have hfz75_2 := blk_frozen BK120.out 2; have hfz75_3 := blk_frozen BK120.out 3))
                              refine bodyPost_ret (results_ct rfl _ _ gb120 32 #[.int .u8 0, .int .i32 0, .int .i32 0, .int .i32 0] (0, 0) _ rfl (by (with_reducible repeat (first | refine blk_drewN ?_ _ | refine blk_drew ?_ | refine blk_alloc ?_ _)); refine blk_put (cs := #[.int .u8 0, .int .i32 0, .int .i32 0, .int .i32 0]) ?_ 3 _ rfl; (with_reducible repeat (first | refine blk_drewN ?_ _ | refine blk_drew ?_ | refine blk_alloc ?_ _)); refine blk_put (cs := #[.int .u8 0, .int .i32 0, .int .i32 0, .int .i32 0]) ?_ 2 _ rfl; (with_reducible repeat (first | refine blk_drewN ?_ _ | refine blk_drew ?_ | refine blk_alloc ?_ _)); refine blk_put (cs := #[.int .u8 0, .int .i32 0, .int .i32 0, .int .i32 0]) ?_ 1 _ rfl; (with_reducible repeat (first | refine blk_drewN ?_ _ | refine blk_drew ?_ | refine blk_alloc ?_ _)); refine blk_put (cs := #[.int .u8 0, .int .i32 0, .int .i32 0, .int .i32 0]) ?_ 0 _ rfl; (with_reducible repeat (first | refine blk_drewN ?_ _ | refine blk_drew ?_ | refine blk_alloc ?_ _)); exact BK120.out) Try.underlying32 rfl (by kernel_rfl)) rfl ?_
                              exact ⟨by first | rfl | (simp [errW_none, errW_some] <;> rfl) | (simp [*, errW_none, errW_some] <;> rfl), by repeat (first | (with_reducible first | exact HB.out | apply below_alloc | apply pw_below_drewN | apply below_drew1 | refine below_set ?_ (IsS81.ge HI124.out) | refine below_set ?_ GE120.out | refine below_set ?_ GE129.out) | exact HB.out)⟩
                          · rw [if_neg c59] at H
                            have c59b0 : decide (0 < t146) = false := decide_eq_false c59
                            clear c59
                            simp only [Option.some.injEq, Prod.mk.injEq] at H
                            obtain ⟨rfl, rfl, rfl, rfl, rfl⟩ := H
                            go_wp2_with (first | ((with_reducible refine gate_callee (f := 25) rfl ?_); refine goesL_ (some 46) rfl rfl Try.func25 (by kernel_rfl) rfl #[.pointer (some ⟨g124, 0, none⟩)] rfl (by (try simp only [List.map_toArray, List.map_cons, List.map_nil]); first | done | rfl | (simp only [List.length_drop, List.length_take]; rfl)) ?_; (with_reducible refine (cursor_Cursor_Err.calls g124 x125000_41 x125001_41 x125002_41 t142 t143 t144 t145 w _ ?side1 ?side2 A49.out).mono ?_); (case side1 => repeat (first | (with_reducible first | exact HI124.out | apply IsS81.alloc | apply IsS81.drewN | apply IsS81.drew | apply IsS81.set_0 | apply IsS81.set_1 | apply IsS81.set_2 | refine IsS81.far ?_ NB124_120.out _ | refine IsS81.far ?_ NB124_129.out _) | exact HI124.out)); (case side2 => repeat (first | (with_reducible first | exact HB.out | apply below_alloc | apply pw_below_drewN | apply below_drew1 | refine below_set ?_ (IsS81.ge HI124.out) | refine below_set ?_ GE120.out | refine below_set ?_ GE129.out) | exact HB.out)); rintro e w76 ⟨rfl, hi, hb, hk⟩; refine ⟨_, rfl, ?_⟩; have n0_ := Aside0.mk (KeepBut.blk hk (g' := gb120) (o := .cells #[.int .u8 0, .int .i32 0, .int .i32 0, .int .i32 0] 32 (0, 0)) (by (with_reducible repeat (first | refine blk_drewN ?_ _ | refine blk_drew ?_ | refine blk_alloc ?_ _)); exact BK120.out) NB120_124.out (by simp)); have n1_ := Aside0.mk (KeepBut.blk hk (g' := gb129) (o := .cells #[.int .u8 t125, .int .i32 x130001_4, .int .i32 x130002_26, .int .i32 x130003_41] 32 (0, 0)) (by (with_reducible repeat (first | refine blk_drewN ?_ _ | refine blk_drew ?_ | refine blk_alloc ?_ _)); exact BK129.out) NB129_124.out (by simp)); have n2_ := Aside0.mk (hb); have n3_ := Aside0.mk (hi); clear BK120; clear BK129; clear HB; clear HI124; have BK120 := n0_; have BK129 := n1_; have HB := n2_; have HI124 := n3_; clear n0_ n1_ n2_ n3_; (try clear hb); (try clear hb2); (try clear hk); (try clear hi); have hnb77 := NB129_120.out; have hnc77 := NB120_129.out; have hnb78 := NB129_124.out; have hnc78 := NB124_129.out; have hcz79_0 : w76.cell? ⟨gb129, 0, none⟩ = some (.int .u8 t125) := (blk_cell BK129.out 0).trans rfl; have hcz79_1 : w76.cell? ⟨gb129, 1, none⟩ = some (.int .i32 x130001_4) := (blk_cell BK129.out 1).trans rfl; have hcz79_2 : w76.cell? ⟨gb129, 2, none⟩ = some (.int .i32 x130002_26) := (blk_cell BK129.out 2).trans rfl; have hcz79_3 : w76.cell? ⟨gb129, 3, none⟩ = some (.int .i32 x130003_41) := (blk_cell BK129.out 3).trans rfl; have hfz79_0 := blk_frozen BK129.out 0; have hfz79_1 := blk_frozen BK129.out 1; have hfz79_2 := blk_frozen BK129.out 2; have hfz79_3 := blk_frozen BK129.out 3) | (go_at_call 26; (with_reducible refine (cursor_Cursor_Left.calls g124 t143 t144 t145 t146 t147 t148 t149 w _ ?side1 ?side2 A58.out).mono ?_); (case side1 => repeat (first | (with_reducible first | exact HI124.out | apply IsS81.alloc | apply IsS81.drewN | apply IsS81.drew | apply IsS81.set_0 | apply IsS81.set_1 | apply IsS81.set_2 | refine IsS81.far ?_ NB124_120.out _ | refine IsS81.far ?_ NB124_129.out _) | exact HI124.out)); (case side2 => repeat (first | (with_reducible first | exact HB.out | apply below_alloc | apply pw_below_drewN | apply below_drew1 | refine below_set ?_ (IsS81.ge HI124.out) | refine below_set ?_ GE120.out | refine below_set ?_ GE129.out) | exact HB.out)); rintro e w80 ⟨rfl, hi, hb, hk⟩; have n0_ := Aside0.mk (KeepBut.blk hk (g' := gb120) (o := .cells #[.int .u8 0, .int .i32 0, .int .i32 0, .int .i32 0] 32 (0, 0)) (by (with_reducible repeat (first | refine blk_drewN ?_ _ | refine blk_drew ?_ | refine blk_alloc ?_ _)); exact BK120.out) NB120_124.out (by simp)); have n1_ := Aside0.mk (KeepBut.blk hk (g' := gb129) (o := .cells #[.int .u8 t125, .int .i32 x130001_4, .int .i32 x130002_26, .int .i32 x130003_41] 32 (0, 0)) (by (with_reducible repeat (first | refine blk_drewN ?_ _ | refine blk_drew ?_ | refine blk_alloc ?_ _)); exact BK129.out) NB129_124.out (by simp)); have n2_ := Aside0.mk (hb); have n3_ := Aside0.mk (hi); clear BK120; clear BK129; clear HB; clear HI124; have BK120 := n0_; have BK129 := n1_; have HB := n2_; have HI124 := n3_; clear n0_ n1_ n2_ n3_; (try clear hb); (try clear hb2); (try clear hk); (try clear hi); have hcz81_0 : w80.cell? ⟨gb129, 0, none⟩ = some (.int .u8 t125) := (blk_cell BK129.out 0).trans rfl; have hcz81_1 : w80.cell? ⟨gb129, 1, none⟩ = some (.int .i32 x130001_4) := (blk_cell BK129.out 1).trans rfl; have hcz81_2 : w80.cell? ⟨gb129, 2, none⟩ = some (.int .i32 x130002_26) := (blk_cell BK129.out 2).trans rfl; have hcz81_3 : w80.cell? ⟨gb129, 3, none⟩ = some (.int .i32 x130003_41) := (blk_cell BK129.out 3).trans rfl; have hfz81_0 := blk_frozen BK129.out 0; have hfz81_1 := blk_frozen BK129.out 1; have hfz81_2 := blk_frozen BK129.out 2; have hfz81_3 := blk_frozen BK129.out 3; have hnb82 := NB120_124.out; have hnc82 := NB124_120.out; have hcz83_0 : w80.cell? ⟨gb120, 0, none⟩ = some (.int .u8 0) := (blk_cell BK120.out 0).trans rfl; have hcz83_1 : w80.cell? ⟨gb120, 1, none⟩ = some (.int .i32 0) := (blk_cell BK120.out 1).trans rfl; have hcz83_2 : w80.cell? ⟨gb120, 2, none⟩ = some (.int .i32 0) := (blk_cell BK120.out 2).trans rfl; have hcz83_3 : w80.cell? ⟨gb120, 3, none⟩ = some (.int .i32 0) := (blk_cell BK120.out 3).trans rfl; have hfz83_0 := blk_frozen BK120.out 0; have hfz83_1 := blk_frozen BK120.out 1; have hfz83_2 := blk_frozen BK120.out 2; have hfz83_3 := blk_frozen BK120.out 3))
                            refine bodyPost_ret (results_ct rfl _ _ gb120 32 #[.int .u8 t125, .int .i32 x130001_4, .int .i32 x130002_26, .int .i32 x130003_41] (0, 0) _ rfl (by (with_reducible repeat (first | refine blk_drewN ?_ _ | refine blk_drew ?_ | refine blk_alloc ?_ _)); refine blk_put (cs := #[.int .u8 t125, .int .i32 x130001_4, .int .i32 x130002_26, .int .i32 0]) ?_ 3 _ rfl; (with_reducible repeat (first | refine blk_drewN ?_ _ | refine blk_drew ?_ | refine blk_alloc ?_ _)); refine blk_put (cs := #[.int .u8 t125, .int .i32 x130001_4, .int .i32 0, .int .i32 0]) ?_ 2 _ rfl; (with_reducible repeat (first | refine blk_drewN ?_ _ | refine blk_drew ?_ | refine blk_alloc ?_ _)); refine blk_put (cs := #[.int .u8 t125, .int .i32 0, .int .i32 0, .int .i32 0]) ?_ 1 _ rfl; (with_reducible repeat (first | refine blk_drewN ?_ _ | refine blk_drew ?_ | refine blk_alloc ?_ _)); refine blk_put (cs := #[.int .u8 0, .int .i32 0, .int .i32 0, .int .i32 0]) ?_ 0 _ rfl; (with_reducible repeat (first | refine blk_drewN ?_ _ | refine blk_drew ?_ | refine blk_alloc ?_ _)); exact BK120.out) Try.underlying32 rfl (by kernel_rfl)) rfl ?_
                            exact ⟨by first | rfl | (simp [errW_none, errW_some] <;> rfl) | (simp [*, errW_none, errW_some] <;> rfl), by repeat (first | (with_reducible first | exact HB.out | apply below_alloc | apply pw_below_drewN | apply below_drew1 | refine below_set ?_ (IsS81.ge HI124.out) | refine below_set ?_ GE120.out | refine below_set ?_ GE129.out) | exact HB.out)⟩
                      · rw [if_neg c50] at H
                        have c50b0 : (t142 == 0) = false := beq_eq_false_iff_ne.mpr c50
                        have c50b1 : (t142 != 0) = true := bne_iff_ne.mpr c50
                        simp only [Option.some.injEq, Prod.mk.injEq] at H
                        obtain ⟨rfl, rfl, rfl, rfl, rfl⟩ := H
                        go_wp2_with (first | ((with_reducible refine gate_callee (f := 25) rfl ?_); refine goesL_ (some 46) rfl rfl Try.func25 (by kernel_rfl) rfl #[.pointer (some ⟨g124, 0, none⟩)] rfl (by (try simp only [List.map_toArray, List.map_cons, List.map_nil]); first | done | rfl | (simp only [List.length_drop, List.length_take]; rfl)) ?_; (with_reducible refine (cursor_Cursor_Err.calls g124 x125000_41 x125001_41 x125002_41 t142 t143 t144 t145 w _ ?side1 ?side2 A49.out).mono ?_); (case side1 => repeat (first | (with_reducible first | exact HI124.out | apply IsS81.alloc | apply IsS81.drewN | apply IsS81.drew | apply IsS81.set_0 | apply IsS81.set_1 | apply IsS81.set_2 | refine IsS81.far ?_ NB124_120.out _ | refine IsS81.far ?_ NB124_129.out _) | exact HI124.out)); (case side2 => repeat (first | (with_reducible first | exact HB.out | apply below_alloc | apply pw_below_drewN | apply below_drew1 | refine below_set ?_ (IsS81.ge HI124.out) | refine below_set ?_ GE120.out | refine below_set ?_ GE129.out) | exact HB.out)); rintro e w84 ⟨rfl, hi, hb, hk⟩; refine ⟨_, rfl, ?_⟩; have n0_ := Aside0.mk (KeepBut.blk hk (g' := gb120) (o := .cells #[.int .u8 0, .int .i32 0, .int .i32 0, .int .i32 0] 32 (0, 0)) (by (with_reducible repeat (first | refine blk_drewN ?_ _ | refine blk_drew ?_ | refine blk_alloc ?_ _)); exact BK120.out) NB120_124.out (by simp)); have n1_ := Aside0.mk (KeepBut.blk hk (g' := gb129) (o := .cells #[.int .u8 t125, .int .i32 x130001_4, .int .i32 x130002_26, .int .i32 x130003_41] 32 (0, 0)) (by (with_reducible repeat (first | refine blk_drewN ?_ _ | refine blk_drew ?_ | refine blk_alloc ?_ _)); exact BK129.out) NB129_124.out (by simp)); have n2_ := Aside0.mk (hb); have n3_ := Aside0.mk (hi); clear BK120; clear BK129; clear HB; clear HI124; have BK120 := n0_; have BK129 := n1_; have HB := n2_; have HI124 := n3_; clear n0_ n1_ n2_ n3_; (try clear hb); (try clear hb2); (try clear hk); (try clear hi); have hnb85 := NB120_129.out; have hnc85 := NB129_120.out; have hnb86 := NB120_124.out; have hnc86 := NB124_120.out; have hcz87_0 : w84.cell? ⟨gb120, 0, none⟩ = some (.int .u8 0) := (blk_cell BK120.out 0).trans rfl; have hcz87_1 : w84.cell? ⟨gb120, 1, none⟩ = some (.int .i32 0) := (blk_cell BK120.out 1).trans rfl; have hcz87_2 : w84.cell? ⟨gb120, 2, none⟩ = some (.int .i32 0) := (blk_cell BK120.out 2).trans rfl; have hcz87_3 : w84.cell? ⟨gb120, 3, none⟩ = some (.int .i32 0) := (blk_cell BK120.out 3).trans rfl; have hfz87_0 := blk_frozen BK120.out 0; have hfz87_1 := blk_frozen BK120.out 1; have hfz87_2 := blk_frozen BK120.out 2; have hfz87_3 := blk_frozen BK120.out 3))
                        refine bodyPost_ret (results_ct rfl _ _ gb120 32 #[.int .u8 0, .int .i32 0, .int .i32 0, .int .i32 0] (0, 0) _ rfl (by (with_reducible repeat (first | refine blk_drewN ?_ _ | refine blk_drew ?_ | refine blk_alloc ?_ _)); refine blk_put (cs := #[.int .u8 0, .int .i32 0, .int .i32 0, .int .i32 0]) ?_ 3 _ rfl; (with_reducible repeat (first | refine blk_drewN ?_ _ | refine blk_drew ?_ | refine blk_alloc ?_ _)); refine blk_put (cs := #[.int .u8 0, .int .i32 0, .int .i32 0, .int .i32 0]) ?_ 2 _ rfl; (with_reducible repeat (first | refine blk_drewN ?_ _ | refine blk_drew ?_ | refine blk_alloc ?_ _)); refine blk_put (cs := #[.int .u8 0, .int .i32 0, .int .i32 0, .int .i32 0]) ?_ 1 _ rfl; (with_reducible repeat (first | refine blk_drewN ?_ _ | refine blk_drew ?_ | refine blk_alloc ?_ _)); refine blk_put (cs := #[.int .u8 0, .int .i32 0, .int .i32 0, .int .i32 0]) ?_ 0 _ rfl; (with_reducible repeat (first | refine blk_drewN ?_ _ | refine blk_drew ?_ | refine blk_alloc ?_ _)); exact BK120.out) Try.underlying32 rfl (by kernel_rfl)) rfl ?_
                        exact ⟨by first | rfl | (simp [errW_none, errW_some] <;> rfl) | (simp [*, errW_none, errW_some] <;> rfl), by repeat (first | (with_reducible first | exact HB.out | apply below_alloc | apply pw_below_drewN | apply below_drew1 | refine below_set ?_ (IsS81.ge HI124.out) | refine below_set ?_ GE120.out | refine below_set ?_ GE129.out) | exact HB.out)⟩

end Go.Proofs.Ytloojhhjljneeaa.P
