/- Written by a program of this session (wip/print2: a patched copy of a printer), not by print.sh: Lean functions with the answers of the Go functions, and the proofs of that; no condition beside those that stand in each theorem. -/
import Derived.Test.YtloojhhjljneeaaPx0
import Derived.Test.YtloojhhjljneeaaPx3
import Derived.Test.YtloojhhjljneeaaPx4
import Derived.Test.YtloojhhjljneeaaPx5
import Derived.Test.YtloojhhjljneeaaPx6
namespace Go.Proofs.Ytloojhhjljneeaa.P
open Go.RowKit Go.Proofs.YtloojhhjljneeaaW.PrintWords Go.Proofs.YtloojhhjljneeaaW.PrintLast Go.Proofs.YtloojhhjljneeaaW.PrintMore
attribute [local go_sem] max2_int min2_int max_two min_two max_three min_three max_four min_four   -- for this text's walks alone
attribute [local go_sem] Go.Proofs.Ytloojhhjljneeaa.Mx.max_five Go.Proofs.Ytloojhhjljneeaa.Mx.max_six Go.Proofs.Ytloojhhjljneeaa.Mx.max_seven
set_option linter.unusedVariables false
set_option linter.unusedSimpArgs false

/-! ### field_ParseOwner: function 7 -/
def field_ParseOwner.j0 : Nat → Int → Int → Bool → Option (Int × Int × Int)
  | 0, _, _, _ => none
  | k + 1, x7, x9, x33 => if x33 = true then (some (0, 0, 24)) else (if x7 > 4294967295 then (some (0, 0, 8)) else (if x9 > 4294967295 then (some (0, 0, 8)) else (some ((x7) % 4294967296, (x9) % 4294967296, 0))))
def field_ParseOwner.f (k : Nat) (a0 : ByteArray) : Option (Int × Int × Int) := (cursor_Over.f a0).bind fun bt116 => ((cursor_Cursor_One.f k bt116.1 bt116.2.1 bt116.2.2).bind fun bt120 => ((cursor_Cursor_One.f k bt120.2.1 bt120.2.2.1 bt120.2.2.2).bind fun bt124 => ((cursor_Cursor_Take.f bt124.2.1 bt124.2.2.1 bt124.2.2.2 (wrap64 (bt124.1))).bind fun bt128 => ((cursor_Number.f k bt128.1).bind fun bt132 => ((cursor_Cursor_One.f k bt128.2.1 bt128.2.2.1 bt128.2.2.2).bind fun bt134 => ((cursor_Cursor_Take.f bt134.2.1 bt134.2.2.1 bt134.2.2.2 (wrap64 (bt134.1))).bind fun bt138 => ((cursor_Number.f k bt138.1).bind fun bt142 => ((cursor_Cursor_Err.f bt138.2.1 bt138.2.2.1 bt138.2.2.2).bind fun bt144 => (if bt144.1 = 0 then ((cursor_Cursor_Left.f bt144.2.1 bt144.2.2.1 bt144.2.2.2).bind fun bt148 => (if bt148.1 > 0 then (field_ParseOwner.j0 k bt132.1 bt142.1 true) else (if bt120.1 = 1 then (if bt132.2 = 0 then (field_ParseOwner.j0 k bt132.1 bt142.1 (bt142.2 != 0)) else (field_ParseOwner.j0 k bt132.1 bt142.1 true)) else (field_ParseOwner.j0 k bt132.1 bt142.1 true)))) else (field_ParseOwner.j0 k bt132.1 bt142.1 true))))))))))
theorem field_ParseOwner.mono_l : ∀ k, (∀ y0 y1 y2, LeO (field_ParseOwner.j0 k y0 y1 y2) (field_ParseOwner.j0 (k + 1) y0 y1 y2))
  | 0 => fun _ _ _ r h => by simp [field_ParseOwner.j0] at h
  | k + 1 => by
    have ih0 := field_ParseOwner.mono_l k
    · intro y0 y1 y2
      unfold field_ParseOwner.j0
      repeat' first
      | (with_reducible exact ih0 _ _ _)
      | (with_reducible exact cursor_Cursor_One.mono _ _ _ _)
      | (with_reducible exact cursor_Number.mono _ _)
      | (with_reducible exact LeO.refl _)
      | (with_reducible exact LeO.none _)
      | (with_reducible refine LeO.ite ?_ ?_)
      | (with_reducible refine LeO.bind ?_ (fun _ => ?_))
      | exact ih0 _ _ _
      | exact cursor_Cursor_One.mono _ _ _ _
      | exact cursor_Number.mono _ _
      | exact LeO.none _
      | refine LeO.ite ?_ ?_
      | refine LeO.bind ?_ (fun _ => ?_)
theorem field_ParseOwner.mono : ∀ a0 k, LeO (field_ParseOwner.f k a0) (field_ParseOwner.f (k + 1) a0) := by
  intro a0 k
  have ih0 := field_ParseOwner.mono_l k
  unfold field_ParseOwner.f
  repeat' first
      | (with_reducible exact ih0 _ _ _)
      | (with_reducible exact cursor_Cursor_One.mono _ _ _ _)
      | (with_reducible exact cursor_Number.mono _ _)
      | (with_reducible exact LeO.refl _)
      | (with_reducible exact LeO.none _)
      | (with_reducible refine LeO.ite ?_ ?_)
      | (with_reducible refine LeO.bind ?_ (fun _ => ?_))
      | exact ih0 _ _ _
      | exact cursor_Cursor_One.mono _ _ _ _
      | exact cursor_Number.mono _ _
      | exact LeO.none _
      | refine LeO.ite ?_ ?_
      | refine LeO.bind ?_ (fun _ => ?_)
set_option maxHeartbeats 8000000 in
set_option maxRecDepth 100000 in
theorem field_ParseOwner.calls (k : Nat) (a0 : ByteArray) (r1 : Int) (r2 : Int) (r3 : Int) (w : World) (h : field_ParseOwner.f k a0 = some (r1, r2, r3)) :
    Calls Try.prog 7 #[.string a0] w fun e w' => e = .returned (.tuple #[.int .u32 r1, .int .u32 r2, .int .i64 r3]) ∧ Below w.heap.size w w' := by
  have HB := Aside0.mk (Below.refl w.heap.size w)
  have H : ((cursor_Over.f a0).bind fun bt116 => ((cursor_Cursor_One.f k bt116.1 bt116.2.1 bt116.2.2).bind fun bt120 => ((cursor_Cursor_One.f k bt120.2.1 bt120.2.2.1 bt120.2.2.2).bind fun bt124 => ((cursor_Cursor_Take.f bt124.2.1 bt124.2.2.1 bt124.2.2.2 (wrap64 (bt124.1))).bind fun bt128 => ((cursor_Number.f k bt128.1).bind fun bt132 => ((cursor_Cursor_One.f k bt128.2.1 bt128.2.2.1 bt128.2.2.2).bind fun bt134 => ((cursor_Cursor_Take.f bt134.2.1 bt134.2.2.1 bt134.2.2.2 (wrap64 (bt134.1))).bind fun bt138 => ((cursor_Number.f k bt138.1).bind fun bt142 => ((cursor_Cursor_Err.f bt138.2.1 bt138.2.2.1 bt138.2.2.2).bind fun bt144 => (if bt144.1 = 0 then ((cursor_Cursor_Left.f bt144.2.1 bt144.2.2.1 bt144.2.2.2).bind fun bt148 => (if bt148.1 > 0 then (field_ParseOwner.j0 k bt132.1 bt142.1 true) else (if bt120.1 = 1 then (if bt132.2 = 0 then (field_ParseOwner.j0 k bt132.1 bt142.1 (bt142.2 != 0)) else (field_ParseOwner.j0 k bt132.1 bt142.1 true)) else (field_ParseOwner.j0 k bt132.1 bt142.1 true)))) else (field_ParseOwner.j0 k bt132.1 bt142.1 true))))))))))) = some (r1, r2, r3) := h
  clear h
  replace H := Option.bind_eq_some_iff.mp H
  obtain ⟨⟨t116, t117, t118⟩, A20, H⟩ := H
  replace H : ((cursor_Cursor_One.f k t116 t117 t118).bind fun bt120 => ((cursor_Cursor_One.f k bt120.2.1 bt120.2.2.1 bt120.2.2.2).bind fun bt124 => ((cursor_Cursor_Take.f bt124.2.1 bt124.2.2.1 bt124.2.2.2 (wrap64 (bt124.1))).bind fun bt128 => ((cursor_Number.f k bt128.1).bind fun bt132 => ((cursor_Cursor_One.f k bt128.2.1 bt128.2.2.1 bt128.2.2.2).bind fun bt134 => ((cursor_Cursor_Take.f bt134.2.1 bt134.2.2.1 bt134.2.2.2 (wrap64 (bt134.1))).bind fun bt138 => ((cursor_Number.f k bt138.1).bind fun bt142 => ((cursor_Cursor_Err.f bt138.2.1 bt138.2.2.1 bt138.2.2.2).bind fun bt144 => (if bt144.1 = 0 then ((cursor_Cursor_Left.f bt144.2.1 bt144.2.2.1 bt144.2.2.2).bind fun bt148 => (if bt148.1 > 0 then (field_ParseOwner.j0 k bt132.1 bt142.1 true) else (if bt120.1 = 1 then (if bt132.2 = 0 then (field_ParseOwner.j0 k bt132.1 bt142.1 (bt142.2 != 0)) else (field_ParseOwner.j0 k bt132.1 bt142.1 true)) else (field_ParseOwner.j0 k bt132.1 bt142.1 true)))) else (field_ParseOwner.j0 k bt132.1 bt142.1 true)))))))))) = some (r1, r2, r3) := H
  have A2 := Aside0.mk A20
  clear A20
  replace H := Option.bind_eq_some_iff.mp H
  obtain ⟨⟨t120, t121, t122, t123⟩, A30, H⟩ := H
  replace H : ((cursor_Cursor_One.f k t121 t122 t123).bind fun bt124 => ((cursor_Cursor_Take.f bt124.2.1 bt124.2.2.1 bt124.2.2.2 (wrap64 (bt124.1))).bind fun bt128 => ((cursor_Number.f k bt128.1).bind fun bt132 => ((cursor_Cursor_One.f k bt128.2.1 bt128.2.2.1 bt128.2.2.2).bind fun bt134 => ((cursor_Cursor_Take.f bt134.2.1 bt134.2.2.1 bt134.2.2.2 (wrap64 (bt134.1))).bind fun bt138 => ((cursor_Number.f k bt138.1).bind fun bt142 => ((cursor_Cursor_Err.f bt138.2.1 bt138.2.2.1 bt138.2.2.2).bind fun bt144 => (if bt144.1 = 0 then ((cursor_Cursor_Left.f bt144.2.1 bt144.2.2.1 bt144.2.2.2).bind fun bt148 => (if bt148.1 > 0 then (field_ParseOwner.j0 k bt132.1 bt142.1 true) else (if t120 = 1 then (if bt132.2 = 0 then (field_ParseOwner.j0 k bt132.1 bt142.1 (bt142.2 != 0)) else (field_ParseOwner.j0 k bt132.1 bt142.1 true)) else (field_ParseOwner.j0 k bt132.1 bt142.1 true)))) else (field_ParseOwner.j0 k bt132.1 bt142.1 true))))))))) = some (r1, r2, r3) := H
  have A3 := Aside0.mk A30
  clear A30
  replace H := Option.bind_eq_some_iff.mp H
  obtain ⟨⟨t124, t125, t126, t127⟩, A40, H⟩ := H
  replace H : ((cursor_Cursor_Take.f t125 t126 t127 (wrap64 (t124))).bind fun bt128 => ((cursor_Number.f k bt128.1).bind fun bt132 => ((cursor_Cursor_One.f k bt128.2.1 bt128.2.2.1 bt128.2.2.2).bind fun bt134 => ((cursor_Cursor_Take.f bt134.2.1 bt134.2.2.1 bt134.2.2.2 (wrap64 (bt134.1))).bind fun bt138 => ((cursor_Number.f k bt138.1).bind fun bt142 => ((cursor_Cursor_Err.f bt138.2.1 bt138.2.2.1 bt138.2.2.2).bind fun bt144 => (if bt144.1 = 0 then ((cursor_Cursor_Left.f bt144.2.1 bt144.2.2.1 bt144.2.2.2).bind fun bt148 => (if bt148.1 > 0 then (field_ParseOwner.j0 k bt132.1 bt142.1 true) else (if t120 = 1 then (if bt132.2 = 0 then (field_ParseOwner.j0 k bt132.1 bt142.1 (bt142.2 != 0)) else (field_ParseOwner.j0 k bt132.1 bt142.1 true)) else (field_ParseOwner.j0 k bt132.1 bt142.1 true)))) else (field_ParseOwner.j0 k bt132.1 bt142.1 true)))))))) = some (r1, r2, r3) := H
  have A4 := Aside0.mk A40
  clear A40
  replace H := Option.bind_eq_some_iff.mp H
  obtain ⟨⟨t128, t129, t130, t131⟩, A50, H⟩ := H
  replace H : ((cursor_Number.f k t128).bind fun bt132 => ((cursor_Cursor_One.f k t129 t130 t131).bind fun bt134 => ((cursor_Cursor_Take.f bt134.2.1 bt134.2.2.1 bt134.2.2.2 (wrap64 (bt134.1))).bind fun bt138 => ((cursor_Number.f k bt138.1).bind fun bt142 => ((cursor_Cursor_Err.f bt138.2.1 bt138.2.2.1 bt138.2.2.2).bind fun bt144 => (if bt144.1 = 0 then ((cursor_Cursor_Left.f bt144.2.1 bt144.2.2.1 bt144.2.2.2).bind fun bt148 => (if bt148.1 > 0 then (field_ParseOwner.j0 k bt132.1 bt142.1 true) else (if t120 = 1 then (if bt132.2 = 0 then (field_ParseOwner.j0 k bt132.1 bt142.1 (bt142.2 != 0)) else (field_ParseOwner.j0 k bt132.1 bt142.1 true)) else (field_ParseOwner.j0 k bt132.1 bt142.1 true)))) else (field_ParseOwner.j0 k bt132.1 bt142.1 true))))))) = some (r1, r2, r3) := H
  have A5 := Aside0.mk A50
  clear A50
  replace H := Option.bind_eq_some_iff.mp H
  obtain ⟨⟨t132, t133⟩, A60, H⟩ := H
  replace H : ((cursor_Cursor_One.f k t129 t130 t131).bind fun bt134 => ((cursor_Cursor_Take.f bt134.2.1 bt134.2.2.1 bt134.2.2.2 (wrap64 (bt134.1))).bind fun bt138 => ((cursor_Number.f k bt138.1).bind fun bt142 => ((cursor_Cursor_Err.f bt138.2.1 bt138.2.2.1 bt138.2.2.2).bind fun bt144 => (if bt144.1 = 0 then ((cursor_Cursor_Left.f bt144.2.1 bt144.2.2.1 bt144.2.2.2).bind fun bt148 => (if bt148.1 > 0 then (field_ParseOwner.j0 k t132 bt142.1 true) else (if t120 = 1 then (if t133 = 0 then (field_ParseOwner.j0 k t132 bt142.1 (bt142.2 != 0)) else (field_ParseOwner.j0 k t132 bt142.1 true)) else (field_ParseOwner.j0 k t132 bt142.1 true)))) else (field_ParseOwner.j0 k t132 bt142.1 true)))))) = some (r1, r2, r3) := H
  have A6 := Aside0.mk A60
  clear A60
  replace H := Option.bind_eq_some_iff.mp H
  obtain ⟨⟨t134, t135, t136, t137⟩, A70, H⟩ := H
  replace H : ((cursor_Cursor_Take.f t135 t136 t137 (wrap64 (t134))).bind fun bt138 => ((cursor_Number.f k bt138.1).bind fun bt142 => ((cursor_Cursor_Err.f bt138.2.1 bt138.2.2.1 bt138.2.2.2).bind fun bt144 => (if bt144.1 = 0 then ((cursor_Cursor_Left.f bt144.2.1 bt144.2.2.1 bt144.2.2.2).bind fun bt148 => (if bt148.1 > 0 then (field_ParseOwner.j0 k t132 bt142.1 true) else (if t120 = 1 then (if t133 = 0 then (field_ParseOwner.j0 k t132 bt142.1 (bt142.2 != 0)) else (field_ParseOwner.j0 k t132 bt142.1 true)) else (field_ParseOwner.j0 k t132 bt142.1 true)))) else (field_ParseOwner.j0 k t132 bt142.1 true))))) = some (r1, r2, r3) := H
  have A7 := Aside0.mk A70
  clear A70
  replace H := Option.bind_eq_some_iff.mp H
  obtain ⟨⟨t138, t139, t140, t141⟩, A80, H⟩ := H
  replace H : ((cursor_Number.f k t138).bind fun bt142 => ((cursor_Cursor_Err.f t139 t140 t141).bind fun bt144 => (if bt144.1 = 0 then ((cursor_Cursor_Left.f bt144.2.1 bt144.2.2.1 bt144.2.2.2).bind fun bt148 => (if bt148.1 > 0 then (field_ParseOwner.j0 k t132 bt142.1 true) else (if t120 = 1 then (if t133 = 0 then (field_ParseOwner.j0 k t132 bt142.1 (bt142.2 != 0)) else (field_ParseOwner.j0 k t132 bt142.1 true)) else (field_ParseOwner.j0 k t132 bt142.1 true)))) else (field_ParseOwner.j0 k t132 bt142.1 true)))) = some (r1, r2, r3) := H
  have A8 := Aside0.mk A80
  clear A80
  replace H := Option.bind_eq_some_iff.mp H
  obtain ⟨⟨t142, t143⟩, A90, H⟩ := H
  replace H : ((cursor_Cursor_Err.f t139 t140 t141).bind fun bt144 => (if bt144.1 = 0 then ((cursor_Cursor_Left.f bt144.2.1 bt144.2.2.1 bt144.2.2.2).bind fun bt148 => (if bt148.1 > 0 then (field_ParseOwner.j0 k t132 t142 true) else (if t120 = 1 then (if t133 = 0 then (field_ParseOwner.j0 k t132 t142 (t143 != 0)) else (field_ParseOwner.j0 k t132 t142 true)) else (field_ParseOwner.j0 k t132 t142 true)))) else (field_ParseOwner.j0 k t132 t142 true))) = some (r1, r2, r3) := H
  have A9 := Aside0.mk A90
  clear A90
  have HC10 := Aside0.mk H
  clear H
  go_enter Try.func7, Try.ntmps7
  go_upto_region 5 with (first | ((with_reducible refine gate_callee (f := 21) rfl ?_); refine goesL_ (some 12) rfl rfl Try.func21 (by kernel_rfl) rfl #[.string a0] rfl (by (try simp only [List.map_toArray, List.map_cons, List.map_nil]); first | done | rfl | (simp only [List.length_drop, List.length_take]; rfl)) ?_; (with_reducible refine (cursor_Over.calls a0 t116 t117 t118 w _ ?side1 A2.out).mono ?_); (case side1 => repeat (first | (with_reducible first | exact HB.out | apply below_alloc | apply pw_below_drewN | apply below_drew1) | exact HB.out)); rintro e w11 ⟨g119, rfl, hi, hb, hb2⟩; refine ⟨_, rfl, ?_⟩; have n0_ := Aside0.mk (hb); have n1_ := Aside0.mk (hi); clear HB; have HB := n0_; have HI119 := n1_; clear n0_ n1_; (try clear hb); (try clear hb2); (try clear hk); (try clear hi)) | ((with_reducible refine gate_callee (f := 22) rfl ?_); refine goesL_ (some 14) rfl rfl Try.func22 (by kernel_rfl) rfl #[.pointer (some ⟨g119, 0, none⟩)] rfl (by (try simp only [List.map_toArray, List.map_cons, List.map_nil]); first | done | rfl | (simp only [List.length_drop, List.length_take]; rfl)) ?_; (with_reducible refine (cursor_Cursor_One.calls k g119 t116 t117 t118 t120 t121 t122 t123 w _ ?side1 ?side2 A3.out).mono ?_); (case side1 => repeat (first | (with_reducible first | exact HI119.out | apply IsS81.alloc | apply IsS81.drewN | apply IsS81.drew | apply IsS81.set_0 | apply IsS81.set_1 | apply IsS81.set_2) | exact HI119.out)); (case side2 => repeat (first | (with_reducible first | exact HB.out | apply below_alloc | apply pw_below_drewN | apply below_drew1 | refine below_set ?_ (IsS81.ge HI119.out)) | exact HB.out)); rintro e w12 ⟨rfl, hi, hb, hk⟩; refine ⟨_, rfl, ?_⟩; have n0_ := Aside0.mk (hb); have n1_ := Aside0.mk (hi); clear HB; clear HI119; have HB := n0_; have HI119 := n1_; clear n0_ n1_; (try clear hb); (try clear hb2); (try clear hk); (try clear hi)) | ((with_reducible refine gate_callee (f := 22) rfl ?_); refine goesL_ (some 18) rfl rfl Try.func22 (by kernel_rfl) rfl #[.pointer (some ⟨g119, 0, none⟩)] rfl (by (try simp only [List.map_toArray, List.map_cons, List.map_nil]); first | done | rfl | (simp only [List.length_drop, List.length_take]; rfl)) ?_; (with_reducible refine (cursor_Cursor_One.calls k g119 t121 t122 t123 t124 t125 t126 t127 w _ ?side1 ?side2 A4.out).mono ?_); (case side1 => repeat (first | (with_reducible first | exact HI119.out | apply IsS81.alloc | apply IsS81.drewN | apply IsS81.drew | apply IsS81.set_0 | apply IsS81.set_1 | apply IsS81.set_2) | exact HI119.out)); (case side2 => repeat (first | (with_reducible first | exact HB.out | apply below_alloc | apply pw_below_drewN | apply below_drew1 | refine below_set ?_ (IsS81.ge HI119.out)) | exact HB.out)); rintro e w13 ⟨rfl, hi, hb, hk⟩; refine ⟨_, rfl, ?_⟩; have n0_ := Aside0.mk (hb); have n1_ := Aside0.mk (hi); clear HB; clear HI119; have HB := n0_; have HI119 := n1_; clear n0_ n1_; (try clear hb); (try clear hb2); (try clear hk); (try clear hi)) | ((with_reducible refine gate_callee (f := 24) rfl ?_); refine goesL_ (some 20) rfl rfl Try.func24 (by kernel_rfl) rfl #[.pointer (some ⟨g119, 0, none⟩), .int .i64 (wrap64 (t124))] rfl (by (try simp only [List.map_toArray, List.map_cons, List.map_nil]); first | done | rfl | (simp only [List.length_drop, List.length_take]; rfl)) ?_; (with_reducible refine (cursor_Cursor_Take.calls g119 t125 t126 t127 (wrap64 (t124)) t128 t129 t130 t131 w _ ?side1 ?side2 A5.out).mono ?_); (case side1 => repeat (first | (with_reducible first | exact HI119.out | apply IsS81.alloc | apply IsS81.drewN | apply IsS81.drew | apply IsS81.set_0 | apply IsS81.set_1 | apply IsS81.set_2) | exact HI119.out)); (case side2 => repeat (first | (with_reducible first | exact HB.out | apply below_alloc | apply pw_below_drewN | apply below_drew1 | refine below_set ?_ (IsS81.ge HI119.out)) | exact HB.out)); rintro e w14 ⟨rfl, hi, hb, hk⟩; refine ⟨_, rfl, ?_⟩; have n0_ := Aside0.mk (hb); have n1_ := Aside0.mk (hi); clear HB; clear HI119; have HB := n0_; have HI119 := n1_; clear n0_ n1_; (try clear hb); (try clear hb2); (try clear hk); (try clear hi)) | ((with_reducible refine gate_callee (f := 23) rfl ?_); refine goesL_ (some 21) rfl rfl Try.func23 (by kernel_rfl) rfl #[.string t128] rfl (by (try simp only [List.map_toArray, List.map_cons, List.map_nil]); first | done | rfl | (simp only [List.length_drop, List.length_take]; rfl)) ?_; (with_reducible refine (cursor_Number.calls k t128 t132 t133 _ A6.out).mono ?_); rintro e w' ⟨rfl, ⟨nd, rfl⟩⟩; refine ⟨_, rfl, ?_⟩) | ((with_reducible refine gate_callee (f := 22) rfl ?_); refine goesL_ (some 27) rfl rfl Try.func22 (by kernel_rfl) rfl #[.pointer (some ⟨g119, 0, none⟩)] rfl (by (try simp only [List.map_toArray, List.map_cons, List.map_nil]); first | done | rfl | (simp only [List.length_drop, List.length_take]; rfl)) ?_; (with_reducible refine (cursor_Cursor_One.calls k g119 t129 t130 t131 t134 t135 t136 t137 w _ ?side1 ?side2 A7.out).mono ?_); (case side1 => repeat (first | (with_reducible first | exact HI119.out | apply IsS81.alloc | apply IsS81.drewN | apply IsS81.drew | apply IsS81.set_0 | apply IsS81.set_1 | apply IsS81.set_2) | exact HI119.out)); (case side2 => repeat (first | (with_reducible first | exact HB.out | apply below_alloc | apply pw_below_drewN | apply below_drew1 | refine below_set ?_ (IsS81.ge HI119.out)) | exact HB.out)); rintro e w15 ⟨rfl, hi, hb, hk⟩; refine ⟨_, rfl, ?_⟩; have n0_ := Aside0.mk (hb); have n1_ := Aside0.mk (hi); clear HB; clear HI119; have HB := n0_; have HI119 := n1_; clear n0_ n1_; (try clear hb); (try clear hb2); (try clear hk); (try clear hi)) | ((with_reducible refine gate_callee (f := 24) rfl ?_); refine goesL_ (some 29) rfl rfl Try.func24 (by kernel_rfl) rfl #[.pointer (some ⟨g119, 0, none⟩), .int .i64 (wrap64 (t134))] rfl (by (try simp only [List.map_toArray, List.map_cons, List.map_nil]); first | done | rfl | (simp only [List.length_drop, List.length_take]; rfl)) ?_; (with_reducible refine (cursor_Cursor_Take.calls g119 t135 t136 t137 (wrap64 (t134)) t138 t139 t140 t141 w _ ?side1 ?side2 A8.out).mono ?_); (case side1 => repeat (first | (with_reducible first | exact HI119.out | apply IsS81.alloc | apply IsS81.drewN | apply IsS81.drew | apply IsS81.set_0 | apply IsS81.set_1 | apply IsS81.set_2) | exact HI119.out)); (case side2 => repeat (first | (with_reducible first | exact HB.out | apply below_alloc | apply pw_below_drewN | apply below_drew1 | refine below_set ?_ (IsS81.ge HI119.out)) | exact HB.out)); rintro e w16 ⟨rfl, hi, hb, hk⟩; refine ⟨_, rfl, ?_⟩; have n0_ := Aside0.mk (hb); have n1_ := Aside0.mk (hi); clear HB; clear HI119; have HB := n0_; have HI119 := n1_; clear n0_ n1_; (try clear hb); (try clear hb2); (try clear hk); (try clear hi)) | ((with_reducible refine gate_callee (f := 23) rfl ?_); refine goesL_ (some 30) rfl rfl Try.func23 (by kernel_rfl) rfl #[.string t138] rfl (by (try simp only [List.map_toArray, List.map_cons, List.map_nil]); first | done | rfl | (simp only [List.length_drop, List.length_take]; rfl)) ?_; (with_reducible refine (cursor_Number.calls k t138 t142 t143 _ A9.out).mono ?_); rintro e w' ⟨rfl, ⟨nd, rfl⟩⟩; refine ⟨_, rfl, ?_⟩))
  (try simp only [Act.put, List.setIfInBounds_toArray, List.set_cons_zero, List.set_cons_succ])
  go_cut [33] (fun v33 wc => ∃ (kq : Nat) (x33_9 : Bool), v33 = .bool x33_9 ∧ Aside0 (field_ParseOwner.j0 kq t132 t142 x33_9 = some (r1, r2, r3)) ∧ Aside0 (kq ≤ k) ∧ Aside0 (Below w.heap.size w wc))
  case first =>
    have H := HC10.out
    clear HC10
    replace H := Option.bind_eq_some_iff.mp H
    obtain ⟨⟨t144, t145, t146, t147⟩, A170, H⟩ := H
    replace H : (if t144 = 0 then ((cursor_Cursor_Left.f t145 t146 t147).bind fun bt148 => (if bt148.1 > 0 then (field_ParseOwner.j0 k t132 t142 true) else (if t120 = 1 then (if t133 = 0 then (field_ParseOwner.j0 k t132 t142 (t143 != 0)) else (field_ParseOwner.j0 k t132 t142 true)) else (field_ParseOwner.j0 k t132 t142 true)))) else (field_ParseOwner.j0 k t132 t142 true)) = some (r1, r2, r3) := H
    have A17 := Aside0.mk A170
    clear A170
    by_cases c18 : t144 = 0
    · rw [if_pos c18] at H
      have c18b0 : (t144 == 0) = true := beq_iff_eq.mpr c18
      have c18b1 : (t144 != 0) = false := bne_eq_false_iff_eq.mpr c18
      clear c18
      (first | rw [c18b0] | (simp only [i64_w, i32_w]; rw [c18b0]) | skip)
      replace H := Option.bind_eq_some_iff.mp H
      obtain ⟨⟨t148, t149, t150, t151⟩, A190, H⟩ := H
      replace H : (if t148 > 0 then (field_ParseOwner.j0 k t132 t142 true) else (if t120 = 1 then (if t133 = 0 then (field_ParseOwner.j0 k t132 t142 (t143 != 0)) else (field_ParseOwner.j0 k t132 t142 true)) else (field_ParseOwner.j0 k t132 t142 true))) = some (r1, r2, r3) := H
      have A19 := Aside0.mk A190
      clear A190
      by_cases c20 : t148 > 0
      · rw [if_pos c20] at H
        have c20b0 : decide (0 < t148) = true := decide_eq_true c20
        clear c20
        have H' := Aside0.mk H
        clear H
        go_wp2_with (first | ((with_reducible refine gate_callee (f := 25) rfl ?_); refine goesL_ (some 35) rfl rfl Try.func25 (by kernel_rfl) rfl #[.pointer (some ⟨g119, 0, none⟩)] rfl (by (try simp only [List.map_toArray, List.map_cons, List.map_nil]); first | done | rfl | (simp only [List.length_drop, List.length_take]; rfl)) ?_; (with_reducible refine (cursor_Cursor_Err.calls g119 t139 t140 t141 t144 t145 t146 t147 w _ ?side1 ?side2 A17.out).mono ?_); (case side1 => repeat (first | (with_reducible first | exact HI119.out | apply IsS81.alloc | apply IsS81.drewN | apply IsS81.drew | apply IsS81.set_0 | apply IsS81.set_1 | apply IsS81.set_2) | exact HI119.out)); (case side2 => repeat (first | (with_reducible first | exact HB.out | apply below_alloc | apply pw_below_drewN | apply below_drew1 | refine below_set ?_ (IsS81.ge HI119.out)) | exact HB.out)); rintro e w21 ⟨rfl, hi, hb, hk⟩; refine ⟨_, rfl, ?_⟩; have n0_ := Aside0.mk (hb); have n1_ := Aside0.mk (hi); clear HB; clear HI119; have HB := n0_; have HI119 := n1_; clear n0_ n1_; (try clear hb); (try clear hb2); (try clear hk); (try clear hi)) | (go_at_call 26; (with_reducible refine (cursor_Cursor_Left.calls g119 t145 t146 t147 t148 t149 t150 t151 w _ ?side1 ?side2 A19.out).mono ?_); (case side1 => repeat (first | (with_reducible first | exact HI119.out | apply IsS81.alloc | apply IsS81.drewN | apply IsS81.drew | apply IsS81.set_0 | apply IsS81.set_1 | apply IsS81.set_2) | exact HI119.out)); (case side2 => repeat (first | (with_reducible first | exact HB.out | apply below_alloc | apply pw_below_drewN | apply below_drew1 | refine below_set ?_ (IsS81.ge HI119.out)) | exact HB.out)); rintro e w22 ⟨rfl, hi, hb, hk⟩; have n0_ := Aside0.mk (hb); have n1_ := Aside0.mk (hi); clear HB; clear HI119; have HB := n0_; have HI119 := n1_; clear n0_ n1_; (try clear hb); (try clear hb2); (try clear hk); (try clear hi)))
        go_meet
        case rel => exact ⟨_, (true), (by first | rfl | (simp; done) | (simp [*]; done)), H', ⟨by first | omega | exact Nat.le_refl _⟩, ⟨by repeat (first | (with_reducible first | exact HB.out | apply below_alloc | apply pw_below_drewN | apply below_drew1 | refine below_set ?_ (IsS81.ge HI119.out)) | exact HB.out)⟩⟩
      · rw [if_neg c20] at H
        have c20b0 : decide (0 < t148) = false := decide_eq_false c20
        clear c20
        by_cases c23 : t120 = 1
        · rw [if_pos c23] at H
          have c23b0 : (t120 == 1) = true := beq_iff_eq.mpr c23
          have c23b1 : (t120 != 1) = false := bne_eq_false_iff_eq.mpr c23
          clear c23
          by_cases c24 : t133 = 0
          · rw [if_pos c24] at H
            have c24b0 : (t133 == 0) = true := beq_iff_eq.mpr c24
            have c24b1 : (t133 != 0) = false := bne_eq_false_iff_eq.mpr c24
            clear c24
            have H' := Aside0.mk H
            clear H
            go_wp2_with (first | ((with_reducible refine gate_callee (f := 25) rfl ?_); refine goesL_ (some 35) rfl rfl Try.func25 (by kernel_rfl) rfl #[.pointer (some ⟨g119, 0, none⟩)] rfl (by (try simp only [List.map_toArray, List.map_cons, List.map_nil]); first | done | rfl | (simp only [List.length_drop, List.length_take]; rfl)) ?_; (with_reducible refine (cursor_Cursor_Err.calls g119 t139 t140 t141 t144 t145 t146 t147 w _ ?side1 ?side2 A17.out).mono ?_); (case side1 => repeat (first | (with_reducible first | exact HI119.out | apply IsS81.alloc | apply IsS81.drewN | apply IsS81.drew | apply IsS81.set_0 | apply IsS81.set_1 | apply IsS81.set_2) | exact HI119.out)); (case side2 => repeat (first | (with_reducible first | exact HB.out | apply below_alloc | apply pw_below_drewN | apply below_drew1 | refine below_set ?_ (IsS81.ge HI119.out)) | exact HB.out)); rintro e w25 ⟨rfl, hi, hb, hk⟩; refine ⟨_, rfl, ?_⟩; have n0_ := Aside0.mk (hb); have n1_ := Aside0.mk (hi); clear HB; clear HI119; have HB := n0_; have HI119 := n1_; clear n0_ n1_; (try clear hb); (try clear hb2); (try clear hk); (try clear hi)) | (go_at_call 26; (with_reducible refine (cursor_Cursor_Left.calls g119 t145 t146 t147 t148 t149 t150 t151 w _ ?side1 ?side2 A19.out).mono ?_); (case side1 => repeat (first | (with_reducible first | exact HI119.out | apply IsS81.alloc | apply IsS81.drewN | apply IsS81.drew | apply IsS81.set_0 | apply IsS81.set_1 | apply IsS81.set_2) | exact HI119.out)); (case side2 => repeat (first | (with_reducible first | exact HB.out | apply below_alloc | apply pw_below_drewN | apply below_drew1 | refine below_set ?_ (IsS81.ge HI119.out)) | exact HB.out)); rintro e w26 ⟨rfl, hi, hb, hk⟩; have n0_ := Aside0.mk (hb); have n1_ := Aside0.mk (hi); clear HB; clear HI119; have HB := n0_; have HI119 := n1_; clear n0_ n1_; (try clear hb); (try clear hb2); (try clear hk); (try clear hi)))
            go_meet
            case rel => exact ⟨_, ((t143 != 0)), (by first | rfl | (simp; done) | (simp [*]; done)), H', ⟨by first | omega | exact Nat.le_refl _⟩, ⟨by repeat (first | (with_reducible first | exact HB.out | apply below_alloc | apply pw_below_drewN | apply below_drew1 | refine below_set ?_ (IsS81.ge HI119.out)) | exact HB.out)⟩⟩
          · rw [if_neg c24] at H
            have c24b0 : (t133 == 0) = false := beq_eq_false_iff_ne.mpr c24
            have c24b1 : (t133 != 0) = true := bne_iff_ne.mpr c24
            have H' := Aside0.mk H
            clear H
            go_wp2_with (first | ((with_reducible refine gate_callee (f := 25) rfl ?_); refine goesL_ (some 35) rfl rfl Try.func25 (by kernel_rfl) rfl #[.pointer (some ⟨g119, 0, none⟩)] rfl (by (try simp only [List.map_toArray, List.map_cons, List.map_nil]); first | done | rfl | (simp only [List.length_drop, List.length_take]; rfl)) ?_; (with_reducible refine (cursor_Cursor_Err.calls g119 t139 t140 t141 t144 t145 t146 t147 w _ ?side1 ?side2 A17.out).mono ?_); (case side1 => repeat (first | (with_reducible first | exact HI119.out | apply IsS81.alloc | apply IsS81.drewN | apply IsS81.drew | apply IsS81.set_0 | apply IsS81.set_1 | apply IsS81.set_2) | exact HI119.out)); (case side2 => repeat (first | (with_reducible first | exact HB.out | apply below_alloc | apply pw_below_drewN | apply below_drew1 | refine below_set ?_ (IsS81.ge HI119.out)) | exact HB.out)); rintro e w27 ⟨rfl, hi, hb, hk⟩; refine ⟨_, rfl, ?_⟩; have n0_ := Aside0.mk (hb); have n1_ := Aside0.mk (hi); clear HB; clear HI119; have HB := n0_; have HI119 := n1_; clear n0_ n1_; (try clear hb); (try clear hb2); (try clear hk); (try clear hi)) | (go_at_call 26; (with_reducible refine (cursor_Cursor_Left.calls g119 t145 t146 t147 t148 t149 t150 t151 w _ ?side1 ?side2 A19.out).mono ?_); (case side1 => repeat (first | (with_reducible first | exact HI119.out | apply IsS81.alloc | apply IsS81.drewN | apply IsS81.drew | apply IsS81.set_0 | apply IsS81.set_1 | apply IsS81.set_2) | exact HI119.out)); (case side2 => repeat (first | (with_reducible first | exact HB.out | apply below_alloc | apply pw_below_drewN | apply below_drew1 | refine below_set ?_ (IsS81.ge HI119.out)) | exact HB.out)); rintro e w28 ⟨rfl, hi, hb, hk⟩; have n0_ := Aside0.mk (hb); have n1_ := Aside0.mk (hi); clear HB; clear HI119; have HB := n0_; have HI119 := n1_; clear n0_ n1_; (try clear hb); (try clear hb2); (try clear hk); (try clear hi)))
            go_meet
            case rel => exact ⟨_, (true), (by first | rfl | (simp; done) | (simp [*]; done)), H', ⟨by first | omega | exact Nat.le_refl _⟩, ⟨by repeat (first | (with_reducible first | exact HB.out | apply below_alloc | apply pw_below_drewN | apply below_drew1 | refine below_set ?_ (IsS81.ge HI119.out)) | exact HB.out)⟩⟩
        · rw [if_neg c23] at H
          have c23b0 : (t120 == 1) = false := beq_eq_false_iff_ne.mpr c23
          have c23b1 : (t120 != 1) = true := bne_iff_ne.mpr c23
          have H' := Aside0.mk H
          clear H
          go_wp2_with (first | ((with_reducible refine gate_callee (f := 25) rfl ?_); refine goesL_ (some 35) rfl rfl Try.func25 (by kernel_rfl) rfl #[.pointer (some ⟨g119, 0, none⟩)] rfl (by (try simp only [List.map_toArray, List.map_cons, List.map_nil]); first | done | rfl | (simp only [List.length_drop, List.length_take]; rfl)) ?_; (with_reducible refine (cursor_Cursor_Err.calls g119 t139 t140 t141 t144 t145 t146 t147 w _ ?side1 ?side2 A17.out).mono ?_); (case side1 => repeat (first | (with_reducible first | exact HI119.out | apply IsS81.alloc | apply IsS81.drewN | apply IsS81.drew | apply IsS81.set_0 | apply IsS81.set_1 | apply IsS81.set_2) | exact HI119.out)); (case side2 => repeat (first | (with_reducible first | exact HB.out | apply below_alloc | apply pw_below_drewN | apply below_drew1 | refine below_set ?_ (IsS81.ge HI119.out)) | exact HB.out)); rintro e w29 ⟨rfl, hi, hb, hk⟩; refine ⟨_, rfl, ?_⟩; have n0_ := Aside0.mk (hb); have n1_ := Aside0.mk (hi); clear HB; clear HI119; have HB := n0_; have HI119 := n1_; clear n0_ n1_; (try clear hb); (try clear hb2); (try clear hk); (try clear hi)) | (go_at_call 26; (with_reducible refine (cursor_Cursor_Left.calls g119 t145 t146 t147 t148 t149 t150 t151 w _ ?side1 ?side2 A19.out).mono ?_); (case side1 => repeat (first | (with_reducible first | exact HI119.out | apply IsS81.alloc | apply IsS81.drewN | apply IsS81.drew | apply IsS81.set_0 | apply IsS81.set_1 | apply IsS81.set_2) | exact HI119.out)); (case side2 => repeat (first | (with_reducible first | exact HB.out | apply below_alloc | apply pw_below_drewN | apply below_drew1 | refine below_set ?_ (IsS81.ge HI119.out)) | exact HB.out)); rintro e w30 ⟨rfl, hi, hb, hk⟩; have n0_ := Aside0.mk (hb); have n1_ := Aside0.mk (hi); clear HB; clear HI119; have HB := n0_; have HI119 := n1_; clear n0_ n1_; (try clear hb); (try clear hb2); (try clear hk); (try clear hi)))
          go_meet
          case rel => exact ⟨_, (true), (by first | rfl | (simp; done) | (simp [*]; done)), H', ⟨by first | omega | exact Nat.le_refl _⟩, ⟨by repeat (first | (with_reducible first | exact HB.out | apply below_alloc | apply pw_below_drewN | apply below_drew1 | refine below_set ?_ (IsS81.ge HI119.out)) | exact HB.out)⟩⟩
    · rw [if_neg c18] at H
      have c18b0 : (t144 == 0) = false := beq_eq_false_iff_ne.mpr c18
      have c18b1 : (t144 != 0) = true := bne_iff_ne.mpr c18
      (first | rw [c18b0] | (simp only [i64_w, i32_w]; rw [c18b0]) | skip)
      have H' := Aside0.mk H
      clear H
      go_wp2_with (first | ((with_reducible refine gate_callee (f := 25) rfl ?_); refine goesL_ (some 35) rfl rfl Try.func25 (by kernel_rfl) rfl #[.pointer (some ⟨g119, 0, none⟩)] rfl (by (try simp only [List.map_toArray, List.map_cons, List.map_nil]); first | done | rfl | (simp only [List.length_drop, List.length_take]; rfl)) ?_; (with_reducible refine (cursor_Cursor_Err.calls g119 t139 t140 t141 t144 t145 t146 t147 w _ ?side1 ?side2 A17.out).mono ?_); (case side1 => repeat (first | (with_reducible first | exact HI119.out | apply IsS81.alloc | apply IsS81.drewN | apply IsS81.drew | apply IsS81.set_0 | apply IsS81.set_1 | apply IsS81.set_2) | exact HI119.out)); (case side2 => repeat (first | (with_reducible first | exact HB.out | apply below_alloc | apply pw_below_drewN | apply below_drew1 | refine below_set ?_ (IsS81.ge HI119.out)) | exact HB.out)); rintro e w31 ⟨rfl, hi, hb, hk⟩; refine ⟨_, rfl, ?_⟩; have n0_ := Aside0.mk (hb); have n1_ := Aside0.mk (hi); clear HB; clear HI119; have HB := n0_; have HI119 := n1_; clear n0_ n1_; (try clear hb); (try clear hb2); (try clear hk); (try clear hi)))
      go_meet
      case rel => exact ⟨_, (true), (by first | rfl | (simp; done) | (simp [*]; done)), H', ⟨by first | omega | exact Nat.le_refl _⟩, ⟨by repeat (first | (with_reducible first | exact HB.out | apply below_alloc | apply pw_below_drewN | apply below_drew1 | refine below_set ?_ (IsS81.ge HI119.out)) | exact HB.out)⟩⟩
  case rest =>
    clear HC10
    try clear c1
    try clear c2
    try clear p2
    try clear p6
    try clear c7
    try clear c18
    try clear c18b0
    try clear c18b1
    try clear c20
    try clear c20b0
    try clear c21
    try clear c22
    try clear c23
    try clear c23b0
    try clear c23b1
    try clear c24
    try clear c24b0
    try clear c24b1
    try clear c25
    obtain ⟨kq, x33_9, rfl, HA, HJ9, HB⟩ := hcut
    cases kq with
    | zero => exact absurd HA.out (by simp [field_ParseOwner.j0])
    | succ kj9 =>
      have H := HA.out
      clear HA
      simp only [field_ParseOwner.j0] at H
      by_cases c32 : x33_9 = true
      · subst c32
        have H1 : (some (0, 0, 24)) = some (r1, r2, r3) := by rw [if_pos rfl] at H; exact H
        clear H
        have H := H1
        clear H1
        simp only [Option.some.injEq, Prod.mk.injEq] at H
        obtain ⟨rfl, rfl, rfl⟩ := H
        go_wp2
        go_ret3
        exact ⟨by first | rfl | (simp [errW_none, errW_some] <;> rfl) | (simp [*, errW_none, errW_some] <;> rfl), by repeat (first | (with_reducible first | exact HB.out | apply below_alloc | apply pw_below_drewN | apply below_drew1) | exact HB.out)⟩
      · replace c32 := Bool.eq_false_iff.mpr c32
        subst c32
        have H1 : (if t132 > 4294967295 then (some (0, 0, 8)) else (if t142 > 4294967295 then (some (0, 0, 8)) else (some ((t132) % 4294967296, (t142) % 4294967296, 0)))) = some (r1, r2, r3) := by rw [if_neg (show ¬ (false = true) by decide)] at H; exact H
        clear H
        have H := H1
        clear H1
        by_cases c33 : t132 > 4294967295
        · rw [if_pos c33] at H
          have c33b0 : decide (4294967295 < t132) = true := decide_eq_true c33
          clear c33
          simp only [Option.some.injEq, Prod.mk.injEq] at H
          obtain ⟨rfl, rfl, rfl⟩ := H
          go_wp2
          go_ret3
          exact ⟨by first | rfl | (simp [errW_none, errW_some] <;> rfl) | (simp [*, errW_none, errW_some] <;> rfl), by repeat (first | (with_reducible first | exact HB.out | apply below_alloc | apply pw_below_drewN | apply below_drew1) | exact HB.out)⟩
        · rw [if_neg c33] at H
          have c33b0 : decide (4294967295 < t132) = false := decide_eq_false c33
          clear c33
          by_cases c34 : t142 > 4294967295
          · rw [if_pos c34] at H
            have c34b0 : decide (4294967295 < t142) = true := decide_eq_true c34
            clear c34
            simp only [Option.some.injEq, Prod.mk.injEq] at H
            obtain ⟨rfl, rfl, rfl⟩ := H
            go_wp2
            go_ret3
            exact ⟨by first | rfl | (simp [errW_none, errW_some] <;> rfl) | (simp [*, errW_none, errW_some] <;> rfl), by repeat (first | (with_reducible first | exact HB.out | apply below_alloc | apply pw_below_drewN | apply below_drew1) | exact HB.out)⟩
          · rw [if_neg c34] at H
            have c34b0 : decide (4294967295 < t142) = false := decide_eq_false c34
            clear c34
            simp only [Option.some.injEq, Prod.mk.injEq] at H
            obtain ⟨rfl, rfl, rfl⟩ := H
            go_wp2
            go_ret3
            exact ⟨by first | rfl | (simp [errW_none, errW_some] <;> rfl) | (simp [*, errW_none, errW_some] <;> rfl), by repeat (first | (with_reducible first | exact HB.out | apply below_alloc | apply pw_below_drewN | apply below_drew1) | exact HB.out)⟩

end Go.Proofs.Ytloojhhjljneeaa.P
