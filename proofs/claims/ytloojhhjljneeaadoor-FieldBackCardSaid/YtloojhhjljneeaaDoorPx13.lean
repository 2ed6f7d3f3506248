/- Written by a program of this session (wip/print2: a patched copy of a printer), not by print.sh: Lean functions with the answers of the Go functions, and the proofs of that; no condition beside those that stand in each theorem. -/
import Derived.Test.YtloojhhjljneeaaDoorPx0
import Derived.Test.YtloojhhjljneeaaDoorPx2
import Derived.Test.YtloojhhjljneeaaDoorPx3
namespace Go.Proofs.YtloojhhjljneeaaDoor.P
open Go.RowKit Go.Proofs.YtloojhhjljneeaaDoorW.PrintWords Go.Proofs.YtloojhhjljneeaaDoorW.PrintLast Go.Proofs.YtloojhhjljneeaaDoorW.PrintMore
attribute [local go_sem] max2_int min2_int max_two min_two max_three min_three max_four min_four   -- for this text's walks alone
set_option linter.unusedVariables false
set_option linter.unusedSimpArgs false

/-! ### cursor_Number: function 31 -/
def cursor_Number.f (k : Nat) (a0 : ByteArray) : Option (Int × Int) := if (a0.size : Int) > 8 then (some (0, 5)) else ((cursor_number.f k a0).bind fun t231 => (some (t231, 0)))
theorem cursor_Number.mono : ∀ a0 k, LeO (cursor_Number.f k a0) (cursor_Number.f (k + 1) a0) := by
  intro a0 k
  unfold cursor_Number.f
  repeat' first
      | (with_reducible exact cursor_number.mono _ _)
      | (with_reducible exact LeO.refl _)
      | (with_reducible exact LeO.none _)
      | (with_reducible refine LeO.ite ?_ ?_)
      | (with_reducible refine LeO.bind ?_ (fun _ => ?_))
      | exact cursor_number.mono _ _
      | exact LeO.none _
      | refine LeO.ite ?_ ?_
      | refine LeO.bind ?_ (fun _ => ?_)
set_option maxHeartbeats 8000000 in
set_option maxRecDepth 100000 in
theorem cursor_Number.calls (k : Nat) (a0 : ByteArray) (r1 : Int) (r2 : Int) (w : World) (h : cursor_Number.f k a0 = some (r1, r2)) :
    Calls Tryd.prog 31 #[.string a0] w fun e w' => e = .returned (.tuple #[.int .u64 r1, .int .i64 r2]) ∧ Drawn0 w w' := by
  have H : (if (a0.size : Int) > 8 then (some (0, 5)) else ((cursor_number.f k a0).bind fun t231 => (some (t231, 0)))) = some (r1, r2) := h
  clear h
  by_cases c2 : (a0.size : Int) > 8
  · rw [if_pos c2] at H
    have c2b0 : decide (8 < (a0.size : Int)) = true := decide_eq_true c2
    have c2b1 : decide (8 < a0.size) = true := decide_eq_true (by omega)
    clear c2
    simp only [Option.some.injEq, Prod.mk.injEq] at H
    obtain ⟨rfl, rfl⟩ := H
    go_enter Tryd.func31, Tryd.ntmps31
    go_wp2
    go_ret2
    exact ⟨by first | rfl | (simp; done) | (simp [*]; done), by repeat (first | exact Drawn0.refl _ | apply Drawn0.step)⟩
  · rw [if_neg c2] at H
    have c2b0 : decide (8 < (a0.size : Int)) = false := decide_eq_false c2
    have c2b1 : decide (8 < a0.size) = false := decide_eq_false (by omega)
    clear c2
    replace H := Option.bind_eq_some_iff.mp H
    obtain ⟨t231, A30, H⟩ := H
    replace H : (some (t231, 0)) = some (r1, r2) := H
    have A3 := Aside0.mk A30
    clear A30
    simp only [Option.some.injEq, Prod.mk.injEq] at H
    obtain ⟨rfl, rfl⟩ := H
    go_enter Tryd.func31, Tryd.ntmps31
    go_wp2_with (first | ((with_reducible refine gate_callee (f := 33) rfl ?_); refine goesL_ (some 8) rfl rfl Tryd.func33 (by kernel_rfl) rfl #[.string a0] rfl (by (try simp only [List.map_toArray, List.map_cons, List.map_nil]); first | done | rfl | (simp only [List.length_drop, List.length_take]; rfl)) ?_; (with_reducible refine (cursor_number.calls k a0 t231 _ A3.out).mono ?_); rintro e w' ⟨rfl, ⟨nd, rfl⟩⟩; refine ⟨_, rfl, ?_⟩))
    go_ret2
    exact ⟨by first | rfl | (simp; done) | (simp [*]; done), by repeat (first | exact Drawn0.refl _ | apply Drawn0.step)⟩

/-! ### field_ParseOwner: function 14 -/
def field_ParseOwner.j0 : Nat → Int → Int → Bool → Option (Int × Int × Int)
  | 0, _, _, _ => none
  | k + 1, x7, x9, x33 => if x33 = true then (some (0, 0, 24)) else (if x7 > 4294967295 then (some (0, 0, 8)) else (if x9 > 4294967295 then (some (0, 0, 8)) else (some ((x7) % 4294967296, (x9) % 4294967296, 0))))
def field_ParseOwner.f (k : Nat) (a0 : ByteArray) : Option (Int × Int × Int) := (cursor_Over.f a0).bind fun bt232 => ((cursor_Cursor_One.f k bt232.1 bt232.2.1 bt232.2.2).bind fun bt236 => ((cursor_Cursor_One.f k bt236.2.1 bt236.2.2.1 bt236.2.2.2).bind fun bt240 => ((cursor_Cursor_Take.f bt240.2.1 bt240.2.2.1 bt240.2.2.2 (wrap64 (bt240.1))).bind fun bt244 => ((cursor_Number.f k bt244.1).bind fun bt248 => ((cursor_Cursor_One.f k bt244.2.1 bt244.2.2.1 bt244.2.2.2).bind fun bt250 => ((cursor_Cursor_Take.f bt250.2.1 bt250.2.2.1 bt250.2.2.2 (wrap64 (bt250.1))).bind fun bt254 => ((cursor_Number.f k bt254.1).bind fun bt258 => ((cursor_Cursor_Err.f bt254.2.1 bt254.2.2.1 bt254.2.2.2).bind fun bt260 => (if bt260.1 = 0 then ((cursor_Cursor_Left.f bt260.2.1 bt260.2.2.1 bt260.2.2.2).bind fun bt264 => (if bt264.1 > 0 then (field_ParseOwner.j0 k bt248.1 bt258.1 true) else (if bt236.1 = 1 then (if bt248.2 = 0 then (field_ParseOwner.j0 k bt248.1 bt258.1 (bt258.2 != 0)) else (field_ParseOwner.j0 k bt248.1 bt258.1 true)) else (field_ParseOwner.j0 k bt248.1 bt258.1 true)))) else (field_ParseOwner.j0 k bt248.1 bt258.1 true))))))))))
theorem field_ParseOwner.mono_l : ∀ k, (∀ y0 y1 y2, LeO (field_ParseOwner.j0 k y0 y1 y2) (field_ParseOwner.j0 (k + 1) y0 y1 y2))
  | 0 => fun _ _ _ r h => by simp [field_ParseOwner.j0] at h
  | k + 1 => by
    have ih0 := field_ParseOwner.mono_l k
    · intro y0 y1 y2
      unfold field_ParseOwner.j0
      repeat' first
      | (with_reducible exact ih0 _ _ _)
      | (with_reducible exact cursor_Cursor_One.mono _ _ _ _)
      | (with_reducible exact cursor_Number.mono _ _)
      | (with_reducible exact LeO.refl _)
      | (with_reducible exact LeO.none _)
      | (with_reducible refine LeO.ite ?_ ?_)
      | (with_reducible refine LeO.bind ?_ (fun _ => ?_))
      | exact ih0 _ _ _
      | exact cursor_Cursor_One.mono _ _ _ _
      | exact cursor_Number.mono _ _
      | exact LeO.none _
      | refine LeO.ite ?_ ?_
      | refine LeO.bind ?_ (fun _ => ?_)
theorem field_ParseOwner.mono : ∀ a0 k, LeO (field_ParseOwner.f k a0) (field_ParseOwner.f (k + 1) a0) := by
  intro a0 k
  have ih0 := field_ParseOwner.mono_l k
  unfold field_ParseOwner.f
  repeat' first
      | (with_reducible exact ih0 _ _ _)
      | (with_reducible exact cursor_Cursor_One.mono _ _ _ _)
      | (with_reducible exact cursor_Number.mono _ _)
      | (with_reducible exact LeO.refl _)
      | (with_reducible exact LeO.none _)
      | (with_reducible refine LeO.ite ?_ ?_)
      | (with_reducible refine LeO.bind ?_ (fun _ => ?_))
      | exact ih0 _ _ _
      | exact cursor_Cursor_One.mono _ _ _ _
      | exact cursor_Number.mono _ _
      | exact LeO.none _
      | refine LeO.ite ?_ ?_
      | refine LeO.bind ?_ (fun _ => ?_)
set_option maxHeartbeats 8000000 in
set_option maxRecDepth 100000 in
theorem field_ParseOwner.calls (k : Nat) (a0 : ByteArray) (r1 : Int) (r2 : Int) (r3 : Int) (w : World) (h : field_ParseOwner.f k a0 = some (r1, r2, r3)) :
    Calls Tryd.prog 14 #[.string a0] w fun e w' => e = .returned (.tuple #[.int .u32 r1, .int .u32 r2, .int .i64 r3]) ∧ Below w.heap.size w w' := by
  have HB := Aside0.mk (Below.refl w.heap.size w)
  have H : ((cursor_Over.f a0).bind fun bt232 => ((cursor_Cursor_One.f k bt232.1 bt232.2.1 bt232.2.2).bind fun bt236 => ((cursor_Cursor_One.f k bt236.2.1 bt236.2.2.1 bt236.2.2.2).bind fun bt240 => ((cursor_Cursor_Take.f bt240.2.1 bt240.2.2.1 bt240.2.2.2 (wrap64 (bt240.1))).bind fun bt244 => ((cursor_Number.f k bt244.1).bind fun bt248 => ((cursor_Cursor_One.f k bt244.2.1 bt244.2.2.1 bt244.2.2.2).bind fun bt250 => ((cursor_Cursor_Take.f bt250.2.1 bt250.2.2.1 bt250.2.2.2 (wrap64 (bt250.1))).bind fun bt254 => ((cursor_Number.f k bt254.1).bind fun bt258 => ((cursor_Cursor_Err.f bt254.2.1 bt254.2.2.1 bt254.2.2.2).bind fun bt260 => (if bt260.1 = 0 then ((cursor_Cursor_Left.f bt260.2.1 bt260.2.2.1 bt260.2.2.2).bind fun bt264 => (if bt264.1 > 0 then (field_ParseOwner.j0 k bt248.1 bt258.1 true) else (if bt236.1 = 1 then (if bt248.2 = 0 then (field_ParseOwner.j0 k bt248.1 bt258.1 (bt258.2 != 0)) else (field_ParseOwner.j0 k bt248.1 bt258.1 true)) else (field_ParseOwner.j0 k bt248.1 bt258.1 true)))) else (field_ParseOwner.j0 k bt248.1 bt258.1 true))))))))))) = some (r1, r2, r3) := h
  clear h
  replace H := Option.bind_eq_some_iff.mp H
  obtain ⟨⟨t232, t233, t234⟩, A20, H⟩ := H
  replace H : ((cursor_Cursor_One.f k t232 t233 t234).bind fun bt236 => ((cursor_Cursor_One.f k bt236.2.1 bt236.2.2.1 bt236.2.2.2).bind fun bt240 => ((cursor_Cursor_Take.f bt240.2.1 bt240.2.2.1 bt240.2.2.2 (wrap64 (bt240.1))).bind fun bt244 => ((cursor_Number.f k bt244.1).bind fun bt248 => ((cursor_Cursor_One.f k bt244.2.1 bt244.2.2.1 bt244.2.2.2).bind fun bt250 => ((cursor_Cursor_Take.f bt250.2.1 bt250.2.2.1 bt250.2.2.2 (wrap64 (bt250.1))).bind fun bt254 => ((cursor_Number.f k bt254.1).bind fun bt258 => ((cursor_Cursor_Err.f bt254.2.1 bt254.2.2.1 bt254.2.2.2).bind fun bt260 => (if bt260.1 = 0 then ((cursor_Cursor_Left.f bt260.2.1 bt260.2.2.1 bt260.2.2.2).bind fun bt264 => (if bt264.1 > 0 then (field_ParseOwner.j0 k bt248.1 bt258.1 true) else (if bt236.1 = 1 then (if bt248.2 = 0 then (field_ParseOwner.j0 k bt248.1 bt258.1 (bt258.2 != 0)) else (field_ParseOwner.j0 k bt248.1 bt258.1 true)) else (field_ParseOwner.j0 k bt248.1 bt258.1 true)))) else (field_ParseOwner.j0 k bt248.1 bt258.1 true)))))))))) = some (r1, r2, r3) := H
  have A2 := Aside0.mk A20
  clear A20
  replace H := Option.bind_eq_some_iff.mp H
  obtain ⟨⟨t236, t237, t238, t239⟩, A30, H⟩ := H
  replace H : ((cursor_Cursor_One.f k t237 t238 t239).bind fun bt240 => ((cursor_Cursor_Take.f bt240.2.1 bt240.2.2.1 bt240.2.2.2 (wrap64 (bt240.1))).bind fun bt244 => ((cursor_Number.f k bt244.1).bind fun bt248 => ((cursor_Cursor_One.f k bt244.2.1 bt244.2.2.1 bt244.2.2.2).bind fun bt250 => ((cursor_Cursor_Take.f bt250.2.1 bt250.2.2.1 bt250.2.2.2 (wrap64 (bt250.1))).bind fun bt254 => ((cursor_Number.f k bt254.1).bind fun bt258 => ((cursor_Cursor_Err.f bt254.2.1 bt254.2.2.1 bt254.2.2.2).bind fun bt260 => (if bt260.1 = 0 then ((cursor_Cursor_Left.f bt260.2.1 bt260.2.2.1 bt260.2.2.2).bind fun bt264 => (if bt264.1 > 0 then (field_ParseOwner.j0 k bt248.1 bt258.1 true) else (if t236 = 1 then (if bt248.2 = 0 then (field_ParseOwner.j0 k bt248.1 bt258.1 (bt258.2 != 0)) else (field_ParseOwner.j0 k bt248.1 bt258.1 true)) else (field_ParseOwner.j0 k bt248.1 bt258.1 true)))) else (field_ParseOwner.j0 k bt248.1 bt258.1 true))))))))) = some (r1, r2, r3) := H
  have A3 := Aside0.mk A30
  clear A30
  replace H := Option.bind_eq_some_iff.mp H
  obtain ⟨⟨t240, t241, t242, t243⟩, A40, H⟩ := H
  replace H : ((cursor_Cursor_Take.f t241 t242 t243 (wrap64 (t240))).bind fun bt244 => ((cursor_Number.f k bt244.1).bind fun bt248 => ((cursor_Cursor_One.f k bt244.2.1 bt244.2.2.1 bt244.2.2.2).bind fun bt250 => ((cursor_Cursor_Take.f bt250.2.1 bt250.2.2.1 bt250.2.2.2 (wrap64 (bt250.1))).bind fun bt254 => ((cursor_Number.f k bt254.1).bind fun bt258 => ((cursor_Cursor_Err.f bt254.2.1 bt254.2.2.1 bt254.2.2.2).bind fun bt260 => (if bt260.1 = 0 then ((cursor_Cursor_Left.f bt260.2.1 bt260.2.2.1 bt260.2.2.2).bind fun bt264 => (if bt264.1 > 0 then (field_ParseOwner.j0 k bt248.1 bt258.1 true) else (if t236 = 1 then (if bt248.2 = 0 then (field_ParseOwner.j0 k bt248.1 bt258.1 (bt258.2 != 0)) else (field_ParseOwner.j0 k bt248.1 bt258.1 true)) else (field_ParseOwner.j0 k bt248.1 bt258.1 true)))) else (field_ParseOwner.j0 k bt248.1 bt258.1 true)))))))) = some (r1, r2, r3) := H
  have A4 := Aside0.mk A40
  clear A40
  replace H := Option.bind_eq_some_iff.mp H
  obtain ⟨⟨t244, t245, t246, t247⟩, A50, H⟩ := H
  replace H : ((cursor_Number.f k t244).bind fun bt248 => ((cursor_Cursor_One.f k t245 t246 t247).bind fun bt250 => ((cursor_Cursor_Take.f bt250.2.1 bt250.2.2.1 bt250.2.2.2 (wrap64 (bt250.1))).bind fun bt254 => ((cursor_Number.f k bt254.1).bind fun bt258 => ((cursor_Cursor_Err.f bt254.2.1 bt254.2.2.1 bt254.2.2.2).bind fun bt260 => (if bt260.1 = 0 then ((cursor_Cursor_Left.f bt260.2.1 bt260.2.2.1 bt260.2.2.2).bind fun bt264 => (if bt264.1 > 0 then (field_ParseOwner.j0 k bt248.1 bt258.1 true) else (if t236 = 1 then (if bt248.2 = 0 then (field_ParseOwner.j0 k bt248.1 bt258.1 (bt258.2 != 0)) else (field_ParseOwner.j0 k bt248.1 bt258.1 true)) else (field_ParseOwner.j0 k bt248.1 bt258.1 true)))) else (field_ParseOwner.j0 k bt248.1 bt258.1 true))))))) = some (r1, r2, r3) := H
  have A5 := Aside0.mk A50
  clear A50
  replace H := Option.bind_eq_some_iff.mp H
  obtain ⟨⟨t248, t249⟩, A60, H⟩ := H
  replace H : ((cursor_Cursor_One.f k t245 t246 t247).bind fun bt250 => ((cursor_Cursor_Take.f bt250.2.1 bt250.2.2.1 bt250.2.2.2 (wrap64 (bt250.1))).bind fun bt254 => ((cursor_Number.f k bt254.1).bind fun bt258 => ((cursor_Cursor_Err.f bt254.2.1 bt254.2.2.1 bt254.2.2.2).bind fun bt260 => (if bt260.1 = 0 then ((cursor_Cursor_Left.f bt260.2.1 bt260.2.2.1 bt260.2.2.2).bind fun bt264 => (if bt264.1 > 0 then (field_ParseOwner.j0 k t248 bt258.1 true) else (if t236 = 1 then (if t249 = 0 then (field_ParseOwner.j0 k t248 bt258.1 (bt258.2 != 0)) else (field_ParseOwner.j0 k t248 bt258.1 true)) else (field_ParseOwner.j0 k t248 bt258.1 true)))) else (field_ParseOwner.j0 k t248 bt258.1 true)))))) = some (r1, r2, r3) := H
  have A6 := Aside0.mk A60
  clear A60
  replace H := Option.bind_eq_some_iff.mp H
  obtain ⟨⟨t250, t251, t252, t253⟩, A70, H⟩ := H
  replace H : ((cursor_Cursor_Take.f t251 t252 t253 (wrap64 (t250))).bind fun bt254 => ((cursor_Number.f k bt254.1).bind fun bt258 => ((cursor_Cursor_Err.f bt254.2.1 bt254.2.2.1 bt254.2.2.2).bind fun bt260 => (if bt260.1 = 0 then ((cursor_Cursor_Left.f bt260.2.1 bt260.2.2.1 bt260.2.2.2).bind fun bt264 => (if bt264.1 > 0 then (field_ParseOwner.j0 k t248 bt258.1 true) else (if t236 = 1 then (if t249 = 0 then (field_ParseOwner.j0 k t248 bt258.1 (bt258.2 != 0)) else (field_ParseOwner.j0 k t248 bt258.1 true)) else (field_ParseOwner.j0 k t248 bt258.1 true)))) else (field_ParseOwner.j0 k t248 bt258.1 true))))) = some (r1, r2, r3) := H
  have A7 := Aside0.mk A70
  clear A70
  replace H := Option.bind_eq_some_iff.mp H
  obtain ⟨⟨t254, t255, t256, t257⟩, A80, H⟩ := H
  replace H : ((cursor_Number.f k t254).bind fun bt258 => ((cursor_Cursor_Err.f t255 t256 t257).bind fun bt260 => (if bt260.1 = 0 then ((cursor_Cursor_Left.f bt260.2.1 bt260.2.2.1 bt260.2.2.2).bind fun bt264 => (if bt264.1 > 0 then (field_ParseOwner.j0 k t248 bt258.1 true) else (if t236 = 1 then (if t249 = 0 then (field_ParseOwner.j0 k t248 bt258.1 (bt258.2 != 0)) else (field_ParseOwner.j0 k t248 bt258.1 true)) else (field_ParseOwner.j0 k t248 bt258.1 true)))) else (field_ParseOwner.j0 k t248 bt258.1 true)))) = some (r1, r2, r3) := H
  have A8 := Aside0.mk A80
  clear A80
  replace H := Option.bind_eq_some_iff.mp H
  obtain ⟨⟨t258, t259⟩, A90, H⟩ := H
  replace H : ((cursor_Cursor_Err.f t255 t256 t257).bind fun bt260 => (if bt260.1 = 0 then ((cursor_Cursor_Left.f bt260.2.1 bt260.2.2.1 bt260.2.2.2).bind fun bt264 => (if bt264.1 > 0 then (field_ParseOwner.j0 k t248 t258 true) else (if t236 = 1 then (if t249 = 0 then (field_ParseOwner.j0 k t248 t258 (t259 != 0)) else (field_ParseOwner.j0 k t248 t258 true)) else (field_ParseOwner.j0 k t248 t258 true)))) else (field_ParseOwner.j0 k t248 t258 true))) = some (r1, r2, r3) := H
  have A9 := Aside0.mk A90
  clear A90
  have HC10 := Aside0.mk H
  clear H
  go_enter Tryd.func14, Tryd.ntmps14
  go_upto_region 5 with (first | ((with_reducible refine gate_callee (f := 17) rfl ?_); refine goesL_ (some 12) rfl rfl Tryd.func17 (by kernel_rfl) rfl #[.string a0] rfl (by (try simp only [List.map_toArray, List.map_cons, List.map_nil]); first | done | rfl | (simp only [List.length_drop, List.length_take]; rfl)) ?_; (with_reducible refine (cursor_Over.calls a0 t232 t233 t234 w _ ?side1 A2.out).mono ?_); (case side1 => repeat (first | (with_reducible first | exact HB.out | apply below_alloc | apply pw_below_drewN | apply below_drew1) | exact HB.out)); rintro e w11 ⟨g235, rfl, hi, hb, hb2⟩; refine ⟨_, rfl, ?_⟩; have n0_ := Aside0.mk (hb); have n1_ := Aside0.mk (hi); clear HB; have HB := n0_; have HI235 := n1_; clear n0_ n1_; (try clear hb); (try clear hb2); (try clear hk); (try clear hi)) | ((with_reducible refine gate_callee (f := 18) rfl ?_); refine goesL_ (some 14) rfl rfl Tryd.func18 (by kernel_rfl) rfl #[.pointer (some ⟨g235, 0, none⟩)] rfl (by (try simp only [List.map_toArray, List.map_cons, List.map_nil]); first | done | rfl | (simp only [List.length_drop, List.length_take]; rfl)) ?_; (with_reducible refine (cursor_Cursor_One.calls k g235 t232 t233 t234 t236 t237 t238 t239 w _ ?side1 ?side2 A3.out).mono ?_); (case side1 => repeat (first | (with_reducible first | exact HI235.out | apply IsS71.alloc | apply IsS71.drewN | apply IsS71.drew | apply IsS71.set_0 | apply IsS71.set_1 | apply IsS71.set_2) | exact HI235.out)); (case side2 => repeat (first | (with_reducible first | exact HB.out | apply below_alloc | apply pw_below_drewN | apply below_drew1 | refine below_set ?_ (IsS71.ge HI235.out)) | exact HB.out)); rintro e w12 ⟨rfl, hi, hb, hk⟩; refine ⟨_, rfl, ?_⟩; have n0_ := Aside0.mk (hb); have n1_ := Aside0.mk (hi); clear HB; clear HI235; have HB := n0_; have HI235 := n1_; clear n0_ n1_; (try clear hb); (try clear hb2); (try clear hk); (try clear hi)) | ((with_reducible refine gate_callee (f := 18) rfl ?_); refine goesL_ (some 18) rfl rfl Tryd.func18 (by kernel_rfl) rfl #[.pointer (some ⟨g235, 0, none⟩)] rfl (by (try simp only [List.map_toArray, List.map_cons, List.map_nil]); first | done | rfl | (simp only [List.length_drop, List.length_take]; rfl)) ?_; (with_reducible refine (cursor_Cursor_One.calls k g235 t237 t238 t239 t240 t241 t242 t243 w _ ?side1 ?side2 A4.out).mono ?_); (case side1 => repeat (first | (with_reducible first | exact HI235.out | apply IsS71.alloc | apply IsS71.drewN | apply IsS71.drew | apply IsS71.set_0 | apply IsS71.set_1 | apply IsS71.set_2) | exact HI235.out)); (case side2 => repeat (first | (with_reducible first | exact HB.out | apply below_alloc | apply pw_below_drewN | apply below_drew1 | refine below_set ?_ (IsS71.ge HI235.out)) | exact HB.out)); rintro e w13 ⟨rfl, hi, hb, hk⟩; refine ⟨_, rfl, ?_⟩; have n0_ := Aside0.mk (hb); have n1_ := Aside0.mk (hi); clear HB; clear HI235; have HB := n0_; have HI235 := n1_; clear n0_ n1_; (try clear hb); (try clear hb2); (try clear hk); (try clear hi)) | ((with_reducible refine gate_callee (f := 20) rfl ?_); refine goesL_ (some 20) rfl rfl Tryd.func20 (by kernel_rfl) rfl #[.pointer (some ⟨g235, 0, none⟩), .int .i64 (wrap64 (t240))] rfl (by (try simp only [List.map_toArray, List.map_cons, List.map_nil]); first | done | rfl | (simp only [List.length_drop, List.length_take]; rfl)) ?_; (with_reducible refine (cursor_Cursor_Take.calls g235 t241 t242 t243 (wrap64 (t240)) t244 t245 t246 t247 w _ ?side1 ?side2 A5.out).mono ?_); (case side1 => repeat (first | (with_reducible first | exact HI235.out | apply IsS71.alloc | apply IsS71.drewN | apply IsS71.drew | apply IsS71.set_0 | apply IsS71.set_1 | apply IsS71.set_2) | exact HI235.out)); (case side2 => repeat (first | (with_reducible first | exact HB.out | apply below_alloc | apply pw_below_drewN | apply below_drew1 | refine below_set ?_ (IsS71.ge HI235.out)) | exact HB.out)); rintro e w14 ⟨rfl, hi, hb, hk⟩; refine ⟨_, rfl, ?_⟩; have n0_ := Aside0.mk (hb); have n1_ := Aside0.mk (hi); clear HB; clear HI235; have HB := n0_; have HI235 := n1_; clear n0_ n1_; (try clear hb); (try clear hb2); (try clear hk); (try clear hi)) | ((with_reducible refine gate_callee (f := 31) rfl ?_); refine goesL_ (some 21) rfl rfl Tryd.func31 (by kernel_rfl) rfl #[.string t244] rfl (by (try simp only [List.map_toArray, List.map_cons, List.map_nil]); first | done | rfl | (simp only [List.length_drop, List.length_take]; rfl)) ?_; (with_reducible refine (cursor_Number.calls k t244 t248 t249 _ A6.out).mono ?_); rintro e w' ⟨rfl, ⟨nd, rfl⟩⟩; refine ⟨_, rfl, ?_⟩) | ((with_reducible refine gate_callee (f := 18) rfl ?_); refine goesL_ (some 27) rfl rfl Tryd.func18 (by kernel_rfl) rfl #[.pointer (some ⟨g235, 0, none⟩)] rfl (by (try simp only [List.map_toArray, List.map_cons, List.map_nil]); first | done | rfl | (simp only [List.length_drop, List.length_take]; rfl)) ?_; (with_reducible refine (cursor_Cursor_One.calls k g235 t245 t246 t247 t250 t251 t252 t253 w _ ?side1 ?side2 A7.out).mono ?_); (case side1 => repeat (first | (with_reducible first | exact HI235.out | apply IsS71.alloc | apply IsS71.drewN | apply IsS71.drew | apply IsS71.set_0 | apply IsS71.set_1 | apply IsS71.set_2) | exact HI235.out)); (case side2 => repeat (first | (with_reducible first | exact HB.out | apply below_alloc | apply pw_below_drewN | apply below_drew1 | refine below_set ?_ (IsS71.ge HI235.out)) | exact HB.out)); rintro e w15 ⟨rfl, hi, hb, hk⟩; refine ⟨_, rfl, ?_⟩; have n0_ := Aside0.mk (hb); have n1_ := Aside0.mk (hi); clear HB; clear HI235; have HB := n0_; have HI235 := n1_; clear n0_ n1_; (try clear hb); (try clear hb2); (try clear hk); (try clear hi)) | ((with_reducible refine gate_callee (f := 20) rfl ?_); refine goesL_ (some 29) rfl rfl Tryd.func20 (by kernel_rfl) rfl #[.pointer (some ⟨g235, 0, none⟩), .int .i64 (wrap64 (t250))] rfl (by (try simp only [List.map_toArray, List.map_cons, List.map_nil]); first | done | rfl | (simp only [List.length_drop, List.length_take]; rfl)) ?_; (with_reducible refine (cursor_Cursor_Take.calls g235 t251 t252 t253 (wrap64 (t250)) t254 t255 t256 t257 w _ ?side1 ?side2 A8.out).mono ?_); (case side1 => repeat (first | (with_reducible first | exact HI235.out | apply IsS71.alloc | apply IsS71.drewN | apply IsS71.drew | apply IsS71.set_0 | apply IsS71.set_1 | apply IsS71.set_2) | exact HI235.out)); (case side2 => repeat (first | (with_reducible first | exact HB.out | apply below_alloc | apply pw_below_drewN | apply below_drew1 | refine below_set ?_ (IsS71.ge HI235.out)) | exact HB.out)); rintro e w16 ⟨rfl, hi, hb, hk⟩; refine ⟨_, rfl, ?_⟩; have n0_ := Aside0.mk (hb); have n1_ := Aside0.mk (hi); clear HB; clear HI235; have HB := n0_; have HI235 := n1_; clear n0_ n1_; (try clear hb); (try clear hb2); (try clear hk); (try clear hi)) | ((with_reducible refine gate_callee (f := 31) rfl ?_); refine goesL_ (some 30) rfl rfl Tryd.func31 (by kernel_rfl) rfl #[.string t254] rfl (by (try simp only [List.map_toArray, List.map_cons, List.map_nil]); first | done | rfl | (simp only [List.length_drop, List.length_take]; rfl)) ?_; (with_reducible refine (cursor_Number.calls k t254 t258 t259 _ A9.out).mono ?_); rintro e w' ⟨rfl, ⟨nd, rfl⟩⟩; refine ⟨_, rfl, ?_⟩))
  (try simp only [Act.put, List.setIfInBounds_toArray, List.set_cons_zero, List.set_cons_succ])
  go_cut [33] (fun v33 wc => ∃ (kq : Nat) (x33_9 : Bool), v33 = .bool x33_9 ∧ Aside0 (field_ParseOwner.j0 kq t248 t258 x33_9 = some (r1, r2, r3)) ∧ Aside0 (kq ≤ k) ∧ Aside0 (Below w.heap.size w wc))
  case first =>
    have H := HC10.out
    clear HC10
    replace H := Option.bind_eq_some_iff.mp H
    obtain ⟨⟨t260, t261, t262, t263⟩, A170, H⟩ := H
    replace H : (if t260 = 0 then ((cursor_Cursor_Left.f t261 t262 t263).bind fun bt264 => (if bt264.1 > 0 then (field_ParseOwner.j0 k t248 t258 true) else (if t236 = 1 then (if t249 = 0 then (field_ParseOwner.j0 k t248 t258 (t259 != 0)) else (field_ParseOwner.j0 k t248 t258 true)) else (field_ParseOwner.j0 k t248 t258 true)))) else (field_ParseOwner.j0 k t248 t258 true)) = some (r1, r2, r3) := H
    have A17 := Aside0.mk A170
    clear A170
    by_cases c18 : t260 = 0
    · rw [if_pos c18] at H
      have c18b0 : (t260 == 0) = true := beq_iff_eq.mpr c18
      have c18b1 : (t260 != 0) = false := bne_eq_false_iff_eq.mpr c18
      clear c18
      (first | rw [c18b0] | (simp only [i64_w, i32_w]; rw [c18b0]) | skip)
      replace H := Option.bind_eq_some_iff.mp H
      obtain ⟨⟨t264, t265, t266, t267⟩, A190, H⟩ := H
      replace H : (if t264 > 0 then (field_ParseOwner.j0 k t248 t258 true) else (if t236 = 1 then (if t249 = 0 then (field_ParseOwner.j0 k t248 t258 (t259 != 0)) else (field_ParseOwner.j0 k t248 t258 true)) else (field_ParseOwner.j0 k t248 t258 true))) = some (r1, r2, r3) := H
      have A19 := Aside0.mk A190
      clear A190
      by_cases c20 : t264 > 0
      · rw [if_pos c20] at H
        have c20b0 : decide (0 < t264) = true := decide_eq_true c20
        clear c20
        have H' := Aside0.mk H
        clear H
        go_wp2_with (first | ((with_reducible refine gate_callee (f := 22) rfl ?_); refine goesL_ (some 35) rfl rfl Tryd.func22 (by kernel_rfl) rfl #[.pointer (some ⟨g235, 0, none⟩)] rfl (by (try simp only [List.map_toArray, List.map_cons, List.map_nil]); first | done | rfl | (simp only [List.length_drop, List.length_take]; rfl)) ?_; (with_reducible refine (cursor_Cursor_Err.calls g235 t255 t256 t257 t260 t261 t262 t263 w _ ?side1 ?side2 A17.out).mono ?_); (case side1 => repeat (first | (with_reducible first | exact HI235.out | apply IsS71.alloc | apply IsS71.drewN | apply IsS71.drew | apply IsS71.set_0 | apply IsS71.set_1 | apply IsS71.set_2) | exact HI235.out)); (case side2 => repeat (first | (with_reducible first | exact HB.out | apply below_alloc | apply pw_below_drewN | apply below_drew1 | refine below_set ?_ (IsS71.ge HI235.out)) | exact HB.out)); rintro e w21 ⟨rfl, hi, hb, hk⟩; refine ⟨_, rfl, ?_⟩; have n0_ := Aside0.mk (hb); have n1_ := Aside0.mk (hi); clear HB; clear HI235; have HB := n0_; have HI235 := n1_; clear n0_ n1_; (try clear hb); (try clear hb2); (try clear hk); (try clear hi)) | (go_at_call 21; (with_reducible refine (cursor_Cursor_Left.calls g235 t261 t262 t263 t264 t265 t266 t267 w _ ?side1 ?side2 A19.out).mono ?_); (case side1 => repeat (first | (with_reducible first | exact HI235.out | apply IsS71.alloc | apply IsS71.drewN | apply IsS71.drew | apply IsS71.set_0 | apply IsS71.set_1 | apply IsS71.set_2) | exact HI235.out)); (case side2 => repeat (first | (with_reducible first | exact HB.out | apply below_alloc | apply pw_below_drewN | apply below_drew1 | refine below_set ?_ (IsS71.ge HI235.out)) | exact HB.out)); rintro e w22 ⟨rfl, hi, hb, hk⟩; have n0_ := Aside0.mk (hb); have n1_ := Aside0.mk (hi); clear HB; clear HI235; have HB := n0_; have HI235 := n1_; clear n0_ n1_; (try clear hb); (try clear hb2); (try clear hk); (try clear hi)))
        go_meet
        case rel => exact ⟨_, (true), (by first | rfl | (simp; done) | (simp [*]; done)), H', ⟨by first | omega | exact Nat.le_refl _⟩, ⟨by repeat (first | (with_reducible first | exact HB.out | apply below_alloc | apply pw_below_drewN | apply below_drew1 | refine below_set ?_ (IsS71.ge HI235.out)) | exact HB.out)⟩⟩
      · rw [if_neg c20] at H
        have c20b0 : decide (0 < t264) = false := decide_eq_false c20
        clear c20
        by_cases c23 : t236 = 1
        · rw [if_pos c23] at H
          have c23b0 : (t236 == 1) = true := beq_iff_eq.mpr c23
          have c23b1 : (t236 != 1) = false := bne_eq_false_iff_eq.mpr c23
          clear c23
          by_cases c24 : t249 = 0
          · rw [if_pos c24] at H
            have c24b0 : (t249 == 0) = true := beq_iff_eq.mpr c24
            have c24b1 : (t249 != 0) = false := bne_eq_false_iff_eq.mpr c24
            clear c24
            have H' := Aside0.mk H
            clear H
            go_wp2_with (first | ((with_reducible refine gate_callee (f := 22) rfl ?_); refine goesL_ (some 35) rfl rfl Tryd.func22 (by kernel_rfl) rfl #[.pointer (some ⟨g235, 0, none⟩)] rfl (by (try simp only [List.map_toArray, List.map_cons, List.map_nil]); first | done | rfl | (simp only [List.length_drop, List.length_take]; rfl)) ?_; (with_reducible refine (cursor_Cursor_Err.calls g235 t255 t256 t257 t260 t261 t262 t263 w _ ?side1 ?side2 A17.out).mono ?_); (case side1 => repeat (first | (with_reducible first | exact HI235.out | apply IsS71.alloc | apply IsS71.drewN | apply IsS71.drew | apply IsS71.set_0 | apply IsS71.set_1 | apply IsS71.set_2) | exact HI235.out)); (case side2 => repeat (first | (with_reducible first | exact HB.out | apply below_alloc | apply pw_below_drewN | apply below_drew1 | refine below_set ?_ (IsS71.ge HI235.out)) | exact HB.out)); rintro e w25 ⟨rfl, hi, hb, hk⟩; refine ⟨_, rfl, ?_⟩; have n0_ := Aside0.mk (hb); have n1_ := Aside0.mk (hi); clear HB; clear HI235; have HB := n0_; have HI235 := n1_; clear n0_ n1_; (try clear hb); (try clear hb2); (try clear hk); (try clear hi)) | (go_at_call 21; (with_reducible refine (cursor_Cursor_Left.calls g235 t261 t262 t263 t264 t265 t266 t267 w _ ?side1 ?side2 A19.out).mono ?_); (case side1 => repeat (first | (with_reducible first | exact HI235.out | apply IsS71.alloc | apply IsS71.drewN | apply IsS71.drew | apply IsS71.set_0 | apply IsS71.set_1 | apply IsS71.set_2) | exact HI235.out)); (case side2 => repeat (first | (with_reducible first | exact HB.out | apply below_alloc | apply pw_below_drewN | apply below_drew1 | refine below_set ?_ (IsS71.ge HI235.out)) | exact HB.out)); rintro e w26 ⟨rfl, hi, hb, hk⟩; have n0_ := Aside0.mk (hb); have n1_ := Aside0.mk (hi); clear HB; clear HI235; have HB := n0_; have HI235 := n1_; clear n0_ n1_; (try clear hb); (try clear hb2); (try clear hk); (try clear hi)))
            go_meet
            case rel => exact ⟨_, ((t259 != 0)), (by first | rfl | (simp; done) | (simp [*]; done)), H', ⟨by first | omega | exact Nat.le_refl _⟩, ⟨by repeat (first | (with_reducible first | exact HB.out | apply below_alloc | apply pw_below_drewN | apply below_drew1 | refine below_set ?_ (IsS71.ge HI235.out)) | exact HB.out)⟩⟩
          · rw [if_neg c24] at H
            have c24b0 : (t249 == 0) = false := beq_eq_false_iff_ne.mpr c24
            have c24b1 : (t249 != 0) = true := bne_iff_ne.mpr c24
            have H' := Aside0.mk H
            clear H
            go_wp2_with (first | ((with_reducible refine gate_callee (f := 22) rfl ?_); refine goesL_ (some 35) rfl rfl Tryd.func22 (by kernel_rfl) rfl #[.pointer (some ⟨g235, 0, none⟩)] rfl (by (try simp only [List.map_toArray, List.map_cons, List.map_nil]); first | done | rfl | (simp only [List.length_drop, List.length_take]; rfl)) ?_; (with_reducible refine (cursor_Cursor_Err.calls g235 t255 t256 t257 t260 t261 t262 t263 w _ ?side1 ?side2 A17.out).mono ?_); (case side1 => repeat (first | (with_reducible first | exact HI235.out | apply IsS71.alloc | apply IsS71.drewN | apply IsS71.drew | apply IsS71.set_0 | apply IsS71.set_1 | apply IsS71.set_2) | exact HI235.out)); (case side2 => repeat (first | (with_reducible first | exact HB.out | apply below_alloc | apply pw_below_drewN | apply below_drew1 | refine below_set ?_ (IsS71.ge HI235.out)) | exact HB.out)); rintro e w27 ⟨rfl, hi, hb, hk⟩; refine ⟨_, rfl, ?_⟩; have n0_ := Aside0.mk (hb); have n1_ := Aside0.mk (hi); clear HB; clear HI235; have HB := n0_; have HI235 := n1_; clear n0_ n1_; (try clear hb); (try clear hb2); (try clear hk); (try clear hi)) | (go_at_call 21; (with_reducible refine (cursor_Cursor_Left.calls g235 t261 t262 t263 t264 t265 t266 t267 w _ ?side1 ?side2 A19.out).mono ?_); (case side1 => repeat (first | (with_reducible first | exact HI235.out | apply IsS71.alloc | apply IsS71.drewN | apply IsS71.drew | apply IsS71.set_0 | apply IsS71.set_1 | apply IsS71.set_2) | exact HI235.out)); (case side2 => repeat (first | (with_reducible first | exact HB.out | apply below_alloc | apply pw_below_drewN | apply below_drew1 | refine below_set ?_ (IsS71.ge HI235.out)) | exact HB.out)); rintro e w28 ⟨rfl, hi, hb, hk⟩; have n0_ := Aside0.mk (hb); have n1_ := Aside0.mk (hi); clear HB; clear HI235; have HB := n0_; have HI235 := n1_; clear n0_ n1_; (try clear hb); (try clear hb2); (try clear hk); (try clear hi)))
            go_meet
            case rel => exact ⟨_, (true), (by first | rfl | (simp; done) | (simp [*]; done)), H', ⟨by first | omega | exact Nat.le_refl _⟩, ⟨by repeat (first | (with_reducible first | exact HB.out | apply below_alloc | apply pw_below_drewN | apply below_drew1 | refine below_set ?_ (IsS71.ge HI235.out)) | exact HB.out)⟩⟩
        · rw [if_neg c23] at H
          have c23b0 : (t236 == 1) = false := beq_eq_false_iff_ne.mpr c23
          have c23b1 : (t236 != 1) = true := bne_iff_ne.mpr c23
          have H' := Aside0.mk H
          clear H
          go_wp2_with (first | ((with_reducible refine gate_callee (f := 22) rfl ?_); refine goesL_ (some 35) rfl rfl Tryd.func22 (by kernel_rfl) rfl #[.pointer (some ⟨g235, 0, none⟩)] rfl (by (try simp only [List.map_toArray, List.map_cons, List.map_nil]); first | done | rfl | (simp only [List.length_drop, List.length_take]; rfl)) ?_; (with_reducible refine (cursor_Cursor_Err.calls g235 t255 t256 t257 t260 t261 t262 t263 w _ ?side1 ?side2 A17.out).mono ?_); (case side1 => repeat (first | (with_reducible first | exact HI235.out | apply IsS71.alloc | apply IsS71.drewN | apply IsS71.drew | apply IsS71.set_0 | apply IsS71.set_1 | apply IsS71.set_2) | exact HI235.out)); (case side2 => repeat (first | (with_reducible first | exact HB.out | apply below_alloc | apply pw_below_drewN | apply below_drew1 | refine below_set ?_ (IsS71.ge HI235.out)) | exact HB.out)); rintro e w29 ⟨rfl, hi, hb, hk⟩; refine ⟨_, rfl, ?_⟩; have n0_ := Aside0.mk (hb); have n1_ := Aside0.mk (hi); clear HB; clear HI235; have HB := n0_; have HI235 := n1_; clear n0_ n1_; (try clear hb); (try clear hb2); (try clear hk); (try clear hi)) | (go_at_call 21; (with_reducible refine (cursor_Cursor_Left.calls g235 t261 t262 t263 t264 t265 t266 t267 w _ ?side1 ?side2 A19.out).mono ?_); (case side1 => repeat (first | (with_reducible first | exact HI235.out | apply IsS71.alloc | apply IsS71.drewN | apply IsS71.drew | apply IsS71.set_0 | apply IsS71.set_1 | apply IsS71.set_2) | exact HI235.out)); (case side2 => repeat (first | (with_reducible first | exact HB.out | apply below_alloc | apply pw_below_drewN | apply below_drew1 | refine below_set ?_ (IsS71.ge HI235.out)) | exact HB.out)); rintro e w30 ⟨rfl, hi, hb, hk⟩; have n0_ := Aside0.mk (hb); have n1_ := Aside0.mk (hi); clear HB; clear HI235; have HB := n0_; have HI235 := n1_; clear n0_ n1_; (try clear hb); (try clear hb2); (try clear hk); (try clear hi)))
          go_meet
          case rel => exact ⟨_, (true), (by first | rfl | (simp; done) | (simp [*]; done)), H', ⟨by first | omega | exact Nat.le_refl _⟩, ⟨by repeat (first | (with_reducible first | exact HB.out | apply below_alloc | apply pw_below_drewN | apply below_drew1 | refine below_set ?_ (IsS71.ge HI235.out)) | exact HB.out)⟩⟩
    · rw [if_neg c18] at H
      have c18b0 : (t260 == 0) = false := beq_eq_false_iff_ne.mpr c18
      have c18b1 : (t260 != 0) = true := bne_iff_ne.mpr c18
      (first | rw [c18b0] | (simp only [i64_w, i32_w]; rw [c18b0]) | skip)
      have H' := Aside0.mk H
      clear H
      go_wp2_with (first | ((with_reducible refine gate_callee (f := 22) rfl ?_); refine goesL_ (some 35) rfl rfl Tryd.func22 (by kernel_rfl) rfl #[.pointer (some ⟨g235, 0, none⟩)] rfl (by (try simp only [List.map_toArray, List.map_cons, List.map_nil]); first | done | rfl | (simp only [List.length_drop, List.length_take]; rfl)) ?_; (with_reducible refine (cursor_Cursor_Err.calls g235 t255 t256 t257 t260 t261 t262 t263 w _ ?side1 ?side2 A17.out).mono ?_); (case side1 => repeat (first | (with_reducible first | exact HI235.out | apply IsS71.alloc | apply IsS71.drewN | apply IsS71.drew | apply IsS71.set_0 | apply IsS71.set_1 | apply IsS71.set_2) | exact HI235.out)); (case side2 => repeat (first | (with_reducible first | exact HB.out | apply below_alloc | apply pw_below_drewN | apply below_drew1 | refine below_set ?_ (IsS71.ge HI235.out)) | exact HB.out)); rintro e w31 ⟨rfl, hi, hb, hk⟩; refine ⟨_, rfl, ?_⟩; have n0_ := Aside0.mk (hb); have n1_ := Aside0.mk (hi); clear HB; clear HI235; have HB := n0_; have HI235 := n1_; clear n0_ n1_; (try clear hb); (try clear hb2); (try clear hk); (try clear hi)))
      go_meet
      case rel => exact ⟨_, (true), (by first | rfl | (simp; done) | (simp [*]; done)), H', ⟨by first | omega | exact Nat.le_refl _⟩, ⟨by repeat (first | (with_reducible first | exact HB.out | apply below_alloc | apply pw_below_drewN | apply below_drew1 | refine below_set ?_ (IsS71.ge HI235.out)) | exact HB.out)⟩⟩
  case rest =>
    clear HC10
    try clear c1
    try clear c2
    try clear p2
    try clear c3
    try clear p6
    try clear c14
    try clear c17
    try clear c18
    try clear c18b0
    try clear c18b1
    try clear c20
    try clear c20b0
    try clear c22
    try clear c23
    try clear c23b0
    try clear c23b1
    try clear c24
    try clear c24b0
    try clear c24b1
    try clear c31
    obtain ⟨kq, x33_9, rfl, HA, HJ9, HB⟩ := hcut
    cases kq with
    | zero => exact absurd HA.out (by simp [field_ParseOwner.j0])
    | succ kj9 =>
      have H := HA.out
      clear HA
      simp only [field_ParseOwner.j0] at H
      by_cases c32 : x33_9 = true
      · subst c32
        have H1 : (some (0, 0, 24)) = some (r1, r2, r3) := by rw [if_pos rfl] at H; exact H
        clear H
        have H := H1
        clear H1
        simp only [Option.some.injEq, Prod.mk.injEq] at H
        obtain ⟨rfl, rfl, rfl⟩ := H
        go_wp2
        go_ret3
        exact ⟨by first | rfl | (simp [errW_none, errW_some] <;> rfl) | (simp [*, errW_none, errW_some] <;> rfl), by repeat (first | (with_reducible first | exact HB.out | apply below_alloc | apply pw_below_drewN | apply below_drew1) | exact HB.out)⟩
      · replace c32 := Bool.eq_false_iff.mpr c32
        subst c32
        have H1 : (if t248 > 4294967295 then (some (0, 0, 8)) else (if t258 > 4294967295 then (some (0, 0, 8)) else (some ((t248) % 4294967296, (t258) % 4294967296, 0)))) = some (r1, r2, r3) := by rw [if_neg (show ¬ (false = true) by decide)] at H; exact H
        clear H
        have H := H1
        clear H1
        by_cases c33 : t248 > 4294967295
        · rw [if_pos c33] at H
          have c33b0 : decide (4294967295 < t248) = true := decide_eq_true c33
          clear c33
          simp only [Option.some.injEq, Prod.mk.injEq] at H
          obtain ⟨rfl, rfl, rfl⟩ := H
          go_wp2
          go_ret3
          exact ⟨by first | rfl | (simp [errW_none, errW_some] <;> rfl) | (simp [*, errW_none, errW_some] <;> rfl), by repeat (first | (with_reducible first | exact HB.out | apply below_alloc | apply pw_below_drewN | apply below_drew1) | exact HB.out)⟩
        · rw [if_neg c33] at H
          have c33b0 : decide (4294967295 < t248) = false := decide_eq_false c33
          clear c33
          by_cases c34 : t258 > 4294967295
          · rw [if_pos c34] at H
            have c34b0 : decide (4294967295 < t258) = true := decide_eq_true c34
            clear c34
            simp only [Option.some.injEq, Prod.mk.injEq] at H
            obtain ⟨rfl, rfl, rfl⟩ := H
            go_wp2
            go_ret3
            exact ⟨by first | rfl | (simp [errW_none, errW_some] <;> rfl) | (simp [*, errW_none, errW_some] <;> rfl), by repeat (first | (with_reducible first | exact HB.out | apply below_alloc | apply pw_below_drewN | apply below_drew1) | exact HB.out)⟩
          · rw [if_neg c34] at H
            have c34b0 : decide (4294967295 < t258) = false := decide_eq_false c34
            clear c34
            simp only [Option.some.injEq, Prod.mk.injEq] at H
            obtain ⟨rfl, rfl, rfl⟩ := H
            go_wp2
            go_ret3
            exact ⟨by first | rfl | (simp [errW_none, errW_some] <;> rfl) | (simp [*, errW_none, errW_some] <;> rfl), by repeat (first | (with_reducible first | exact HB.out | apply below_alloc | apply pw_below_drewN | apply below_drew1) | exact HB.out)⟩

-- NOT PRINTED: function 4 (portmanteaulaw14_FieldBack)

end Go.Proofs.YtloojhhjljneeaaDoor.P
