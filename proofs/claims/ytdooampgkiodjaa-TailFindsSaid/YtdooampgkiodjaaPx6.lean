import Derived.Test.YtdooampgkiodjaaPx0
import Derived.Test.YtdooampgkiodjaaPx2
import Derived.Test.YtdooampgkiodjaaPx3
import Derived.Test.YtdooampgkiodjaaPx4
import Derived.Test.YtdooampgkiodjaaPx5
namespace Go.Proofs.Ytdooampgkiodjaa.P
open Go.RowKit Go.Proofs.YtdooampgkiodjaaW.PrintWords Go.Proofs.YtdooampgkiodjaaW.PrintLast Go.Proofs.YtdooampgkiodjaaW.PrintMore
attribute [local go_sem] max2_int min2_int max_two min_two max_three min_three max_four min_four
set_option linter.unusedVariables false
set_option linter.unusedSimpArgs false
def tail_wide.j0 : Nat → Int → Bool → ByteArray → Int → Int → Option (Int × Int × Int × Int × Int × Int × Int × ByteArray × Bool)
  | 0, _, _, _, _, _ => none
  | k + 1, x1, x35, x189000, x189001, x189002 => if x35 = true then (some (0, 0, 0, 0, 0, 0, 0, (⟨#[]⟩ : ByteArray), false)) else ((cursor_Cursor_Take.f x189000 x189001 x189002 4).bind fun bt197 => ((cursor_Cursor_Four.f k bt197.2.1 bt197.2.2.1 bt197.2.2.2).bind fun bt201 => ((cursor_Cursor_Four.f k bt201.2.1 bt201.2.2.1 bt201.2.2.2).bind fun bt205 => ((cursor_Cursor_Eight.f k bt205.2.1 bt205.2.2.1 bt205.2.2.2).bind fun bt209 => ((cursor_Cursor_Eight.f k bt209.2.1 bt209.2.2.1 bt209.2.2.2).bind fun bt213 => ((cursor_Cursor_Eight.f k bt213.2.1 bt213.2.2.1 bt213.2.2.2).bind fun bt217 => ((cursor_Cursor_Eight.f k bt217.2.1 bt217.2.2.1 bt217.2.2.2).bind fun bt221 => ((cursor_Cursor_Err.f bt221.2.1 bt221.2.2.1 bt221.2.2.2).bind fun bt226 => (if bt226.1 = 0 then (if (IntKind.u64.wrap (bt201.1)) = 0 then (if (IntKind.u64.wrap (bt205.1)) = 0 then (some (IntKind.u64.wrap (x1), IntKind.u64.wrap (bt201.1), IntKind.u64.wrap (bt205.1), bt209.1, bt213.1, bt217.1, bt221.1, (⟨#[]⟩ : ByteArray), (bt209.1 == bt213.1))) else (some (IntKind.u64.wrap (x1), IntKind.u64.wrap (bt201.1), IntKind.u64.wrap (bt205.1), bt209.1, bt213.1, bt217.1, bt221.1, (⟨#[]⟩ : ByteArray), false))) else (some (IntKind.u64.wrap (x1), IntKind.u64.wrap (bt201.1), IntKind.u64.wrap (bt205.1), bt209.1, bt213.1, bt217.1, bt221.1, (⟨#[]⟩ : ByteArray), false))) else (some (IntKind.u64.wrap (x1), IntKind.u64.wrap (bt201.1), IntKind.u64.wrap (bt205.1), bt209.1, bt213.1, bt217.1, bt221.1, (⟨#[]⟩ : ByteArray), false)))))))))))
def tail_wide.f (k : Nat) (a0 : ByteArray) (a1 : Int) (a2 : Int) : Option (Int × Int × Int × Int × Int × Int × Int × ByteArray × Bool) := if 0 ≤ a1 then (if a1 ≤ a2 then (if a2 ≤ (a0.size : Int) then ((cursor_Over.f (a0.extract (a1 : Int).toNat (a2 : Int).toNat)).bind fun bt185 => ((cursor_Cursor_Take.f bt185.1 bt185.2.1 bt185.2.2 4).bind fun bt189 => ((cursor_Cursor_Eight.f k bt189.2.1 bt189.2.2.1 bt189.2.2.2).bind fun bt193 => (if bt189.1.toList = ([80, 75, 6, 6] : List UInt8) then (if bt193.1 < 44 then (tail_wide.j0 k a1 true bt193.2.1 bt193.2.2.1 bt193.2.2.2) else (tail_wide.j0 k a1 (bt193.1 != (IntKind.u64.wrap (wrap64 ((wrap64 (a2 - a1)) - 12)))) bt193.2.1 bt193.2.2.1 bt193.2.2.2)) else (tail_wide.j0 k a1 true bt193.2.1 bt193.2.2.1 bt193.2.2.2))))) else (none)) else (none)) else (none)
theorem tail_wide.mono_l : ∀ k, (∀ y0 y1 y2 y3 y4, LeO (tail_wide.j0 k y0 y1 y2 y3 y4) (tail_wide.j0 (k + 1) y0 y1 y2 y3 y4))
  | 0 => fun _ _ _ _ _ r h => by simp [tail_wide.j0] at h
  | k + 1 => by
    have ih0 := tail_wide.mono_l k
    · intro y0 y1 y2 y3 y4
      unfold tail_wide.j0
      repeat' first
      | (with_reducible exact ih0 _ _ _ _ _)
      | (with_reducible exact cursor_Cursor_Eight.mono _ _ _ _)
      | (with_reducible exact cursor_Cursor_Four.mono _ _ _ _)
      | (with_reducible exact LeO.refl _)
      | (with_reducible exact LeO.none _)
      | (with_reducible refine LeO.ite ?_ ?_)
      | (with_reducible refine LeO.bind ?_ (fun _ => ?_))
      | exact ih0 _ _ _ _ _
      | exact cursor_Cursor_Eight.mono _ _ _ _
      | exact cursor_Cursor_Four.mono _ _ _ _
      | exact LeO.none _
      | refine LeO.ite ?_ ?_
      | refine LeO.bind ?_ (fun _ => ?_)
theorem tail_wide.mono : ∀ a0 a1 a2 k, LeO (tail_wide.f k a0 a1 a2) (tail_wide.f (k + 1) a0 a1 a2) := by
  intro a0 a1 a2 k
  have ih0 := tail_wide.mono_l k
  unfold tail_wide.f
  repeat' first
      | (with_reducible exact ih0 _ _ _ _ _)
      | (with_reducible exact cursor_Cursor_Eight.mono _ _ _ _)
      | (with_reducible exact cursor_Cursor_Four.mono _ _ _ _)
      | (with_reducible exact LeO.refl _)
      | (with_reducible exact LeO.none _)
      | (with_reducible refine LeO.ite ?_ ?_)
      | (with_reducible refine LeO.bind ?_ (fun _ => ?_))
      | exact ih0 _ _ _ _ _
      | exact cursor_Cursor_Eight.mono _ _ _ _
      | exact cursor_Cursor_Four.mono _ _ _ _
      | exact LeO.none _
      | refine LeO.ite ?_ ?_
      | refine LeO.bind ?_ (fun _ => ?_)
def tail_wide.T7 : Bool × List (List Nat × List Nat) := (true, [([], []), ([], []), ([1], [1]), ([2], [2]), ([3, 2], [3]), ([4], [4]), ([5, 4], [4, 5]), ([6, 4], [4, 6]), ([4, 7], [4, 7]), ([8, 4], [8]), ([9], [9]), ([10, 9], [9, 10]), ([11, 9], [9, 11]), ([9, 12], [9, 12]), ([13, 9], [13]), ([14], [14]), ([15, 14], [14, 15]), ([14], [14]), ([17, 14], [14, 17]), ([16, 18, 14], [14, 16, 18]), ([14, 19], [14, 19]), ([0, 14, 0], [0]), ([20, 21, 0, 1, 2, 3, 4, 5, 6, 7, 8, 9, 10, 11, 12, 13, 14, 15, 16, 17, 18, 19, 20, 21], [20])])
def tail_wide.B7 : List Nat := [0, 0, 2, 6, 14, 30, 62, 126, 254, 510, 1022, 2046, 4094, 8190, 16382, 32766, 65534, 32766, 163838, 524286, 1048574, 32767, 4194303]
theorem tail_wide.tab7 : rtab .any (opsOf Try.f18 7) = tail_wide.T7 := by kernel_rfl
theorem tail_wide.bits7 : waitsOk tail_wide.T7.2 tail_wide.B7 = true := by kernel_rfl
set_option maxHeartbeats 8000000 in
set_option maxRecDepth 100000 in
theorem tail_wide.calls (k : Nat) (a0 : ByteArray) (a1 : Int) (a2 : Int) (r1 : Int) (r2 : Int) (r3 : Int) (r4 : Int) (r5 : Int) (r6 : Int) (r7 : Int) (r8 : ByteArray) (r9 : Bool) (w : World) (h : tail_wide.f k a0 a1 a2 = some (r1, r2, r3, r4, r5, r6, r7, r8, r9)) :
    Calls Try.prog 18 #[.string a0, .int .i64 a1, .int .i64 a2] w fun e w' => e = .returned (.tuple #[.agg #[.int .u64 r1, .int .u64 r2, .int .u64 r3, .int .u64 r4, .int .u64 r5, .int .u64 r6, .int .u64 r7, .string r8], .bool r9]) ∧ Below w.heap.size w w' := by
  have hu47 := Try.underlying47
  have HB := Aside0.mk (Below.refl w.heap.size w)
  have H : (if 0 ≤ a1 then (if a1 ≤ a2 then (if a2 ≤ (a0.size : Int) then ((cursor_Over.f (a0.extract (a1 : Int).toNat (a2 : Int).toNat)).bind fun bt185 => ((cursor_Cursor_Take.f bt185.1 bt185.2.1 bt185.2.2 4).bind fun bt189 => ((cursor_Cursor_Eight.f k bt189.2.1 bt189.2.2.1 bt189.2.2.2).bind fun bt193 => (if bt189.1.toList = ([80, 75, 6, 6] : List UInt8) then (if bt193.1 < 44 then (tail_wide.j0 k a1 true bt193.2.1 bt193.2.2.1 bt193.2.2.2) else (tail_wide.j0 k a1 (bt193.1 != (IntKind.u64.wrap (wrap64 ((wrap64 (a2 - a1)) - 12)))) bt193.2.1 bt193.2.2.1 bt193.2.2.2)) else (tail_wide.j0 k a1 true bt193.2.1 bt193.2.2.1 bt193.2.2.2))))) else (none)) else (none)) else (none)) = some (r1, r2, r3, r4, r5, r6, r7, r8, r9) := h
  clear h
  by_cases c4 : 0 ≤ a1
  · rw [if_pos c4] at H
    have c4b0 := eq_true c4
    have c4b1 : decide (0 ≤ a1) = true := decide_eq_true c4
    clear c4
    by_cases c5 : a1 ≤ a2
    · rw [if_pos c5] at H
      have c5b0 := eq_true c5
      have c5b1 : decide (a1 ≤ a2) = true := decide_eq_true c5
      clear c5
      by_cases c6 : a2 ≤ (a0.size : Int)
      · rw [if_pos c6] at H
        have c6b0 := eq_true c6
        have c6b1 : decide (a2 ≤ (a0.size : Int)) = true := decide_eq_true c6
        clear c6
        replace H := Option.bind_eq_some_iff.mp H
        obtain ⟨⟨t185, t186, t187⟩, A70, H⟩ := H
        replace H : ((cursor_Cursor_Take.f t185 t186 t187 4).bind fun bt189 => ((cursor_Cursor_Eight.f k bt189.2.1 bt189.2.2.1 bt189.2.2.2).bind fun bt193 => (if bt189.1.toList = ([80, 75, 6, 6] : List UInt8) then (if bt193.1 < 44 then (tail_wide.j0 k a1 true bt193.2.1 bt193.2.2.1 bt193.2.2.2) else (tail_wide.j0 k a1 (bt193.1 != (IntKind.u64.wrap (wrap64 ((wrap64 (a2 - a1)) - 12)))) bt193.2.1 bt193.2.2.1 bt193.2.2.2)) else (tail_wide.j0 k a1 true bt193.2.1 bt193.2.2.1 bt193.2.2.2)))) = some (r1, r2, r3, r4, r5, r6, r7, r8, r9) := H
        have A7 := Aside0.mk A70
        clear A70
        replace H := Option.bind_eq_some_iff.mp H
        obtain ⟨⟨t189, t190, t191, t192⟩, A80, H⟩ := H
        replace H : ((cursor_Cursor_Eight.f k t190 t191 t192).bind fun bt193 => (if t189.toList = ([80, 75, 6, 6] : List UInt8) then (if bt193.1 < 44 then (tail_wide.j0 k a1 true bt193.2.1 bt193.2.2.1 bt193.2.2.2) else (tail_wide.j0 k a1 (bt193.1 != (IntKind.u64.wrap (wrap64 ((wrap64 (a2 - a1)) - 12)))) bt193.2.1 bt193.2.2.1 bt193.2.2.2)) else (tail_wide.j0 k a1 true bt193.2.1 bt193.2.2.1 bt193.2.2.2))) = some (r1, r2, r3, r4, r5, r6, r7, r8, r9) := H
        have A8 := Aside0.mk A80
        clear A80
        replace H := Option.bind_eq_some_iff.mp H
        obtain ⟨⟨t193, t194, t195, t196⟩, A90, H⟩ := H
        replace H : (if t189.toList = ([80, 75, 6, 6] : List UInt8) then (if t193 < 44 then (tail_wide.j0 k a1 true t194 t195 t196) else (tail_wide.j0 k a1 (t193 != (IntKind.u64.wrap (wrap64 ((wrap64 (a2 - a1)) - 12)))) t194 t195 t196)) else (tail_wide.j0 k a1 true t194 t195 t196)) = some (r1, r2, r3, r4, r5, r6, r7, r8, r9) := H
        have A9 := Aside0.mk A90
        clear A90
        have HC10 := Aside0.mk H
        clear H
        go_enter Try.func18, Try.ntmps18
        go_upto_region 3 with (first | ((with_reducible refine gate_dst (N := 6) rfl ?_); refine box_event ?hg (N := 6) ?hd (cs := #[.int .u64 0, .int .u64 0, .int .u64 0, .int .u64 0, .int .u64 0, .int .u64 0, .int .u64 0, .string (⟨#[]⟩ : ByteArray)]) (t := 47) ?hr ?_; (case hd => rfl); (case hg => rfl); (case hr => first | (go_simp; done) | (go_simp; rfl)); intro gb184 hg w11 hbox hb; have n0_ := Aside0.mk (below_step (by repeat (first | (with_reducible first | exact HB.out | apply below_alloc | apply pw_below_drewN | apply below_drew1) | exact HB.out)) hb); have n1_ := Aside0.mk (hbox); have n2_ := Aside0.mk ((by rw [hg]; exact (below_size (by repeat (first | (with_reducible first | exact HB.out | apply below_alloc | apply pw_below_drewN | apply below_drew1) | exact HB.out))) : w.heap.size ≤ gb184)); have n3_ := Aside0.mk ((by rw [hg]; exact (below_size (by repeat (first | (with_reducible first | exact HB.out | apply below_alloc | apply pw_below_drewN | apply below_drew1) | exact HB.out))) : w.heap.size ≤ gb184)); clear HB; have HB := n0_; have BK184 := n1_; have GW184 := n2_; have GE184 := n3_; clear n0_ n1_ n2_ n3_; clear hb hbox hg) | ((with_reducible refine gate_callee (f := 38) rfl ?_); refine goesL_ (some 16) rfl rfl Try.func38 (by kernel_rfl) rfl #[.string (a0.extract (a1 : Int).toNat (a2 : Int).toNat)] rfl (by (try simp only [List.map_toArray, List.map_cons, List.map_nil]); first | done | rfl | (simp only [List.length_drop, List.length_take]; rfl)) ?_; (with_reducible refine (cursor_Over.calls (a0.extract (a1 : Int).toNat (a2 : Int).toNat) t185 t186 t187 w _ ?side1 A7.out).mono ?_); (case side1 => repeat (first | (with_reducible first | exact HB.out | apply below_alloc | apply pw_below_drewN | apply below_drew1 | refine below_set ?_ GE184.out) | exact HB.out)); rintro e w12 ⟨g188, rfl, hi, hb, hb2⟩; refine ⟨_, rfl, ?_⟩; have n0_ := Aside0.mk (blk_below (g := gb184) (o := .cells #[.int .u64 0, .int .u64 0, .int .u64 0, .int .u64 0, .int .u64 0, .int .u64 0, .int .u64 0, .string (⟨#[]⟩ : ByteArray)] 47 (0, 0)) (by (with_reducible repeat (first | refine blk_drewN ?_ _ | refine blk_drew ?_ | refine blk_alloc ?_ _)); exact BK184.out) hb2); have n1_ := Aside0.mk (hb); have n2_ := Aside0.mk (hi); have n3_ := Aside0.mk (IsS93.ne_blk hi (blk_below (g := gb184) (o := .cells #[.int .u64 0, .int .u64 0, .int .u64 0, .int .u64 0, .int .u64 0, .int .u64 0, .int .u64 0, .string (⟨#[]⟩ : ByteArray)] 47 (0, 0)) (by (with_reducible repeat (first | refine blk_drewN ?_ _ | refine blk_drew ?_ | refine blk_alloc ?_ _)); exact BK184.out) hb2) (by decide)); have n4_ := Aside0.mk (Ne.symm (IsS93.ne_blk hi (blk_below (g := gb184) (o := .cells #[.int .u64 0, .int .u64 0, .int .u64 0, .int .u64 0, .int .u64 0, .int .u64 0, .int .u64 0, .string (⟨#[]⟩ : ByteArray)] 47 (0, 0)) (by (with_reducible repeat (first | refine blk_drewN ?_ _ | refine blk_drew ?_ | refine blk_alloc ?_ _)); exact BK184.out) hb2) (by decide))); clear BK184; clear HB; have BK184 := n0_; have HB := n1_; have HI188 := n2_; have NB188_184 := n3_; have NB184_188 := n4_; clear n0_ n1_ n2_ n3_ n4_; (try clear hb); (try clear hb2); (try clear hk); (try clear hi)) | ((with_reducible refine gate_callee (f := 39) rfl ?_); refine goesL_ (some 18) rfl rfl Try.func39 (by kernel_rfl) rfl #[.pointer (some ⟨g188, 0, none⟩), .int .i64 4] rfl (by (try simp only [List.map_toArray, List.map_cons, List.map_nil]); first | done | rfl | (simp only [List.length_drop, List.length_take]; rfl)) ?_; (with_reducible refine (cursor_Cursor_Take.calls g188 t185 t186 t187 4 t189 t190 t191 t192 w _ ?side1 ?side2 A8.out).mono ?_); (case side1 => repeat (first | (with_reducible first | exact HI188.out | apply IsS93.alloc | apply IsS93.drewN | apply IsS93.drew | apply IsS93.set_0 | apply IsS93.set_1 | apply IsS93.set_2 | refine IsS93.far ?_ NB188_184.out _) | exact HI188.out)); (case side2 => repeat (first | (with_reducible first | exact HB.out | apply below_alloc | apply pw_below_drewN | apply below_drew1 | refine below_set ?_ (IsS93.ge HI188.out) | refine below_set ?_ GE184.out) | exact HB.out)); rintro e w13 ⟨rfl, hi, hb, hk⟩; refine ⟨_, rfl, ?_⟩; have n0_ := Aside0.mk (KeepBut.blk hk (g' := gb184) (o := .cells #[.int .u64 0, .int .u64 0, .int .u64 0, .int .u64 0, .int .u64 0, .int .u64 0, .int .u64 0, .string (⟨#[]⟩ : ByteArray)] 47 (0, 0)) (by (with_reducible repeat (first | refine blk_drewN ?_ _ | refine blk_drew ?_ | refine blk_alloc ?_ _)); exact BK184.out) NB184_188.out (by simp)); have n1_ := Aside0.mk (hb); have n2_ := Aside0.mk (hi); clear BK184; clear HB; clear HI188; have BK184 := n0_; have HB := n1_; have HI188 := n2_; clear n0_ n1_ n2_; (try clear hb); (try clear hb2); (try clear hk); (try clear hi)) | ((with_reducible refine gate_callee (f := 43) rfl ?_); refine goesL_ (some 20) rfl rfl Try.func43 (by kernel_rfl) rfl #[.pointer (some ⟨g188, 0, none⟩)] rfl (by (try simp only [List.map_toArray, List.map_cons, List.map_nil]); first | done | rfl | (simp only [List.length_drop, List.length_take]; rfl)) ?_; (with_reducible refine (cursor_Cursor_Eight.calls k g188 t190 t191 t192 t193 t194 t195 t196 w _ ?side1 ?side2 A9.out).mono ?_); (case side1 => repeat (first | (with_reducible first | exact HI188.out | apply IsS93.alloc | apply IsS93.drewN | apply IsS93.drew | apply IsS93.set_0 | apply IsS93.set_1 | apply IsS93.set_2 | refine IsS93.far ?_ NB188_184.out _) | exact HI188.out)); (case side2 => repeat (first | (with_reducible first | exact HB.out | apply below_alloc | apply pw_below_drewN | apply below_drew1 | refine below_set ?_ (IsS93.ge HI188.out) | refine below_set ?_ GE184.out) | exact HB.out)); rintro e w14 ⟨rfl, hi, hb, hk⟩; refine ⟨_, rfl, ?_⟩; have n0_ := Aside0.mk (KeepBut.blk hk (g' := gb184) (o := .cells #[.int .u64 0, .int .u64 0, .int .u64 0, .int .u64 0, .int .u64 0, .int .u64 0, .int .u64 0, .string (⟨#[]⟩ : ByteArray)] 47 (0, 0)) (by (with_reducible repeat (first | refine blk_drewN ?_ _ | refine blk_drew ?_ | refine blk_alloc ?_ _)); exact BK184.out) NB184_188.out (by simp)); have n1_ := Aside0.mk (hb); have n2_ := Aside0.mk (hi); clear BK184; clear HB; clear HI188; have BK184 := n0_; have HB := n1_; have HI188 := n2_; clear n0_ n1_ n2_; (try clear hb); (try clear hb2); (try clear hk); (try clear hi)))
        (try simp only [Act.put, List.setIfInBounds_toArray, List.set_cons_zero, List.set_cons_succ])
        go_cut [35] (fun v35 wc => ∃ (kq : Nat) (x35_9 : Bool), v35 = .bool x35_9 ∧ Aside0 (tail_wide.j0 kq a1 x35_9 t194 t195 t196 = some (r1, r2, r3, r4, r5, r6, r7, r8, r9)) ∧ Aside0 (kq ≤ k) ∧ Aside0 (wc.heap[gb184]? = some (.cells #[.int .u64 0, .int .u64 0, .int .u64 0, .int .u64 0, .int .u64 0, .int .u64 0, .int .u64 0, .string (⟨#[]⟩ : ByteArray)] 47 (0, 0))) ∧ Aside0 (IsS93 w wc g188 t194 t195 t196) ∧ Aside0 (Below w.heap.size w wc))
        case first =>
          have H := HC10.out
          clear HC10
          by_cases c15 : t189.toList = ([80, 75, 6, 6] : List UInt8)
          · rw [if_pos c15] at H
            have c15b0 : (t189.toList == ([80, 75, 6, 6] : List UInt8)) = true := beq_iff_eq.mpr c15
            have c15b1 : (t189.toList != ([80, 75, 6, 6] : List UInt8)) = false := bne_eq_false_iff_eq.mpr c15
            clear c15
            (first | rw [c15b0] | (simp only [i64_w, i32_w]; rw [c15b0]) | skip)
            by_cases c16 : t193 < 44
            · rw [if_pos c16] at H
              have c16b0 : decide (t193 < 44) = true := decide_eq_true c16
              clear c16
              have H' := Aside0.mk H
              clear H
              go_wp2
              go_meet
              case rel => exact ⟨_, (true), (by first | rfl | (simp; done) | (simp [*]; done)), H', ⟨by first | omega | exact Nat.le_refl _⟩, ⟨by (with_reducible repeat (first | refine blk_drewN ?_ _ | refine blk_drew ?_ | refine blk_alloc ?_ _)); exact BK184.out⟩, ⟨by repeat (first | (with_reducible first | exact HI188.out | apply IsS93.alloc | apply IsS93.drewN | apply IsS93.drew | apply IsS93.set_0 | apply IsS93.set_1 | apply IsS93.set_2 | refine IsS93.far ?_ NB188_184.out _) | exact HI188.out)⟩, ⟨by repeat (first | (with_reducible first | exact HB.out | apply below_alloc | apply pw_below_drewN | apply below_drew1 | refine below_set ?_ (IsS93.ge HI188.out) | refine below_set ?_ GE184.out) | exact HB.out)⟩⟩
            · rw [if_neg c16] at H
              have c16b0 : decide (t193 < 44) = false := decide_eq_false c16
              clear c16
              have H' := Aside0.mk H
              clear H
              go_wp2
              go_meet
              case rel => exact ⟨_, ((t193 != (IntKind.u64.wrap (wrap64 ((wrap64 (a2 - a1)) - 12))))), (by first | rfl | (simp; done) | (simp [*]; done)), H', ⟨by first | omega | exact Nat.le_refl _⟩, ⟨by (with_reducible repeat (first | refine blk_drewN ?_ _ | refine blk_drew ?_ | refine blk_alloc ?_ _)); exact BK184.out⟩, ⟨by repeat (first | (with_reducible first | exact HI188.out | apply IsS93.alloc | apply IsS93.drewN | apply IsS93.drew | apply IsS93.set_0 | apply IsS93.set_1 | apply IsS93.set_2 | refine IsS93.far ?_ NB188_184.out _) | exact HI188.out)⟩, ⟨by repeat (first | (with_reducible first | exact HB.out | apply below_alloc | apply pw_below_drewN | apply below_drew1 | refine below_set ?_ (IsS93.ge HI188.out) | refine below_set ?_ GE184.out) | exact HB.out)⟩⟩
          · rw [if_neg c15] at H
            have c15b0 : (t189.toList == ([80, 75, 6, 6] : List UInt8)) = false := beq_eq_false_iff_ne.mpr c15
            have c15b1 : (t189.toList != ([80, 75, 6, 6] : List UInt8)) = true := bne_iff_ne.mpr c15
            (first | rw [c15b0] | (simp only [i64_w, i32_w]; rw [c15b0]) | skip)
            have H' := Aside0.mk H
            clear H
            go_wp2
            go_meet
            case rel => exact ⟨_, (true), (by first | rfl | (simp; done) | (simp [*]; done)), H', ⟨by first | omega | exact Nat.le_refl _⟩, ⟨by (with_reducible repeat (first | refine blk_drewN ?_ _ | refine blk_drew ?_ | refine blk_alloc ?_ _)); exact BK184.out⟩, ⟨by repeat (first | (with_reducible first | exact HI188.out | apply IsS93.alloc | apply IsS93.drewN | apply IsS93.drew | apply IsS93.set_0 | apply IsS93.set_1 | apply IsS93.set_2 | refine IsS93.far ?_ NB188_184.out _) | exact HI188.out)⟩, ⟨by repeat (first | (with_reducible first | exact HB.out | apply below_alloc | apply pw_below_drewN | apply below_drew1 | refine below_set ?_ (IsS93.ge HI188.out) | refine below_set ?_ GE184.out) | exact HB.out)⟩⟩
        case rest =>
          clear HC10
          try clear c1
          try clear p2
          try clear c3
          try clear c4
          try clear c4b0
          try clear c4b1
          try clear c5
          try clear c5b0
          try clear c5b1
          try clear c6
          try clear c6b0
          try clear c6b1
          try clear p6
          try clear c15
          try clear c15b0
          try clear c15b1
          try clear c16
          try clear c16b0
          obtain ⟨kq, x35_9, rfl, HA, HJ9, BK184, HI188, HB⟩ := hcut
          cases kq with
          | zero => exact absurd HA.out (by simp [tail_wide.j0])
          | succ kj9 =>
            have H := HA.out
            clear HA
            simp only [tail_wide.j0] at H
            by_cases c17 : x35_9 = true
            · subst c17
              have H1 : (some (0, 0, 0, 0, 0, 0, 0, (⟨#[]⟩ : ByteArray), false)) = some (r1, r2, r3, r4, r5, r6, r7, r8, r9) := by rw [if_pos rfl] at H; exact H
              clear H
              have H := H1
              clear H1
              simp only [Option.some.injEq, Prod.mk.injEq] at H
              obtain ⟨rfl, rfl, rfl, rfl, rfl, rfl, rfl, rfl, rfl⟩ := H
              have hnb18 := NB184_188.out
              have hnc18 := NB188_184.out
              have hcz19_0 : wc.cell? ⟨gb184, 0, none⟩ = some (.int .u64 0) := (blk_cell BK184.out 0).trans rfl
              have hcz19_1 : wc.cell? ⟨gb184, 1, none⟩ = some (.int .u64 0) := (blk_cell BK184.out 1).trans rfl
              have hcz19_2 : wc.cell? ⟨gb184, 2, none⟩ = some (.int .u64 0) := (blk_cell BK184.out 2).trans rfl
              have hcz19_3 : wc.cell? ⟨gb184, 3, none⟩ = some (.int .u64 0) := (blk_cell BK184.out 3).trans rfl
              have hcz19_4 : wc.cell? ⟨gb184, 4, none⟩ = some (.int .u64 0) := (blk_cell BK184.out 4).trans rfl
              have hcz19_5 : wc.cell? ⟨gb184, 5, none⟩ = some (.int .u64 0) := (blk_cell BK184.out 5).trans rfl
              have hcz19_6 : wc.cell? ⟨gb184, 6, none⟩ = some (.int .u64 0) := (blk_cell BK184.out 6).trans rfl
              have hcz19_7 : wc.cell? ⟨gb184, 7, none⟩ = some (.string (⟨#[]⟩ : ByteArray)) := (blk_cell BK184.out 7).trans rfl
              have hfz19_0 := blk_frozen BK184.out 0
              have hfz19_1 := blk_frozen BK184.out 1
              have hfz19_2 := blk_frozen BK184.out 2
              have hfz19_3 := blk_frozen BK184.out 3
              have hfz19_4 := blk_frozen BK184.out 4
              have hfz19_5 := blk_frozen BK184.out 5
              have hfz19_6 := blk_frozen BK184.out 6
              have hfz19_7 := blk_frozen BK184.out 7
              go_wp2
              refine bodyPost_ret (results_ct rfl _ _ gb184 47 #[.int .u64 0, .int .u64 0, .int .u64 0, .int .u64 0, .int .u64 0, .int .u64 0, .int .u64 0, .string (⟨#[]⟩ : ByteArray)] (0, 0) _ rfl (by (with_reducible repeat (first | refine blk_drewN ?_ _ | refine blk_drew ?_ | refine blk_alloc ?_ _)); refine blk_put (cs := #[.int .u64 0, .int .u64 0, .int .u64 0, .int .u64 0, .int .u64 0, .int .u64 0, .int .u64 0, .string (⟨#[]⟩ : ByteArray)]) ?_ 7 _ rfl; (with_reducible repeat (first | refine blk_drewN ?_ _ | refine blk_drew ?_ | refine blk_alloc ?_ _)); refine blk_put (cs := #[.int .u64 0, .int .u64 0, .int .u64 0, .int .u64 0, .int .u64 0, .int .u64 0, .int .u64 0, .string (⟨#[]⟩ : ByteArray)]) ?_ 6 _ rfl; (with_reducible repeat (first | refine blk_drewN ?_ _ | refine blk_drew ?_ | refine blk_alloc ?_ _)); refine blk_put (cs := #[.int .u64 0, .int .u64 0, .int .u64 0, .int .u64 0, .int .u64 0, .int .u64 0, .int .u64 0, .string (⟨#[]⟩ : ByteArray)]) ?_ 5 _ rfl; (with_reducible repeat (first | refine blk_drewN ?_ _ | refine blk_drew ?_ | refine blk_alloc ?_ _)); refine blk_put (cs := #[.int .u64 0, .int .u64 0, .int .u64 0, .int .u64 0, .int .u64 0, .int .u64 0, .int .u64 0, .string (⟨#[]⟩ : ByteArray)]) ?_ 4 _ rfl; (with_reducible repeat (first | refine blk_drewN ?_ _ | refine blk_drew ?_ | refine blk_alloc ?_ _)); refine blk_put (cs := #[.int .u64 0, .int .u64 0, .int .u64 0, .int .u64 0, .int .u64 0, .int .u64 0, .int .u64 0, .string (⟨#[]⟩ : ByteArray)]) ?_ 3 _ rfl; (with_reducible repeat (first | refine blk_drewN ?_ _ | refine blk_drew ?_ | refine blk_alloc ?_ _)); refine blk_put (cs := #[.int .u64 0, .int .u64 0, .int .u64 0, .int .u64 0, .int .u64 0, .int .u64 0, .int .u64 0, .string (⟨#[]⟩ : ByteArray)]) ?_ 2 _ rfl; (with_reducible repeat (first | refine blk_drewN ?_ _ | refine blk_drew ?_ | refine blk_alloc ?_ _)); refine blk_put (cs := #[.int .u64 0, .int .u64 0, .int .u64 0, .int .u64 0, .int .u64 0, .int .u64 0, .int .u64 0, .string (⟨#[]⟩ : ByteArray)]) ?_ 1 _ rfl; (with_reducible repeat (first | refine blk_drewN ?_ _ | refine blk_drew ?_ | refine blk_alloc ?_ _)); refine blk_put (cs := #[.int .u64 0, .int .u64 0, .int .u64 0, .int .u64 0, .int .u64 0, .int .u64 0, .int .u64 0, .string (⟨#[]⟩ : ByteArray)]) ?_ 0 _ rfl; (with_reducible repeat (first | refine blk_drewN ?_ _ | refine blk_drew ?_ | refine blk_alloc ?_ _)); exact BK184.out) Try.underlying47 rfl (by kernel_rfl)) rfl ?_
              exact ⟨by first | rfl | (simp [errW_none, errW_some] <;> rfl) | (simp [*, errW_none, errW_some] <;> rfl), by repeat (first | (with_reducible first | exact HB.out | apply below_alloc | apply pw_below_drewN | apply below_drew1 | refine below_set ?_ (IsS93.ge HI188.out) | refine below_set ?_ GE184.out) | exact HB.out)⟩
            · replace c17 := Bool.eq_false_iff.mpr c17
              subst c17
              have H1 : ((cursor_Cursor_Take.f t194 t195 t196 4).bind fun bt197 => ((cursor_Cursor_Four.f kj9 bt197.2.1 bt197.2.2.1 bt197.2.2.2).bind fun bt201 => ((cursor_Cursor_Four.f kj9 bt201.2.1 bt201.2.2.1 bt201.2.2.2).bind fun bt205 => ((cursor_Cursor_Eight.f kj9 bt205.2.1 bt205.2.2.1 bt205.2.2.2).bind fun bt209 => ((cursor_Cursor_Eight.f kj9 bt209.2.1 bt209.2.2.1 bt209.2.2.2).bind fun bt213 => ((cursor_Cursor_Eight.f kj9 bt213.2.1 bt213.2.2.1 bt213.2.2.2).bind fun bt217 => ((cursor_Cursor_Eight.f kj9 bt217.2.1 bt217.2.2.1 bt217.2.2.2).bind fun bt221 => ((cursor_Cursor_Err.f bt221.2.1 bt221.2.2.1 bt221.2.2.2).bind fun bt226 => (if bt226.1 = 0 then (if (IntKind.u64.wrap (bt201.1)) = 0 then (if (IntKind.u64.wrap (bt205.1)) = 0 then (some (IntKind.u64.wrap (a1), IntKind.u64.wrap (bt201.1), IntKind.u64.wrap (bt205.1), bt209.1, bt213.1, bt217.1, bt221.1, (⟨#[]⟩ : ByteArray), (bt209.1 == bt213.1))) else (some (IntKind.u64.wrap (a1), IntKind.u64.wrap (bt201.1), IntKind.u64.wrap (bt205.1), bt209.1, bt213.1, bt217.1, bt221.1, (⟨#[]⟩ : ByteArray), false))) else (some (IntKind.u64.wrap (a1), IntKind.u64.wrap (bt201.1), IntKind.u64.wrap (bt205.1), bt209.1, bt213.1, bt217.1, bt221.1, (⟨#[]⟩ : ByteArray), false))) else (some (IntKind.u64.wrap (a1), IntKind.u64.wrap (bt201.1), IntKind.u64.wrap (bt205.1), bt209.1, bt213.1, bt217.1, bt221.1, (⟨#[]⟩ : ByteArray), false))))))))))) = some (r1, r2, r3, r4, r5, r6, r7, r8, r9) := by rw [if_neg (show ¬ (false = true) by decide)] at H; exact H
              clear H
              have H := H1
              clear H1
              replace H := Option.bind_eq_some_iff.mp H
              obtain ⟨⟨t197, t198, t199, t200⟩, A200, H⟩ := H
              replace H : ((cursor_Cursor_Four.f kj9 t198 t199 t200).bind fun bt201 => ((cursor_Cursor_Four.f kj9 bt201.2.1 bt201.2.2.1 bt201.2.2.2).bind fun bt205 => ((cursor_Cursor_Eight.f kj9 bt205.2.1 bt205.2.2.1 bt205.2.2.2).bind fun bt209 => ((cursor_Cursor_Eight.f kj9 bt209.2.1 bt209.2.2.1 bt209.2.2.2).bind fun bt213 => ((cursor_Cursor_Eight.f kj9 bt213.2.1 bt213.2.2.1 bt213.2.2.2).bind fun bt217 => ((cursor_Cursor_Eight.f kj9 bt217.2.1 bt217.2.2.1 bt217.2.2.2).bind fun bt221 => ((cursor_Cursor_Err.f bt221.2.1 bt221.2.2.1 bt221.2.2.2).bind fun bt226 => (if bt226.1 = 0 then (if (IntKind.u64.wrap (bt201.1)) = 0 then (if (IntKind.u64.wrap (bt205.1)) = 0 then (some (IntKind.u64.wrap (a1), IntKind.u64.wrap (bt201.1), IntKind.u64.wrap (bt205.1), bt209.1, bt213.1, bt217.1, bt221.1, (⟨#[]⟩ : ByteArray), (bt209.1 == bt213.1))) else (some (IntKind.u64.wrap (a1), IntKind.u64.wrap (bt201.1), IntKind.u64.wrap (bt205.1), bt209.1, bt213.1, bt217.1, bt221.1, (⟨#[]⟩ : ByteArray), false))) else (some (IntKind.u64.wrap (a1), IntKind.u64.wrap (bt201.1), IntKind.u64.wrap (bt205.1), bt209.1, bt213.1, bt217.1, bt221.1, (⟨#[]⟩ : ByteArray), false))) else (some (IntKind.u64.wrap (a1), IntKind.u64.wrap (bt201.1), IntKind.u64.wrap (bt205.1), bt209.1, bt213.1, bt217.1, bt221.1, (⟨#[]⟩ : ByteArray), false)))))))))) = some (r1, r2, r3, r4, r5, r6, r7, r8, r9) := H
              have A20 := Aside0.mk A200
              clear A200
              replace H := Option.bind_eq_some_iff.mp H
              obtain ⟨⟨t201, t202, t203, t204⟩, A210, H⟩ := H
              replace H : ((cursor_Cursor_Four.f kj9 t202 t203 t204).bind fun bt205 => ((cursor_Cursor_Eight.f kj9 bt205.2.1 bt205.2.2.1 bt205.2.2.2).bind fun bt209 => ((cursor_Cursor_Eight.f kj9 bt209.2.1 bt209.2.2.1 bt209.2.2.2).bind fun bt213 => ((cursor_Cursor_Eight.f kj9 bt213.2.1 bt213.2.2.1 bt213.2.2.2).bind fun bt217 => ((cursor_Cursor_Eight.f kj9 bt217.2.1 bt217.2.2.1 bt217.2.2.2).bind fun bt221 => ((cursor_Cursor_Err.f bt221.2.1 bt221.2.2.1 bt221.2.2.2).bind fun bt226 => (if bt226.1 = 0 then (if (IntKind.u64.wrap (t201)) = 0 then (if (IntKind.u64.wrap (bt205.1)) = 0 then (some (IntKind.u64.wrap (a1), IntKind.u64.wrap (t201), IntKind.u64.wrap (bt205.1), bt209.1, bt213.1, bt217.1, bt221.1, (⟨#[]⟩ : ByteArray), (bt209.1 == bt213.1))) else (some (IntKind.u64.wrap (a1), IntKind.u64.wrap (t201), IntKind.u64.wrap (bt205.1), bt209.1, bt213.1, bt217.1, bt221.1, (⟨#[]⟩ : ByteArray), false))) else (some (IntKind.u64.wrap (a1), IntKind.u64.wrap (t201), IntKind.u64.wrap (bt205.1), bt209.1, bt213.1, bt217.1, bt221.1, (⟨#[]⟩ : ByteArray), false))) else (some (IntKind.u64.wrap (a1), IntKind.u64.wrap (t201), IntKind.u64.wrap (bt205.1), bt209.1, bt213.1, bt217.1, bt221.1, (⟨#[]⟩ : ByteArray), false))))))))) = some (r1, r2, r3, r4, r5, r6, r7, r8, r9) := H
              have A21 := Aside0.mk A210
              clear A210
              replace H := Option.bind_eq_some_iff.mp H
              obtain ⟨⟨t205, t206, t207, t208⟩, A220, H⟩ := H
              replace H : ((cursor_Cursor_Eight.f kj9 t206 t207 t208).bind fun bt209 => ((cursor_Cursor_Eight.f kj9 bt209.2.1 bt209.2.2.1 bt209.2.2.2).bind fun bt213 => ((cursor_Cursor_Eight.f kj9 bt213.2.1 bt213.2.2.1 bt213.2.2.2).bind fun bt217 => ((cursor_Cursor_Eight.f kj9 bt217.2.1 bt217.2.2.1 bt217.2.2.2).bind fun bt221 => ((cursor_Cursor_Err.f bt221.2.1 bt221.2.2.1 bt221.2.2.2).bind fun bt226 => (if bt226.1 = 0 then (if (IntKind.u64.wrap (t201)) = 0 then (if (IntKind.u64.wrap (t205)) = 0 then (some (IntKind.u64.wrap (a1), IntKind.u64.wrap (t201), IntKind.u64.wrap (t205), bt209.1, bt213.1, bt217.1, bt221.1, (⟨#[]⟩ : ByteArray), (bt209.1 == bt213.1))) else (some (IntKind.u64.wrap (a1), IntKind.u64.wrap (t201), IntKind.u64.wrap (t205), bt209.1, bt213.1, bt217.1, bt221.1, (⟨#[]⟩ : ByteArray), false))) else (some (IntKind.u64.wrap (a1), IntKind.u64.wrap (t201), IntKind.u64.wrap (t205), bt209.1, bt213.1, bt217.1, bt221.1, (⟨#[]⟩ : ByteArray), false))) else (some (IntKind.u64.wrap (a1), IntKind.u64.wrap (t201), IntKind.u64.wrap (t205), bt209.1, bt213.1, bt217.1, bt221.1, (⟨#[]⟩ : ByteArray), false)))))))) = some (r1, r2, r3, r4, r5, r6, r7, r8, r9) := H
              have A22 := Aside0.mk A220
              clear A220
              replace H := Option.bind_eq_some_iff.mp H
              obtain ⟨⟨t209, t210, t211, t212⟩, A230, H⟩ := H
              replace H : ((cursor_Cursor_Eight.f kj9 t210 t211 t212).bind fun bt213 => ((cursor_Cursor_Eight.f kj9 bt213.2.1 bt213.2.2.1 bt213.2.2.2).bind fun bt217 => ((cursor_Cursor_Eight.f kj9 bt217.2.1 bt217.2.2.1 bt217.2.2.2).bind fun bt221 => ((cursor_Cursor_Err.f bt221.2.1 bt221.2.2.1 bt221.2.2.2).bind fun bt226 => (if bt226.1 = 0 then (if (IntKind.u64.wrap (t201)) = 0 then (if (IntKind.u64.wrap (t205)) = 0 then (some (IntKind.u64.wrap (a1), IntKind.u64.wrap (t201), IntKind.u64.wrap (t205), t209, bt213.1, bt217.1, bt221.1, (⟨#[]⟩ : ByteArray), (t209 == bt213.1))) else (some (IntKind.u64.wrap (a1), IntKind.u64.wrap (t201), IntKind.u64.wrap (t205), t209, bt213.1, bt217.1, bt221.1, (⟨#[]⟩ : ByteArray), false))) else (some (IntKind.u64.wrap (a1), IntKind.u64.wrap (t201), IntKind.u64.wrap (t205), t209, bt213.1, bt217.1, bt221.1, (⟨#[]⟩ : ByteArray), false))) else (some (IntKind.u64.wrap (a1), IntKind.u64.wrap (t201), IntKind.u64.wrap (t205), t209, bt213.1, bt217.1, bt221.1, (⟨#[]⟩ : ByteArray), false))))))) = some (r1, r2, r3, r4, r5, r6, r7, r8, r9) := H
              have A23 := Aside0.mk A230
              clear A230
              replace H := Option.bind_eq_some_iff.mp H
              obtain ⟨⟨t213, t214, t215, t216⟩, A240, H⟩ := H
              replace H : ((cursor_Cursor_Eight.f kj9 t214 t215 t216).bind fun bt217 => ((cursor_Cursor_Eight.f kj9 bt217.2.1 bt217.2.2.1 bt217.2.2.2).bind fun bt221 => ((cursor_Cursor_Err.f bt221.2.1 bt221.2.2.1 bt221.2.2.2).bind fun bt226 => (if bt226.1 = 0 then (if (IntKind.u64.wrap (t201)) = 0 then (if (IntKind.u64.wrap (t205)) = 0 then (some (IntKind.u64.wrap (a1), IntKind.u64.wrap (t201), IntKind.u64.wrap (t205), t209, t213, bt217.1, bt221.1, (⟨#[]⟩ : ByteArray), (t209 == t213))) else (some (IntKind.u64.wrap (a1), IntKind.u64.wrap (t201), IntKind.u64.wrap (t205), t209, t213, bt217.1, bt221.1, (⟨#[]⟩ : ByteArray), false))) else (some (IntKind.u64.wrap (a1), IntKind.u64.wrap (t201), IntKind.u64.wrap (t205), t209, t213, bt217.1, bt221.1, (⟨#[]⟩ : ByteArray), false))) else (some (IntKind.u64.wrap (a1), IntKind.u64.wrap (t201), IntKind.u64.wrap (t205), t209, t213, bt217.1, bt221.1, (⟨#[]⟩ : ByteArray), false)))))) = some (r1, r2, r3, r4, r5, r6, r7, r8, r9) := H
              have A24 := Aside0.mk A240
              clear A240
              replace H := Option.bind_eq_some_iff.mp H
              obtain ⟨⟨t217, t218, t219, t220⟩, A250, H⟩ := H
              replace H : ((cursor_Cursor_Eight.f kj9 t218 t219 t220).bind fun bt221 => ((cursor_Cursor_Err.f bt221.2.1 bt221.2.2.1 bt221.2.2.2).bind fun bt226 => (if bt226.1 = 0 then (if (IntKind.u64.wrap (t201)) = 0 then (if (IntKind.u64.wrap (t205)) = 0 then (some (IntKind.u64.wrap (a1), IntKind.u64.wrap (t201), IntKind.u64.wrap (t205), t209, t213, t217, bt221.1, (⟨#[]⟩ : ByteArray), (t209 == t213))) else (some (IntKind.u64.wrap (a1), IntKind.u64.wrap (t201), IntKind.u64.wrap (t205), t209, t213, t217, bt221.1, (⟨#[]⟩ : ByteArray), false))) else (some (IntKind.u64.wrap (a1), IntKind.u64.wrap (t201), IntKind.u64.wrap (t205), t209, t213, t217, bt221.1, (⟨#[]⟩ : ByteArray), false))) else (some (IntKind.u64.wrap (a1), IntKind.u64.wrap (t201), IntKind.u64.wrap (t205), t209, t213, t217, bt221.1, (⟨#[]⟩ : ByteArray), false))))) = some (r1, r2, r3, r4, r5, r6, r7, r8, r9) := H
              have A25 := Aside0.mk A250
              clear A250
              replace H := Option.bind_eq_some_iff.mp H
              obtain ⟨⟨t221, t222, t223, t224⟩, A260, H⟩ := H
              replace H : ((cursor_Cursor_Err.f t222 t223 t224).bind fun bt226 => (if bt226.1 = 0 then (if (IntKind.u64.wrap (t201)) = 0 then (if (IntKind.u64.wrap (t205)) = 0 then (some (IntKind.u64.wrap (a1), IntKind.u64.wrap (t201), IntKind.u64.wrap (t205), t209, t213, t217, t221, (⟨#[]⟩ : ByteArray), (t209 == t213))) else (some (IntKind.u64.wrap (a1), IntKind.u64.wrap (t201), IntKind.u64.wrap (t205), t209, t213, t217, t221, (⟨#[]⟩ : ByteArray), false))) else (some (IntKind.u64.wrap (a1), IntKind.u64.wrap (t201), IntKind.u64.wrap (t205), t209, t213, t217, t221, (⟨#[]⟩ : ByteArray), false))) else (some (IntKind.u64.wrap (a1), IntKind.u64.wrap (t201), IntKind.u64.wrap (t205), t209, t213, t217, t221, (⟨#[]⟩ : ByteArray), false)))) = some (r1, r2, r3, r4, r5, r6, r7, r8, r9) := H
              have A26 := Aside0.mk A260
              clear A260
              replace H := Option.bind_eq_some_iff.mp H
              obtain ⟨⟨t226, t227, t228, t229⟩, A270, H⟩ := H
              replace H : (if t226 = 0 then (if (IntKind.u64.wrap (t201)) = 0 then (if (IntKind.u64.wrap (t205)) = 0 then (some (IntKind.u64.wrap (a1), IntKind.u64.wrap (t201), IntKind.u64.wrap (t205), t209, t213, t217, t221, (⟨#[]⟩ : ByteArray), (t209 == t213))) else (some (IntKind.u64.wrap (a1), IntKind.u64.wrap (t201), IntKind.u64.wrap (t205), t209, t213, t217, t221, (⟨#[]⟩ : ByteArray), false))) else (some (IntKind.u64.wrap (a1), IntKind.u64.wrap (t201), IntKind.u64.wrap (t205), t209, t213, t217, t221, (⟨#[]⟩ : ByteArray), false))) else (some (IntKind.u64.wrap (a1), IntKind.u64.wrap (t201), IntKind.u64.wrap (t205), t209, t213, t217, t221, (⟨#[]⟩ : ByteArray), false))) = some (r1, r2, r3, r4, r5, r6, r7, r8, r9) := H
              have A27 := Aside0.mk A270
              clear A270
              by_cases c28 : t226 = 0
              · rw [if_pos c28] at H
                have c28b0 : (t226 == 0) = true := beq_iff_eq.mpr c28
                have c28b1 : (t226 != 0) = false := bne_eq_false_iff_eq.mpr c28
                clear c28
                by_cases c29 : (IntKind.u64.wrap (t201)) = 0
                · rw [if_pos c29] at H
                  have c29b0 : ((IntKind.u64.wrap (t201)) == 0) = true := beq_iff_eq.mpr c29
                  have c29b1 : ((IntKind.u64.wrap (t201)) != 0) = false := bne_eq_false_iff_eq.mpr c29
                  clear c29
                  by_cases c30 : (IntKind.u64.wrap (t205)) = 0
                  · rw [if_pos c30] at H
                    have c30b0 : ((IntKind.u64.wrap (t205)) == 0) = true := beq_iff_eq.mpr c30
                    have c30b1 : ((IntKind.u64.wrap (t205)) != 0) = false := bne_eq_false_iff_eq.mpr c30
                    clear c30
                    simp only [Option.some.injEq, Prod.mk.injEq] at H
                    obtain ⟨rfl, rfl, rfl, rfl, rfl, rfl, rfl, rfl, rfl⟩ := H
                    try go_wp2_with (first | ((with_reducible refine gate_callee (f := 39) rfl ?_); refine goesL_ (some 38) rfl rfl Try.func39 (by kernel_rfl) rfl #[.pointer (some ⟨g188, 0, none⟩), .int .i64 4] rfl (by (try simp only [List.map_toArray, List.map_cons, List.map_nil]); first | done | rfl | (simp only [List.length_drop, List.length_take]; rfl)) ?_; (with_reducible refine (cursor_Cursor_Take.calls g188 t194 t195 t196 4 t197 t198 t199 t200 w _ ?side1 ?side2 A20.out).mono ?_); (case side1 => repeat (first | (with_reducible first | exact HI188.out | apply IsS93.alloc | apply IsS93.drewN | apply IsS93.drew | apply IsS93.set_0 | apply IsS93.set_1 | apply IsS93.set_2 | refine IsS93.far ?_ NB188_184.out _) | exact HI188.out)); (case side2 => repeat (first | (with_reducible first | exact HB.out | apply below_alloc | apply pw_below_drewN | apply below_drew1 | refine below_set ?_ (IsS93.ge HI188.out) | refine below_set ?_ GE184.out) | exact HB.out)); rintro e w31 ⟨rfl, hi, hb, hk⟩; refine ⟨_, rfl, ?_⟩; have n0_ := Aside0.mk (KeepBut.blk hk (g' := gb184) (o := .cells #[.int .u64 0, .int .u64 0, .int .u64 0, .int .u64 0, .int .u64 0, .int .u64 0, .int .u64 0, .string (⟨#[]⟩ : ByteArray)] 47 (0, 0)) (by (with_reducible repeat (first | refine blk_drewN ?_ _ | refine blk_drew ?_ | refine blk_alloc ?_ _)); exact BK184.out) NB184_188.out (by simp)); have n1_ := Aside0.mk (hb); have n2_ := Aside0.mk (hi); clear BK184; clear HB; clear HI188; have BK184 := n0_; have HB := n1_; have HI188 := n2_; clear n0_ n1_ n2_; (try clear hb); (try clear hb2); (try clear hk); (try clear hi)) | ((with_reducible refine gate_callee (f := 41) rfl ?_); refine goesL_ (some 42) rfl rfl Try.func41 (by kernel_rfl) rfl #[.pointer (some ⟨g188, 0, none⟩)] rfl (by (try simp only [List.map_toArray, List.map_cons, List.map_nil]); first | done | rfl | (simp only [List.length_drop, List.length_take]; rfl)) ?_; (with_reducible refine (cursor_Cursor_Four.calls kj9 g188 t198 t199 t200 t201 t202 t203 t204 w _ ?side1 ?side2 A21.out).mono ?_); (case side1 => repeat (first | (with_reducible first | exact HI188.out | apply IsS93.alloc | apply IsS93.drewN | apply IsS93.drew | apply IsS93.set_0 | apply IsS93.set_1 | apply IsS93.set_2 | refine IsS93.far ?_ NB188_184.out _) | exact HI188.out)); (case side2 => repeat (first | (with_reducible first | exact HB.out | apply below_alloc | apply pw_below_drewN | apply below_drew1 | refine below_set ?_ (IsS93.ge HI188.out) | refine below_set ?_ GE184.out) | exact HB.out)); rintro e w32 ⟨rfl, hi, hb, hk⟩; refine ⟨_, rfl, ?_⟩; have n0_ := Aside0.mk (KeepBut.blk hk (g' := gb184) (o := .cells #[.int .u64 0, .int .u64 0, .int .u64 0, .int .u64 0, .int .u64 0, .int .u64 0, .int .u64 0, .string (⟨#[]⟩ : ByteArray)] 47 (0, 0)) (by (with_reducible repeat (first | refine blk_drewN ?_ _ | refine blk_drew ?_ | refine blk_alloc ?_ _)); exact BK184.out) NB184_188.out (by simp)); have n1_ := Aside0.mk (hb); have n2_ := Aside0.mk (hi); clear BK184; clear HB; clear HI188; have BK184 := n0_; have HB := n1_; have HI188 := n2_; clear n0_ n1_ n2_; (try clear hb); (try clear hb2); (try clear hk); (try clear hi)) | ((with_reducible refine gate_callee (f := 41) rfl ?_); refine goesL_ (some 45) rfl rfl Try.func41 (by kernel_rfl) rfl #[.pointer (some ⟨g188, 0, none⟩)] rfl (by (try simp only [List.map_toArray, List.map_cons, List.map_nil]); first | done | rfl | (simp only [List.length_drop, List.length_take]; rfl)) ?_; (with_reducible refine (cursor_Cursor_Four.calls kj9 g188 t202 t203 t204 t205 t206 t207 t208 w _ ?side1 ?side2 A22.out).mono ?_); (case side1 => repeat (first | (with_reducible first | exact HI188.out | apply IsS93.alloc | apply IsS93.drewN | apply IsS93.drew | apply IsS93.set_0 | apply IsS93.set_1 | apply IsS93.set_2 | refine IsS93.far ?_ NB188_184.out _) | exact HI188.out)); (case side2 => repeat (first | (with_reducible first | exact HB.out | apply below_alloc | apply pw_below_drewN | apply below_drew1 | refine below_set ?_ (IsS93.ge HI188.out) | refine below_set ?_ GE184.out) | exact HB.out)); rintro e w33 ⟨rfl, hi, hb, hk⟩; refine ⟨_, rfl, ?_⟩; have n0_ := Aside0.mk (KeepBut.blk hk (g' := gb184) (o := .cells #[.int .u64 0, .int .u64 0, .int .u64 0, .int .u64 0, .int .u64 0, .int .u64 0, .int .u64 0, .string (⟨#[]⟩ : ByteArray)] 47 (0, 0)) (by (with_reducible repeat (first | refine blk_drewN ?_ _ | refine blk_drew ?_ | refine blk_alloc ?_ _)); exact BK184.out) NB184_188.out (by simp)); have n1_ := Aside0.mk (hb); have n2_ := Aside0.mk (hi); clear BK184; clear HB; clear HI188; have BK184 := n0_; have HB := n1_; have HI188 := n2_; clear n0_ n1_ n2_; (try clear hb); (try clear hb2); (try clear hk); (try clear hi)) | ((with_reducible refine gate_callee (f := 43) rfl ?_); refine goesL_ (some 48) rfl rfl Try.func43 (by kernel_rfl) rfl #[.pointer (some ⟨g188, 0, none⟩)] rfl (by (try simp only [List.map_toArray, List.map_cons, List.map_nil]); first | done | rfl | (simp only [List.length_drop, List.length_take]; rfl)) ?_; (with_reducible refine (cursor_Cursor_Eight.calls kj9 g188 t206 t207 t208 t209 t210 t211 t212 w _ ?side1 ?side2 A23.out).mono ?_); (case side1 => repeat (first | (with_reducible first | exact HI188.out | apply IsS93.alloc | apply IsS93.drewN | apply IsS93.drew | apply IsS93.set_0 | apply IsS93.set_1 | apply IsS93.set_2 | refine IsS93.far ?_ NB188_184.out _) | exact HI188.out)); (case side2 => repeat (first | (with_reducible first | exact HB.out | apply below_alloc | apply pw_below_drewN | apply below_drew1 | refine below_set ?_ (IsS93.ge HI188.out) | refine below_set ?_ GE184.out) | exact HB.out)); rintro e w34 ⟨rfl, hi, hb, hk⟩; refine ⟨_, rfl, ?_⟩; have n0_ := Aside0.mk (KeepBut.blk hk (g' := gb184) (o := .cells #[.int .u64 0, .int .u64 0, .int .u64 0, .int .u64 0, .int .u64 0, .int .u64 0, .int .u64 0, .string (⟨#[]⟩ : ByteArray)] 47 (0, 0)) (by (with_reducible repeat (first | refine blk_drewN ?_ _ | refine blk_drew ?_ | refine blk_alloc ?_ _)); exact BK184.out) NB184_188.out (by simp)); have n1_ := Aside0.mk (hb); have n2_ := Aside0.mk (hi); clear BK184; clear HB; clear HI188; have BK184 := n0_; have HB := n1_; have HI188 := n2_; clear n0_ n1_ n2_; (try clear hb); (try clear hb2); (try clear hk); (try clear hi)) | ((with_reducible refine gate_callee (f := 43) rfl ?_); refine goesL_ (some 50) rfl rfl Try.func43 (by kernel_rfl) rfl #[.pointer (some ⟨g188, 0, none⟩)] rfl (by (try simp only [List.map_toArray, List.map_cons, List.map_nil]); first | done | rfl | (simp only [List.length_drop, List.length_take]; rfl)) ?_; (with_reducible refine (cursor_Cursor_Eight.calls kj9 g188 t210 t211 t212 t213 t214 t215 t216 w _ ?side1 ?side2 A24.out).mono ?_); (case side1 => repeat (first | (with_reducible first | exact HI188.out | apply IsS93.alloc | apply IsS93.drewN | apply IsS93.drew | apply IsS93.set_0 | apply IsS93.set_1 | apply IsS93.set_2 | refine IsS93.far ?_ NB188_184.out _) | exact HI188.out)); (case side2 => repeat (first | (with_reducible first | exact HB.out | apply below_alloc | apply pw_below_drewN | apply below_drew1 | refine below_set ?_ (IsS93.ge HI188.out) | refine below_set ?_ GE184.out) | exact HB.out)); rintro e w35 ⟨rfl, hi, hb, hk⟩; refine ⟨_, rfl, ?_⟩; have n0_ := Aside0.mk (KeepBut.blk hk (g' := gb184) (o := .cells #[.int .u64 0, .int .u64 0, .int .u64 0, .int .u64 0, .int .u64 0, .int .u64 0, .int .u64 0, .string (⟨#[]⟩ : ByteArray)] 47 (0, 0)) (by (with_reducible repeat (first | refine blk_drewN ?_ _ | refine blk_drew ?_ | refine blk_alloc ?_ _)); exact BK184.out) NB184_188.out (by simp)); have n1_ := Aside0.mk (hb); have n2_ := Aside0.mk (hi); clear BK184; clear HB; clear HI188; have BK184 := n0_; have HB := n1_; have HI188 := n2_; clear n0_ n1_ n2_; (try clear hb); (try clear hb2); (try clear hk); (try clear hi)) | ((with_reducible refine gate_callee (f := 43) rfl ?_); refine goesL_ (some 52) rfl rfl Try.func43 (by kernel_rfl) rfl #[.pointer (some ⟨g188, 0, none⟩)] rfl (by (try simp only [List.map_toArray, List.map_cons, List.map_nil]); first | done | rfl | (simp only [List.length_drop, List.length_take]; rfl)) ?_; (with_reducible refine (cursor_Cursor_Eight.calls kj9 g188 t214 t215 t216 t217 t218 t219 t220 w _ ?side1 ?side2 A25.out).mono ?_); (case side1 => repeat (first | (with_reducible first | exact HI188.out | apply IsS93.alloc | apply IsS93.drewN | apply IsS93.drew | apply IsS93.set_0 | apply IsS93.set_1 | apply IsS93.set_2 | refine IsS93.far ?_ NB188_184.out _) | exact HI188.out)); (case side2 => repeat (first | (with_reducible first | exact HB.out | apply below_alloc | apply pw_below_drewN | apply below_drew1 | refine below_set ?_ (IsS93.ge HI188.out) | refine below_set ?_ GE184.out) | exact HB.out)); rintro e w36 ⟨rfl, hi, hb, hk⟩; refine ⟨_, rfl, ?_⟩; have n0_ := Aside0.mk (KeepBut.blk hk (g' := gb184) (o := .cells #[.int .u64 0, .int .u64 0, .int .u64 0, .int .u64 0, .int .u64 0, .int .u64 0, .int .u64 0, .string (⟨#[]⟩ : ByteArray)] 47 (0, 0)) (by (with_reducible repeat (first | refine blk_drewN ?_ _ | refine blk_drew ?_ | refine blk_alloc ?_ _)); exact BK184.out) NB184_188.out (by simp)); have n1_ := Aside0.mk (hb); have n2_ := Aside0.mk (hi); clear BK184; clear HB; clear HI188; have BK184 := n0_; have HB := n1_; have HI188 := n2_; clear n0_ n1_ n2_; (try clear hb); (try clear hb2); (try clear hk); (try clear hi)) | ((with_reducible refine gate_callee (f := 43) rfl ?_); refine goesL_ (some 54) rfl rfl Try.func43 (by kernel_rfl) rfl #[.pointer (some ⟨g188, 0, none⟩)] rfl (by (try simp only [List.map_toArray, List.map_cons, List.map_nil]); first | done | rfl | (simp only [List.length_drop, List.length_take]; rfl)) ?_; (with_reducible refine (cursor_Cursor_Eight.calls kj9 g188 t218 t219 t220 t221 t222 t223 t224 w _ ?side1 ?side2 A26.out).mono ?_); (case side1 => repeat (first | (with_reducible first | exact HI188.out | apply IsS93.alloc | apply IsS93.drewN | apply IsS93.drew | apply IsS93.set_0 | apply IsS93.set_1 | apply IsS93.set_2 | refine IsS93.far ?_ NB188_184.out _) | exact HI188.out)); (case side2 => repeat (first | (with_reducible first | exact HB.out | apply below_alloc | apply pw_below_drewN | apply below_drew1 | refine below_set ?_ (IsS93.ge HI188.out) | refine below_set ?_ GE184.out) | exact HB.out)); rintro e w37 ⟨rfl, hi, hb, hk⟩; refine ⟨_, rfl, ?_⟩; have n0_ := Aside0.mk (KeepBut.blk hk (g' := gb184) (o := .cells #[.int .u64 0, .int .u64 0, .int .u64 0, .int .u64 0, .int .u64 0, .int .u64 0, .int .u64 0, .string (⟨#[]⟩ : ByteArray)] 47 (0, 0)) (by (with_reducible repeat (first | refine blk_drewN ?_ _ | refine blk_drew ?_ | refine blk_alloc ?_ _)); exact BK184.out) NB184_188.out (by simp)); have n1_ := Aside0.mk (hb); have n2_ := Aside0.mk (hi); clear BK184; clear HB; clear HI188; have BK184 := n0_; have HB := n1_; have HI188 := n2_; clear n0_ n1_ n2_; (try clear hb); (try clear hb2); (try clear hk); (try clear hi)) | ((with_reducible refine gate_dst (N := 11) rfl ?_); refine box_event ?hg (N := 11) ?hd (cs := #[.int .u64 0, .int .u64 0, .int .u64 0, .int .u64 0, .int .u64 0, .int .u64 0, .int .u64 0, .string (⟨#[]⟩ : ByteArray)]) (t := 47) ?hr ?_; (case hd => rfl); (case hg => rfl); (case hr => first | (go_simp; done) | (go_simp; rfl)); intro gb225 hg w38 hbox hb; have n0_ := Aside0.mk (blk_below (g := gb184) (o := .cells #[.int .u64 0, .int .u64 0, .int .u64 0, .int .u64 0, .int .u64 0, .int .u64 0, .int .u64 0, .string (⟨#[]⟩ : ByteArray)] 47 (0, 0)) (by (with_reducible repeat (first | refine blk_drewN ?_ _ | refine blk_drew ?_ | refine blk_alloc ?_ _)); exact BK184.out) hb); have n1_ := Aside0.mk (IsS93.below (by repeat (first | (with_reducible first | exact HI188.out | apply IsS93.alloc | apply IsS93.drewN | apply IsS93.drew | apply IsS93.set_0 | apply IsS93.set_1 | apply IsS93.set_2 | refine IsS93.far ?_ NB188_184.out _) | exact HI188.out)) hb); have n2_ := Aside0.mk (below_step (by repeat (first | (with_reducible first | exact HB.out | apply below_alloc | apply pw_below_drewN | apply below_drew1 | refine below_set ?_ (IsS93.ge HI188.out) | refine below_set ?_ GE184.out) | exact HB.out)) hb); have n3_ := Aside0.mk (hbox); have n4_ := Aside0.mk ((by rw [hg]; exact (below_size (by repeat (first | (with_reducible first | exact HB.out | apply below_alloc | apply pw_below_drewN | apply below_drew1 | refine below_set ?_ (IsS93.ge HI188.out) | refine below_set ?_ GE184.out) | exact HB.out))) : w.heap.size ≤ gb225)); have n5_ := Aside0.mk ((by rw [hg]; exact (below_size (by repeat (first | (with_reducible first | exact HB.out | apply below_alloc | apply pw_below_drewN | apply below_drew1 | refine below_set ?_ (IsS93.ge HI188.out) | refine below_set ?_ GE184.out) | exact HB.out))) : w.heap.size ≤ gb225)); have n6_ := Aside0.mk ((by rw [hg]; exact Nat.ne_of_lt (blk_lt (g := gb184) (o := .cells #[.int .u64 0, .int .u64 0, .int .u64 0, .int .u64 0, .int .u64 0, .int .u64 0, .int .u64 0, .string (⟨#[]⟩ : ByteArray)] 47 (0, 0)) (by (with_reducible repeat (first | refine blk_drewN ?_ _ | refine blk_drew ?_ | refine blk_alloc ?_ _)); exact BK184.out)) : gb184 ≠ gb225)); have n7_ := Aside0.mk ((by rw [hg]; exact Nat.ne_of_gt (blk_lt (g := gb184) (o := .cells #[.int .u64 0, .int .u64 0, .int .u64 0, .int .u64 0, .int .u64 0, .int .u64 0, .int .u64 0, .string (⟨#[]⟩ : ByteArray)] 47 (0, 0)) (by (with_reducible repeat (first | refine blk_drewN ?_ _ | refine blk_drew ?_ | refine blk_alloc ?_ _)); exact BK184.out)) : gb225 ≠ gb184)); have n8_ := Aside0.mk ((by rw [hg]; exact Nat.ne_of_lt (IsS93.lt (show IsS93 w _ g188 t222 t223 t224 from by repeat (first | (with_reducible first | exact HI188.out | apply IsS93.alloc | apply IsS93.drewN | apply IsS93.drew | apply IsS93.set_0 | apply IsS93.set_1 | apply IsS93.set_2 | refine IsS93.far ?_ NB188_184.out _) | exact HI188.out))) : g188 ≠ gb225)); have n9_ := Aside0.mk ((by rw [hg]; exact Nat.ne_of_gt (IsS93.lt (show IsS93 w _ g188 t222 t223 t224 from by repeat (first | (with_reducible first | exact HI188.out | apply IsS93.alloc | apply IsS93.drewN | apply IsS93.drew | apply IsS93.set_0 | apply IsS93.set_1 | apply IsS93.set_2 | refine IsS93.far ?_ NB188_184.out _) | exact HI188.out))) : gb225 ≠ g188)); clear BK184; clear HI188; clear HB; have BK184 := n0_; have HI188 := n1_; have HB := n2_; have BK225 := n3_; have GW225 := n4_; have GE225 := n5_; have NB184_225 := n6_; have NB225_184 := n7_; have NB188_225 := n8_; have NB225_188 := n9_; clear n0_ n1_ n2_ n3_ n4_ n5_ n6_ n7_ n8_ n9_; clear hb hbox hg; have hnb39 := NB225_184.out; have hnc39 := NB184_225.out; have hnb40 := NB225_188.out; have hnc40 := NB188_225.out; have hcz41_0 : w38.cell? ⟨gb225, 0, none⟩ = some (.int .u64 0) := (blk_cell BK225.out 0).trans rfl; have hcz41_1 : w38.cell? ⟨gb225, 1, none⟩ = some (.int .u64 0) := (blk_cell BK225.out 1).trans rfl; have hcz41_2 : w38.cell? ⟨gb225, 2, none⟩ = some (.int .u64 0) := (blk_cell BK225.out 2).trans rfl; have hcz41_3 : w38.cell? ⟨gb225, 3, none⟩ = some (.int .u64 0) := (blk_cell BK225.out 3).trans rfl; have hcz41_4 : w38.cell? ⟨gb225, 4, none⟩ = some (.int .u64 0) := (blk_cell BK225.out 4).trans rfl; have hcz41_5 : w38.cell? ⟨gb225, 5, none⟩ = some (.int .u64 0) := (blk_cell BK225.out 5).trans rfl; have hcz41_6 : w38.cell? ⟨gb225, 6, none⟩ = some (.int .u64 0) := (blk_cell BK225.out 6).trans rfl; have hcz41_7 : w38.cell? ⟨gb225, 7, none⟩ = some (.string (⟨#[]⟩ : ByteArray)) := (blk_cell BK225.out 7).trans rfl; have hfz41_0 := blk_frozen BK225.out 0; have hfz41_1 := blk_frozen BK225.out 1; have hfz41_2 := blk_frozen BK225.out 2; have hfz41_3 := blk_frozen BK225.out 3; have hfz41_4 := blk_frozen BK225.out 4; have hfz41_5 := blk_frozen BK225.out 5; have hfz41_6 := blk_frozen BK225.out 6; have hfz41_7 := blk_frozen BK225.out 7))
                    have n0_ : Aside0 (((((((((w38.setCell ⟨gb225, 0, none⟩ (.int .u64 (IntKind.u64.wrap (a1)))).setCell ⟨gb225, 1, none⟩ (.int .u64 (IntKind.u64.wrap (t201)))).setCell ⟨gb225, 2, none⟩ (.int .u64 (IntKind.u64.wrap (t205)))).setCell ⟨gb225, 3, none⟩ (.int .u64 t209)).setCell ⟨gb225, 4, none⟩ (.int .u64 t213)).setCell ⟨gb225, 5, none⟩ (.int .u64 t217)).setCell ⟨gb225, 6, none⟩ (.int .u64 t221)).setCell ⟨gb225, 7, none⟩ (.string (⟨#[]⟩ : ByteArray))).heap[gb184]? = some (.cells #[.int .u64 0, .int .u64 0, .int .u64 0, .int .u64 0, .int .u64 0, .int .u64 0, .int .u64 0, .string (⟨#[]⟩ : ByteArray)] 47 (0, 0))) := ⟨by (with_reducible repeat (first | refine blk_drewN ?_ _ | refine blk_drew ?_ | refine blk_alloc ?_ _)); refine blk_far ?_ NB184_225.out _; (with_reducible repeat (first | refine blk_drewN ?_ _ | refine blk_drew ?_ | refine blk_alloc ?_ _)); refine blk_far ?_ NB184_225.out _; (with_reducible repeat (first | refine blk_drewN ?_ _ | refine blk_drew ?_ | refine blk_alloc ?_ _)); refine blk_far ?_ NB184_225.out _; (with_reducible repeat (first | refine blk_drewN ?_ _ | refine blk_drew ?_ | refine blk_alloc ?_ _)); refine blk_far ?_ NB184_225.out _; (with_reducible repeat (first | refine blk_drewN ?_ _ | refine blk_drew ?_ | refine blk_alloc ?_ _)); refine blk_far ?_ NB184_225.out _; (with_reducible repeat (first | refine blk_drewN ?_ _ | refine blk_drew ?_ | refine blk_alloc ?_ _)); refine blk_far ?_ NB184_225.out _; (with_reducible repeat (first | refine blk_drewN ?_ _ | refine blk_drew ?_ | refine blk_alloc ?_ _)); refine blk_far ?_ NB184_225.out _; (with_reducible repeat (first | refine blk_drewN ?_ _ | refine blk_drew ?_ | refine blk_alloc ?_ _)); refine blk_far ?_ NB184_225.out _; (with_reducible repeat (first | refine blk_drewN ?_ _ | refine blk_drew ?_ | refine blk_alloc ?_ _)); exact BK184.out⟩
                    have n1_ : Aside0 (((((((((w38.setCell ⟨gb225, 0, none⟩ (.int .u64 (IntKind.u64.wrap (a1)))).setCell ⟨gb225, 1, none⟩ (.int .u64 (IntKind.u64.wrap (t201)))).setCell ⟨gb225, 2, none⟩ (.int .u64 (IntKind.u64.wrap (t205)))).setCell ⟨gb225, 3, none⟩ (.int .u64 t209)).setCell ⟨gb225, 4, none⟩ (.int .u64 t213)).setCell ⟨gb225, 5, none⟩ (.int .u64 t217)).setCell ⟨gb225, 6, none⟩ (.int .u64 t221)).setCell ⟨gb225, 7, none⟩ (.string (⟨#[]⟩ : ByteArray))).heap[gb225]? = some (.cells #[.int .u64 (IntKind.u64.wrap (a1)), .int .u64 (IntKind.u64.wrap (t201)), .int .u64 (IntKind.u64.wrap (t205)), .int .u64 t209, .int .u64 t213, .int .u64 t217, .int .u64 t221, .string (⟨#[]⟩ : ByteArray)] 47 (0, 0))) := ⟨by (with_reducible repeat (first | refine blk_drewN ?_ _ | refine blk_drew ?_ | refine blk_alloc ?_ _)); refine blk_put (cs := #[.int .u64 (IntKind.u64.wrap (a1)), .int .u64 (IntKind.u64.wrap (t201)), .int .u64 (IntKind.u64.wrap (t205)), .int .u64 t209, .int .u64 t213, .int .u64 t217, .int .u64 t221, .string (⟨#[]⟩ : ByteArray)]) ?_ 7 _ rfl; (with_reducible repeat (first | refine blk_drewN ?_ _ | refine blk_drew ?_ | refine blk_alloc ?_ _)); refine blk_put (cs := #[.int .u64 (IntKind.u64.wrap (a1)), .int .u64 (IntKind.u64.wrap (t201)), .int .u64 (IntKind.u64.wrap (t205)), .int .u64 t209, .int .u64 t213, .int .u64 t217, .int .u64 0, .string (⟨#[]⟩ : ByteArray)]) ?_ 6 _ rfl; (with_reducible repeat (first | refine blk_drewN ?_ _ | refine blk_drew ?_ | refine blk_alloc ?_ _)); refine blk_put (cs := #[.int .u64 (IntKind.u64.wrap (a1)), .int .u64 (IntKind.u64.wrap (t201)), .int .u64 (IntKind.u64.wrap (t205)), .int .u64 t209, .int .u64 t213, .int .u64 0, .int .u64 0, .string (⟨#[]⟩ : ByteArray)]) ?_ 5 _ rfl; (with_reducible repeat (first | refine blk_drewN ?_ _ | refine blk_drew ?_ | refine blk_alloc ?_ _)); refine blk_put (cs := #[.int .u64 (IntKind.u64.wrap (a1)), .int .u64 (IntKind.u64.wrap (t201)), .int .u64 (IntKind.u64.wrap (t205)), .int .u64 t209, .int .u64 0, .int .u64 0, .int .u64 0, .string (⟨#[]⟩ : ByteArray)]) ?_ 4 _ rfl; (with_reducible repeat (first | refine blk_drewN ?_ _ | refine blk_drew ?_ | refine blk_alloc ?_ _)); refine blk_put (cs := #[.int .u64 (IntKind.u64.wrap (a1)), .int .u64 (IntKind.u64.wrap (t201)), .int .u64 (IntKind.u64.wrap (t205)), .int .u64 0, .int .u64 0, .int .u64 0, .int .u64 0, .string (⟨#[]⟩ : ByteArray)]) ?_ 3 _ rfl; (with_reducible repeat (first | refine blk_drewN ?_ _ | refine blk_drew ?_ | refine blk_alloc ?_ _)); refine blk_put (cs := #[.int .u64 (IntKind.u64.wrap (a1)), .int .u64 (IntKind.u64.wrap (t201)), .int .u64 0, .int .u64 0, .int .u64 0, .int .u64 0, .int .u64 0, .string (⟨#[]⟩ : ByteArray)]) ?_ 2 _ rfl; (with_reducible repeat (first | refine blk_drewN ?_ _ | refine blk_drew ?_ | refine blk_alloc ?_ _)); refine blk_put (cs := #[.int .u64 (IntKind.u64.wrap (a1)), .int .u64 0, .int .u64 0, .int .u64 0, .int .u64 0, .int .u64 0, .int .u64 0, .string (⟨#[]⟩ : ByteArray)]) ?_ 1 _ rfl; (with_reducible repeat (first | refine blk_drewN ?_ _ | refine blk_drew ?_ | refine blk_alloc ?_ _)); refine blk_put (cs := #[.int .u64 0, .int .u64 0, .int .u64 0, .int .u64 0, .int .u64 0, .int .u64 0, .int .u64 0, .string (⟨#[]⟩ : ByteArray)]) ?_ 0 _ rfl; (with_reducible repeat (first | refine blk_drewN ?_ _ | refine blk_drew ?_ | refine blk_alloc ?_ _)); exact BK225.out⟩
                    have n2_ : Aside0 (IsS93 w ((((((((w38.setCell ⟨gb225, 0, none⟩ (.int .u64 (IntKind.u64.wrap (a1)))).setCell ⟨gb225, 1, none⟩ (.int .u64 (IntKind.u64.wrap (t201)))).setCell ⟨gb225, 2, none⟩ (.int .u64 (IntKind.u64.wrap (t205)))).setCell ⟨gb225, 3, none⟩ (.int .u64 t209)).setCell ⟨gb225, 4, none⟩ (.int .u64 t213)).setCell ⟨gb225, 5, none⟩ (.int .u64 t217)).setCell ⟨gb225, 6, none⟩ (.int .u64 t221)).setCell ⟨gb225, 7, none⟩ (.string (⟨#[]⟩ : ByteArray))) g188 t222 t223 t224) := ⟨by repeat (first | (with_reducible first | exact HI188.out | apply IsS93.alloc | apply IsS93.drewN | apply IsS93.drew | apply IsS93.set_0 | apply IsS93.set_1 | apply IsS93.set_2 | refine IsS93.far ?_ NB188_184.out _ | refine IsS93.far ?_ NB188_225.out _) | exact HI188.out)⟩
                    have n3_ : Aside0 (Below w.heap.size w ((((((((w38.setCell ⟨gb225, 0, none⟩ (.int .u64 (IntKind.u64.wrap (a1)))).setCell ⟨gb225, 1, none⟩ (.int .u64 (IntKind.u64.wrap (t201)))).setCell ⟨gb225, 2, none⟩ (.int .u64 (IntKind.u64.wrap (t205)))).setCell ⟨gb225, 3, none⟩ (.int .u64 t209)).setCell ⟨gb225, 4, none⟩ (.int .u64 t213)).setCell ⟨gb225, 5, none⟩ (.int .u64 t217)).setCell ⟨gb225, 6, none⟩ (.int .u64 t221)).setCell ⟨gb225, 7, none⟩ (.string (⟨#[]⟩ : ByteArray)))) := ⟨by repeat (first | (with_reducible first | exact HB.out | apply below_alloc | apply pw_below_drewN | apply below_drew1 | refine below_set ?_ (IsS93.ge HI188.out) | refine below_set ?_ GE184.out | refine below_set ?_ GE225.out) | exact HB.out)⟩
                    (try clear BK184)
                    (try clear BK225)
                    (try clear HI188)
                    (try clear HB)
                    generalize ((((((((w38.setCell ⟨gb225, 0, none⟩ (.int .u64 (IntKind.u64.wrap (a1)))).setCell ⟨gb225, 1, none⟩ (.int .u64 (IntKind.u64.wrap (t201)))).setCell ⟨gb225, 2, none⟩ (.int .u64 (IntKind.u64.wrap (t205)))).setCell ⟨gb225, 3, none⟩ (.int .u64 t209)).setCell ⟨gb225, 4, none⟩ (.int .u64 t213)).setCell ⟨gb225, 5, none⟩ (.int .u64 t217)).setCell ⟨gb225, 6, none⟩ (.int .u64 t221)).setCell ⟨gb225, 7, none⟩ (.string (⟨#[]⟩ : ByteArray))) = w42 at n0_ n1_ n2_ n3_ ⊢
                    have BK184 := n0_
                    have BK225 := n1_
                    have HI188 := n2_
                    have HB := n3_
                    clear n0_ n1_ n2_ n3_
                    have n0_ := Aside0.mk (blk_drew BK184.out)
                    have n1_ := Aside0.mk (blk_drew BK225.out)
                    have n2_ := Aside0.mk (IsS93.drew HI188.out)
                    have n3_ := Aside0.mk (below_drew1 HB.out)
                    clear BK184
                    clear BK225
                    clear HI188
                    clear HB
                    have BK184 := n0_
                    have BK225 := n1_
                    have HI188 := n2_
                    have HB := n3_
                    clear n0_ n1_ n2_ n3_
                    refine start_ (n := 23) (S := fun w' => w'.cell? ⟨gb225, 0, none⟩ = some (.int .u64 (IntKind.u64.wrap (a1))) ∧ w'.cell? ⟨gb225, 1, none⟩ = some (.int .u64 (IntKind.u64.wrap (t201))) ∧ w'.cell? ⟨gb225, 2, none⟩ = some (.int .u64 (IntKind.u64.wrap (t205))) ∧ w'.cell? ⟨gb225, 3, none⟩ = some (.int .u64 t209) ∧ w'.cell? ⟨gb225, 4, none⟩ = some (.int .u64 t213) ∧ w'.cell? ⟨gb225, 5, none⟩ = some (.int .u64 t217) ∧ w'.cell? ⟨gb225, 6, none⟩ = some (.int .u64 t221) ∧ w'.cell? ⟨gb225, 7, none⟩ = some (.string (⟨#[]⟩ : ByteArray))) (ds := []) #[false, false, false, false, false, false, false, false, false, false, false, false, false, false, false, false, false, false, false, false, false, false, false] (by kernel_rfl) rfl rfl ⟨(blk_cell BK225.out 0).trans rfl, (blk_cell BK225.out 1).trans rfl, (blk_cell BK225.out 2).trans rfl, (blk_cell BK225.out 3).trans rfl, (blk_cell BK225.out 4).trans rfl, (blk_cell BK225.out 5).trans rfl, (blk_cell BK225.out 6).trans rfl, (blk_cell BK225.out 7).trans rfl⟩ (fun hHeld => ?_); refine with_tabW tail_wide.tab7 tail_wide.bits7 (fun HT_ HW_ => ?_)
                    generalize w42.drew = w43 at BK184 BK225 HI188 HB hHeld ⊢
                    refine pure_ (i := 1) (N := some 57) (v := ?_) (a' := ?_) #[false, true, false, false, false, false, false, false, false, false, false, false, false, false, false, false, false, false, false, false, false, false, false] rfl rfl (any_of HT_.out (by kernel_rfl)) (fun _ _ _ h => h) (Or.inl ⟨by rfl, ?_⟩) ?_ ?_
                    rotate_left
                    · intro w'
                      go_simp
                      with_reducible rfl
                    rotate_left
                    · simp only [Act.put, List.setIfInBounds_toArray, List.set_cons_zero, List.set_cons_succ, i64_w, i32_w]
                      rfl
                    refine take_ (i := 0) (N := some 56) (v := ?_) (a' := ?_) #[true, true, false, false, false, false, false, false, false, false, false, false, false, false, false, false, false, false, false, false, false, false, false] rfl rfl (take_ofW HT_.out HW_.out (by kernel_rfl)) (fun _ _ _ h => h) (Or.inl ⟨by rfl, ?_⟩) hHeld ?_ ?_
                    rotate_left
                    · rintro w' ⟨s0, s1, s2, s3, s4, s5, s6, s7⟩
                      go_simp
                      with_reducible rfl
                    rotate_left
                    · simp only [Act.put, List.setIfInBounds_toArray, List.set_cons_zero, List.set_cons_succ, i64_w, i32_w]
                      rfl
                    refine one_ (i := 2) (N := some 58) #[true, true, true, false, false, false, false, false, false, false, false, false, false, false, false, false, false, false, false, false, false, false, false] rfl rfl (one_of HT_.out (by kernel_rfl)) (by decide) (fun K hK => ?_)
                    refine goes_ Try.func44 (by kernel_rfl) rfl #[.pointer (some ⟨g188, 0, none⟩)] (by rfl) rfl rfl (by (try simp only [List.map_toArray, List.map_cons, List.map_nil]); first | done | rfl | (simp only [List.length_drop, List.length_take]; rfl)) ?_
                    with_reducible refine (cursor_Cursor_Err.calls g188 t222 t223 t224 t226 t227 t228 t229 w _ ?side1 ?side2 A27.out).mono ?_
                    (case side1 => repeat (first | (with_reducible first | exact HI188.out | apply IsS93.alloc | apply IsS93.drewN | apply IsS93.drew | apply IsS93.set_0 | apply IsS93.set_1 | apply IsS93.set_2 | refine IsS93.far ?_ NB188_184.out _ | refine IsS93.far ?_ NB188_225.out _) | exact HI188.out))
                    (case side2 => repeat (first | (with_reducible first | exact HB.out | apply below_alloc | apply pw_below_drewN | apply below_drew1 | refine below_set ?_ (IsS93.ge HI188.out) | refine below_set ?_ GE184.out | refine below_set ?_ GE225.out) | exact HB.out))
                    rintro e w44 ⟨rfl, hi, hb, hk⟩
                    refine ⟨_, rfl, ?_⟩
                    have n0_ := Aside0.mk (KeepBut.blk hk (g' := gb184) (o := .cells #[.int .u64 0, .int .u64 0, .int .u64 0, .int .u64 0, .int .u64 0, .int .u64 0, .int .u64 0, .string (⟨#[]⟩ : ByteArray)] 47 (0, 0)) (by (with_reducible repeat (first | refine blk_drewN ?_ _ | refine blk_drew ?_ | refine blk_alloc ?_ _)); exact BK184.out) NB184_188.out (by simp))
                    have n1_ := Aside0.mk (KeepBut.blk hk (g' := gb225) (o := .cells #[.int .u64 (IntKind.u64.wrap (a1)), .int .u64 (IntKind.u64.wrap (t201)), .int .u64 (IntKind.u64.wrap (t205)), .int .u64 t209, .int .u64 t213, .int .u64 t217, .int .u64 t221, .string (⟨#[]⟩ : ByteArray)] 47 (0, 0)) (by (with_reducible repeat (first | refine blk_drewN ?_ _ | refine blk_drew ?_ | refine blk_alloc ?_ _)); exact BK225.out) NB225_188.out (by simp))
                    have n2_ := Aside0.mk (hb)
                    have n3_ := Aside0.mk (hi)
                    clear BK184
                    clear BK225
                    clear HB
                    clear HI188
                    have BK184 := n0_
                    have BK225 := n1_
                    have HB := n2_
                    have HI188 := n3_
                    clear n0_ n1_ n2_ n3_
                    (try clear hb)
                    (try clear hb2)
                    (try clear hk)
                    (try clear hi)
                    refine hK.out _ _ ⟨(blk_cell BK225.out 0).trans rfl, (blk_cell BK225.out 1).trans rfl, (blk_cell BK225.out 2).trans rfl, (blk_cell BK225.out 3).trans rfl, (blk_cell BK225.out 4).trans rfl, (blk_cell BK225.out 5).trans rfl, (blk_cell BK225.out 6).trans rfl, (blk_cell BK225.out 7).trans rfl⟩ (fun hHeld => ?_)
                    clear hK K
                    refine norm_ (a' := ?_) ?_ ?_
                    rotate_left
                    · show Act.put _ (some 58) _ = _
                      simp only [Act.put, List.setIfInBounds_toArray, List.set_cons_zero, List.set_cons_succ, i64_w, i32_w]
                      rfl
                    refine pure_ (i := 3) (N := some 59) (v := ?_) (a' := ?_) #[true, true, true, true, false, false, false, false, false, false, false, false, false, false, false, false, false, false, false, false, false, false, false] rfl rfl (any_of HT_.out (by kernel_rfl)) (fun _ _ _ h => h) (Or.inl ⟨by rfl, ?_⟩) ?_ ?_
                    rotate_left
                    · intro w'
                      go_simp
                      with_reducible rfl
                    rotate_left
                    · simp only [Act.put, List.setIfInBounds_toArray, List.set_cons_zero, List.set_cons_succ, i64_w, i32_w]
                      rfl
                    refine pure_ (i := 4) (N := some 60) (v := ?_) (a' := ?_) #[true, true, true, true, true, false, false, false, false, false, false, false, false, false, false, false, false, false, false, false, false, false, false] rfl rfl (any_of HT_.out (by kernel_rfl)) (fun _ _ _ h => h) (Or.inl ⟨by rfl, ?_⟩) ?_ ?_
                    rotate_left
                    · intro w'
                      go_simp
                      with_reducible rfl
                    rotate_left
                    · simp only [Act.put, List.setIfInBounds_toArray, List.set_cons_zero, List.set_cons_succ, i64_w, i32_w]
                      rfl
                    refine pure_ (i := 5) (N := some 61) (v := ?_) (a' := ?_) #[true, true, true, true, true, true, false, false, false, false, false, false, false, false, false, false, false, false, false, false, false, false, false] rfl rfl (any_of HT_.out (by kernel_rfl)) (fun _ _ _ h => h) (Or.inl ⟨by rfl, ?_⟩) ?_ ?_
                    rotate_left
                    · intro w'
                      go_simp
                      with_reducible rfl
                    rotate_left
                    · simp only [Act.put, List.setIfInBounds_toArray, List.set_cons_zero, List.set_cons_succ, i64_w, i32_w]
                      rfl
                    refine take_ (i := 6) (N := some 62) (v := ?_) (a' := ?_) #[true, true, true, true, true, true, true, false, false, false, false, false, false, false, false, false, false, false, false, false, false, false, false] rfl rfl (take_ofW HT_.out HW_.out (by kernel_rfl)) (fun _ _ _ h => h) (Or.inl ⟨by rfl, ?_⟩) hHeld ?_ ?_
                    rotate_left
                    · rintro w' ⟨s0, s1, s2, s3, s4, s5, s6, s7⟩
                      go_simp
                      with_reducible rfl
                    rotate_left
                    · simp only [Act.put, List.setIfInBounds_toArray, List.set_cons_zero, List.set_cons_succ, i64_w, i32_w]
                      rfl
                    refine pure_ (i := 7) (N := some 63) (v := ?_) (a' := ?_) #[true, true, true, true, true, true, true, true, false, false, false, false, false, false, false, false, false, false, false, false, false, false, false] rfl rfl (any_of HT_.out (by kernel_rfl)) (fun _ _ _ h => h) (Or.inl ⟨by rfl, ?_⟩) ?_ ?_
                    rotate_left
                    · intro w'
                      go_simp
                      with_reducible rfl
                    rotate_left
                    · simp only [Act.put, List.setIfInBounds_toArray, List.set_cons_zero, List.set_cons_succ, i64_w, i32_w]
                      rfl
                    refine pure_ (i := 8) (N := some 64) (v := ?_) (a' := ?_) #[true, true, true, true, true, true, true, true, true, false, false, false, false, false, false, false, false, false, false, false, false, false, false] rfl rfl (any_of HT_.out (by kernel_rfl)) (fun _ _ _ h => h) (Or.inl ⟨by rfl, ?_⟩) ?_ ?_
                    rotate_left
                    · intro w'
                      go_simp
                      with_reducible rfl
                    rotate_left
                    · simp only [Act.put, List.setIfInBounds_toArray, List.set_cons_zero, List.set_cons_succ, i64_w, i32_w]
                      rfl
                    refine pure_ (i := 9) (N := some 65) (v := ?_) (a' := ?_) #[true, true, true, true, true, true, true, true, true, true, false, false, false, false, false, false, false, false, false, false, false, false, false] rfl rfl (any_of HT_.out (by kernel_rfl)) (fun _ _ _ h => h) (Or.inl ⟨by rfl, ?_⟩) ?_ ?_
                    rotate_left
                    · intro w'
                      go_simp
                      with_reducible rfl
                    rotate_left
                    · simp only [Act.put, List.setIfInBounds_toArray, List.set_cons_zero, List.set_cons_succ, i64_w, i32_w]
                      rfl
                    refine pure_ (i := 10) (N := some 66) (v := ?_) (a' := ?_) #[true, true, true, true, true, true, true, true, true, true, true, false, false, false, false, false, false, false, false, false, false, false, false] rfl rfl (any_of HT_.out (by kernel_rfl)) (fun _ _ _ h => h) (Or.inl ⟨by rfl, ?_⟩) ?_ ?_
                    rotate_left
                    · intro w'
                      go_simp
                      with_reducible rfl
                    rotate_left
                    · simp only [Act.put, List.setIfInBounds_toArray, List.set_cons_zero, List.set_cons_succ, i64_w, i32_w]
                      rfl
                    refine take_ (i := 11) (N := some 67) (v := ?_) (a' := ?_) #[true, true, true, true, true, true, true, true, true, true, true, true, false, false, false, false, false, false, false, false, false, false, false] rfl rfl (take_ofW HT_.out HW_.out (by kernel_rfl)) (fun _ _ _ h => h) (Or.inl ⟨by rfl, ?_⟩) hHeld ?_ ?_
                    rotate_left
                    · rintro w' ⟨s0, s1, s2, s3, s4, s5, s6, s7⟩
                      go_simp
                      with_reducible rfl
                    rotate_left
                    · simp only [Act.put, List.setIfInBounds_toArray, List.set_cons_zero, List.set_cons_succ, i64_w, i32_w]
                      rfl
                    refine pure_ (i := 12) (N := some 68) (v := ?_) (a' := ?_) #[true, true, true, true, true, true, true, true, true, true, true, true, true, false, false, false, false, false, false, false, false, false, false] rfl rfl (any_of HT_.out (by kernel_rfl)) (fun _ _ _ h => h) (Or.inl ⟨by rfl, ?_⟩) ?_ ?_
                    rotate_left
                    · intro w'
                      go_simp
                      with_reducible rfl
                    rotate_left
                    · simp only [Act.put, List.setIfInBounds_toArray, List.set_cons_zero, List.set_cons_succ, i64_w, i32_w]
                      rfl
                    refine pure_ (i := 13) (N := some 69) (v := ?_) (a' := ?_) #[true, true, true, true, true, true, true, true, true, true, true, true, true, true, false, false, false, false, false, false, false, false, false] rfl rfl (any_of HT_.out (by kernel_rfl)) (fun _ _ _ h => h) (Or.inl ⟨by rfl, ?_⟩) ?_ ?_
                    rotate_left
                    · intro w'
                      go_simp
                      with_reducible rfl
                    rotate_left
                    · simp only [Act.put, List.setIfInBounds_toArray, List.set_cons_zero, List.set_cons_succ, i64_w, i32_w]
                      rfl
                    refine pure_ (i := 14) (N := some 70) (v := ?_) (a' := ?_) #[true, true, true, true, true, true, true, true, true, true, true, true, true, true, true, false, false, false, false, false, false, false, false] rfl rfl (any_of HT_.out (by kernel_rfl)) (fun _ _ _ h => h) (Or.inl ⟨by rfl, ?_⟩) ?_ ?_
                    rotate_left
                    · intro w'
                      go_simp
                      with_reducible rfl
                    rotate_left
                    · simp only [Act.put, List.setIfInBounds_toArray, List.set_cons_zero, List.set_cons_succ, i64_w, i32_w]
                      rfl
                    refine pure_ (i := 15) (N := some 71) (v := ?_) (a' := ?_) #[true, true, true, true, true, true, true, true, true, true, true, true, true, true, true, true, false, false, false, false, false, false, false] rfl rfl (any_of HT_.out (by kernel_rfl)) (fun _ _ _ h => h) (Or.inl ⟨by rfl, ?_⟩) ?_ ?_
                    rotate_left
                    · intro w'
                      go_simp
                      with_reducible rfl
                    rotate_left
                    · simp only [Act.put, List.setIfInBounds_toArray, List.set_cons_zero, List.set_cons_succ, i64_w, i32_w]
                      rfl
                    refine pure_ (i := 17) (N := some 73) (v := ?_) (a' := ?_) #[true, true, true, true, true, true, true, true, true, true, true, true, true, true, true, true, false, true, false, false, false, false, false] rfl rfl (any_of HT_.out (by kernel_rfl)) (fun _ _ _ h => h) (Or.inl ⟨by rfl, ?_⟩) ?_ ?_
                    rotate_left
                    · intro w'
                      go_simp
                      with_reducible rfl
                    rotate_left
                    · simp only [Act.put, List.setIfInBounds_toArray, List.set_cons_zero, List.set_cons_succ, i64_w, i32_w]
                      rfl
                    refine take_ (i := 16) (N := some 72) (v := ?_) (a' := ?_) #[true, true, true, true, true, true, true, true, true, true, true, true, true, true, true, true, true, true, false, false, false, false, false] rfl rfl (take_ofW HT_.out HW_.out (by kernel_rfl)) (fun _ _ _ h => h) (Or.inl ⟨by rfl, ?_⟩) hHeld ?_ ?_
                    rotate_left
                    · rintro w' ⟨s0, s1, s2, s3, s4, s5, s6, s7⟩
                      go_simp
                      with_reducible rfl
                    rotate_left
                    · simp only [Act.put, List.setIfInBounds_toArray, List.set_cons_zero, List.set_cons_succ, i64_w, i32_w]
                      rfl
                    refine take_ (i := 18) (N := some 74) (v := ?_) (a' := ?_) #[true, true, true, true, true, true, true, true, true, true, true, true, true, true, true, true, true, true, true, false, false, false, false] rfl rfl (take_ofW HT_.out HW_.out (by kernel_rfl)) (fun _ _ _ h => h) (Or.inl ⟨by rfl, ?_⟩) hHeld ?_ ?_
                    rotate_left
                    · rintro w' ⟨s0, s1, s2, s3, s4, s5, s6, s7⟩
                      go_simp
                      with_reducible rfl
                    rotate_left
                    · simp only [Act.put, List.setIfInBounds_toArray, List.set_cons_zero, List.set_cons_succ, i64_w, i32_w]
                      rfl
                    refine pure_ (i := 19) (N := some 75) (v := ?_) (a' := ?_) #[true, true, true, true, true, true, true, true, true, true, true, true, true, true, true, true, true, true, true, true, false, false, false] rfl rfl (any_of HT_.out (by kernel_rfl)) (fun _ _ _ h => h) (Or.inl ⟨by rfl, ?_⟩) ?_ ?_
                    rotate_left
                    · intro w'
                      go_simp
                      with_reducible rfl
                    rotate_left
                    · simp only [Act.put, List.setIfInBounds_toArray, List.set_cons_zero, List.set_cons_succ, i64_w, i32_w]
                      rfl
                    refine pure_ (i := 20) (N := some 76) (v := ?_) (a' := ?_) #[true, true, true, true, true, true, true, true, true, true, true, true, true, true, true, true, true, true, true, true, true, false, false] rfl rfl (any_of HT_.out (by kernel_rfl)) (fun _ _ _ h => h) (Or.inl ⟨by rfl, ?_⟩) ?_ ?_
                    rotate_left
                    · intro w'
                      go_simp
                      with_reducible rfl
                    rotate_left
                    · simp only [Act.put, List.setIfInBounds_toArray, List.set_cons_zero, List.set_cons_succ, i64_w, i32_w]
                      rfl
                    refine one_ (i := 21) (N := none) #[true, true, true, true, true, true, true, true, true, true, true, true, true, true, true, true, true, true, true, true, true, true, false] rfl rfl (one_of HT_.out (by kernel_rfl)) (by decide) (fun K hK => ?_)
                    have hs45 : w44.cell? ⟨gb184, 0, none⟩ = some (.int .u64 0) := (blk_cell BK184.out 0).trans rfl
                    have hfs45 := blk_frozen BK184.out 0
                    have hns45_1 := NB225_184.out
                    have hms45_1 := NB184_225.out
                    have hs46 : w44.cell? ⟨gb184, 1, none⟩ = some (.int .u64 0) := (blk_cell BK184.out 1).trans rfl
                    have hfs46 := blk_frozen BK184.out 1
                    have hns46_1 := NB225_184.out
                    have hms46_1 := NB184_225.out
                    have hs47 : w44.cell? ⟨gb184, 2, none⟩ = some (.int .u64 0) := (blk_cell BK184.out 2).trans rfl
                    have hfs47 := blk_frozen BK184.out 2
                    have hns47_1 := NB225_184.out
                    have hms47_1 := NB184_225.out
                    have hs48 : w44.cell? ⟨gb184, 3, none⟩ = some (.int .u64 0) := (blk_cell BK184.out 3).trans rfl
                    have hfs48 := blk_frozen BK184.out 3
                    have hns48_1 := NB225_184.out
                    have hms48_1 := NB184_225.out
                    have hs49 : w44.cell? ⟨gb184, 4, none⟩ = some (.int .u64 0) := (blk_cell BK184.out 4).trans rfl
                    have hfs49 := blk_frozen BK184.out 4
                    have hns49_1 := NB225_184.out
                    have hms49_1 := NB184_225.out
                    have hs50 : w44.cell? ⟨gb184, 5, none⟩ = some (.int .u64 0) := (blk_cell BK184.out 5).trans rfl
                    have hfs50 := blk_frozen BK184.out 5
                    have hns50_1 := NB225_184.out
                    have hms50_1 := NB184_225.out
                    have hs51 : w44.cell? ⟨gb184, 6, none⟩ = some (.int .u64 0) := (blk_cell BK184.out 6).trans rfl
                    have hfs51 := blk_frozen BK184.out 6
                    have hns51_1 := NB225_184.out
                    have hms51_1 := NB184_225.out
                    have hs52 : w44.cell? ⟨gb184, 7, none⟩ = some (.string (⟨#[]⟩ : ByteArray)) := (blk_cell BK184.out 7).trans rfl
                    have hfs52 := blk_frozen BK184.out 7
                    have hns52_1 := NB225_184.out
                    have hms52_1 := NB184_225.out
                    refine skip_ (w1 := ?_) (by rfl) rfl ?_ ?_
                    rotate_left
                    · go_simp
                      rfl
                    refine hK.out _ _ ⟨((cell_far (p := ⟨gb184, _, none⟩) NB225_184.out _).trans (((cell_far (p := ⟨gb184, _, none⟩) NB225_184.out _).trans (((cell_far (p := ⟨gb184, _, none⟩) NB225_184.out _).trans (((cell_far (p := ⟨gb184, _, none⟩) NB225_184.out _).trans (((cell_far (p := ⟨gb184, _, none⟩) NB225_184.out _).trans (((cell_far (p := ⟨gb184, _, none⟩) NB225_184.out _).trans (((cell_far (p := ⟨gb184, _, none⟩) NB225_184.out _).trans (((cell_far (p := ⟨gb184, _, none⟩) NB225_184.out _).trans (hHeld.1)))))))))))))))), ((cell_far (p := ⟨gb184, _, none⟩) NB225_184.out _).trans (((cell_far (p := ⟨gb184, _, none⟩) NB225_184.out _).trans (((cell_far (p := ⟨gb184, _, none⟩) NB225_184.out _).trans (((cell_far (p := ⟨gb184, _, none⟩) NB225_184.out _).trans (((cell_far (p := ⟨gb184, _, none⟩) NB225_184.out _).trans (((cell_far (p := ⟨gb184, _, none⟩) NB225_184.out _).trans (((cell_far (p := ⟨gb184, _, none⟩) NB225_184.out _).trans (((cell_far (p := ⟨gb184, _, none⟩) NB225_184.out _).trans (hHeld.2.1)))))))))))))))), ((cell_far (p := ⟨gb184, _, none⟩) NB225_184.out _).trans (((cell_far (p := ⟨gb184, _, none⟩) NB225_184.out _).trans (((cell_far (p := ⟨gb184, _, none⟩) NB225_184.out _).trans (((cell_far (p := ⟨gb184, _, none⟩) NB225_184.out _).trans (((cell_far (p := ⟨gb184, _, none⟩) NB225_184.out _).trans (((cell_far (p := ⟨gb184, _, none⟩) NB225_184.out _).trans (((cell_far (p := ⟨gb184, _, none⟩) NB225_184.out _).trans (((cell_far (p := ⟨gb184, _, none⟩) NB225_184.out _).trans (hHeld.2.2.1)))))))))))))))), ((cell_far (p := ⟨gb184, _, none⟩) NB225_184.out _).trans (((cell_far (p := ⟨gb184, _, none⟩) NB225_184.out _).trans (((cell_far (p := ⟨gb184, _, none⟩) NB225_184.out _).trans (((cell_far (p := ⟨gb184, _, none⟩) NB225_184.out _).trans (((cell_far (p := ⟨gb184, _, none⟩) NB225_184.out _).trans (((cell_far (p := ⟨gb184, _, none⟩) NB225_184.out _).trans (((cell_far (p := ⟨gb184, _, none⟩) NB225_184.out _).trans (((cell_far (p := ⟨gb184, _, none⟩) NB225_184.out _).trans (hHeld.2.2.2.1)))))))))))))))), ((cell_far (p := ⟨gb184, _, none⟩) NB225_184.out _).trans (((cell_far (p := ⟨gb184, _, none⟩) NB225_184.out _).trans (((cell_far (p := ⟨gb184, _, none⟩) NB225_184.out _).trans (((cell_far (p := ⟨gb184, _, none⟩) NB225_184.out _).trans (((cell_far (p := ⟨gb184, _, none⟩) NB225_184.out _).trans (((cell_far (p := ⟨gb184, _, none⟩) NB225_184.out _).trans (((cell_far (p := ⟨gb184, _, none⟩) NB225_184.out _).trans (((cell_far (p := ⟨gb184, _, none⟩) NB225_184.out _).trans (hHeld.2.2.2.2.1)))))))))))))))), ((cell_far (p := ⟨gb184, _, none⟩) NB225_184.out _).trans (((cell_far (p := ⟨gb184, _, none⟩) NB225_184.out _).trans (((cell_far (p := ⟨gb184, _, none⟩) NB225_184.out _).trans (((cell_far (p := ⟨gb184, _, none⟩) NB225_184.out _).trans (((cell_far (p := ⟨gb184, _, none⟩) NB225_184.out _).trans (((cell_far (p := ⟨gb184, _, none⟩) NB225_184.out _).trans (((cell_far (p := ⟨gb184, _, none⟩) NB225_184.out _).trans (((cell_far (p := ⟨gb184, _, none⟩) NB225_184.out _).trans (hHeld.2.2.2.2.2.1)))))))))))))))), ((cell_far (p := ⟨gb184, _, none⟩) NB225_184.out _).trans (((cell_far (p := ⟨gb184, _, none⟩) NB225_184.out _).trans (((cell_far (p := ⟨gb184, _, none⟩) NB225_184.out _).trans (((cell_far (p := ⟨gb184, _, none⟩) NB225_184.out _).trans (((cell_far (p := ⟨gb184, _, none⟩) NB225_184.out _).trans (((cell_far (p := ⟨gb184, _, none⟩) NB225_184.out _).trans (((cell_far (p := ⟨gb184, _, none⟩) NB225_184.out _).trans (((cell_far (p := ⟨gb184, _, none⟩) NB225_184.out _).trans (hHeld.2.2.2.2.2.2.1)))))))))))))))), ((cell_far (p := ⟨gb184, _, none⟩) NB225_184.out _).trans (((cell_far (p := ⟨gb184, _, none⟩) NB225_184.out _).trans (((cell_far (p := ⟨gb184, _, none⟩) NB225_184.out _).trans (((cell_far (p := ⟨gb184, _, none⟩) NB225_184.out _).trans (((cell_far (p := ⟨gb184, _, none⟩) NB225_184.out _).trans (((cell_far (p := ⟨gb184, _, none⟩) NB225_184.out _).trans (((cell_far (p := ⟨gb184, _, none⟩) NB225_184.out _).trans (((cell_far (p := ⟨gb184, _, none⟩) NB225_184.out _).trans (hHeld.2.2.2.2.2.2.2))))))))))))))))⟩ (fun hHeld => ?_)
                    clear hK K
                    refine pure_ (i := 22) (N := some 7) (v := ?_) (a' := ?_) #[true, true, true, true, true, true, true, true, true, true, true, true, true, true, true, true, true, true, true, true, true, true, true] rfl rfl (any_of HT_.out (by kernel_rfl)) (fun _ _ _ h => h) (Or.inl ⟨by rfl, ?_⟩) ?_ ?_
                    rotate_left
                    · intro w'
                      go_simp
                      with_reducible rfl
                    rotate_left
                    · simp only [Act.put, List.setIfInBounds_toArray, List.set_cons_zero, List.set_cons_succ, i64_w, i32_w]
                      rfl
                    refine done_ (done_of HT_.out (by kernel_rfl)) ?_
                    try go_wp2
                    refine bodyPost_ret (results_ct rfl _ _ gb184 47 #[.int .u64 (IntKind.u64.wrap (a1)), .int .u64 (IntKind.u64.wrap (t201)), .int .u64 (IntKind.u64.wrap (t205)), .int .u64 t209, .int .u64 t213, .int .u64 t217, .int .u64 t221, .string (⟨#[]⟩ : ByteArray)] (0, 0) _ rfl (by (with_reducible repeat (first | refine blk_drewN ?_ _ | refine blk_drew ?_ | refine blk_alloc ?_ _)); refine blk_put (cs := #[.int .u64 (IntKind.u64.wrap (a1)), .int .u64 (IntKind.u64.wrap (t201)), .int .u64 (IntKind.u64.wrap (t205)), .int .u64 t209, .int .u64 t213, .int .u64 t217, .int .u64 t221, .string (⟨#[]⟩ : ByteArray)]) ?_ 7 _ rfl; (with_reducible repeat (first | refine blk_drewN ?_ _ | refine blk_drew ?_ | refine blk_alloc ?_ _)); refine blk_put (cs := #[.int .u64 (IntKind.u64.wrap (a1)), .int .u64 (IntKind.u64.wrap (t201)), .int .u64 (IntKind.u64.wrap (t205)), .int .u64 t209, .int .u64 t213, .int .u64 t217, .int .u64 0, .string (⟨#[]⟩ : ByteArray)]) ?_ 6 _ rfl; (with_reducible repeat (first | refine blk_drewN ?_ _ | refine blk_drew ?_ | refine blk_alloc ?_ _)); refine blk_put (cs := #[.int .u64 (IntKind.u64.wrap (a1)), .int .u64 (IntKind.u64.wrap (t201)), .int .u64 (IntKind.u64.wrap (t205)), .int .u64 t209, .int .u64 t213, .int .u64 0, .int .u64 0, .string (⟨#[]⟩ : ByteArray)]) ?_ 5 _ rfl; (with_reducible repeat (first | refine blk_drewN ?_ _ | refine blk_drew ?_ | refine blk_alloc ?_ _)); refine blk_put (cs := #[.int .u64 (IntKind.u64.wrap (a1)), .int .u64 (IntKind.u64.wrap (t201)), .int .u64 (IntKind.u64.wrap (t205)), .int .u64 t209, .int .u64 0, .int .u64 0, .int .u64 0, .string (⟨#[]⟩ : ByteArray)]) ?_ 4 _ rfl; (with_reducible repeat (first | refine blk_drewN ?_ _ | refine blk_drew ?_ | refine blk_alloc ?_ _)); refine blk_put (cs := #[.int .u64 (IntKind.u64.wrap (a1)), .int .u64 (IntKind.u64.wrap (t201)), .int .u64 (IntKind.u64.wrap (t205)), .int .u64 0, .int .u64 0, .int .u64 0, .int .u64 0, .string (⟨#[]⟩ : ByteArray)]) ?_ 3 _ rfl; (with_reducible repeat (first | refine blk_drewN ?_ _ | refine blk_drew ?_ | refine blk_alloc ?_ _)); refine blk_put (cs := #[.int .u64 (IntKind.u64.wrap (a1)), .int .u64 (IntKind.u64.wrap (t201)), .int .u64 0, .int .u64 0, .int .u64 0, .int .u64 0, .int .u64 0, .string (⟨#[]⟩ : ByteArray)]) ?_ 2 _ rfl; (with_reducible repeat (first | refine blk_drewN ?_ _ | refine blk_drew ?_ | refine blk_alloc ?_ _)); refine blk_put (cs := #[.int .u64 (IntKind.u64.wrap (a1)), .int .u64 0, .int .u64 0, .int .u64 0, .int .u64 0, .int .u64 0, .int .u64 0, .string (⟨#[]⟩ : ByteArray)]) ?_ 1 _ rfl; (with_reducible repeat (first | refine blk_drewN ?_ _ | refine blk_drew ?_ | refine blk_alloc ?_ _)); refine blk_put (cs := #[.int .u64 0, .int .u64 0, .int .u64 0, .int .u64 0, .int .u64 0, .int .u64 0, .int .u64 0, .string (⟨#[]⟩ : ByteArray)]) ?_ 0 _ rfl; (with_reducible repeat (first | refine blk_drewN ?_ _ | refine blk_drew ?_ | refine blk_alloc ?_ _)); exact BK184.out) Try.underlying47 rfl (by kernel_rfl)) rfl ?_
                    exact ⟨by first | rfl | (simp [errW_none, errW_some] <;> rfl) | (simp [*, errW_none, errW_some] <;> rfl), by repeat (first | (with_reducible first | exact HB.out | apply below_alloc | apply pw_below_drewN | apply below_drew1 | refine below_set ?_ (IsS93.ge HI188.out) | refine below_set ?_ GE184.out | refine below_set ?_ GE225.out) | exact HB.out)⟩
                  · rw [if_neg c30] at H
                    have c30b0 : ((IntKind.u64.wrap (t205)) == 0) = false := beq_eq_false_iff_ne.mpr c30
                    have c30b1 : ((IntKind.u64.wrap (t205)) != 0) = true := bne_iff_ne.mpr c30
                    simp only [Option.some.injEq, Prod.mk.injEq] at H
                    obtain ⟨rfl, rfl, rfl, rfl, rfl, rfl, rfl, rfl, rfl⟩ := H
                    try go_wp2_with (first | ((with_reducible refine gate_callee (f := 39) rfl ?_); refine goesL_ (some 38) rfl rfl Try.func39 (by kernel_rfl) rfl #[.pointer (some ⟨g188, 0, none⟩), .int .i64 4] rfl (by (try simp only [List.map_toArray, List.map_cons, List.map_nil]); first | done | rfl | (simp only [List.length_drop, List.length_take]; rfl)) ?_; (with_reducible refine (cursor_Cursor_Take.calls g188 t194 t195 t196 4 t197 t198 t199 t200 w _ ?side1 ?side2 A20.out).mono ?_); (case side1 => repeat (first | (with_reducible first | exact HI188.out | apply IsS93.alloc | apply IsS93.drewN | apply IsS93.drew | apply IsS93.set_0 | apply IsS93.set_1 | apply IsS93.set_2 | refine IsS93.far ?_ NB188_184.out _) | exact HI188.out)); (case side2 => repeat (first | (with_reducible first | exact HB.out | apply below_alloc | apply pw_below_drewN | apply below_drew1 | refine below_set ?_ (IsS93.ge HI188.out) | refine below_set ?_ GE184.out) | exact HB.out)); rintro e w53 ⟨rfl, hi, hb, hk⟩; refine ⟨_, rfl, ?_⟩; have n0_ := Aside0.mk (KeepBut.blk hk (g' := gb184) (o := .cells #[.int .u64 0, .int .u64 0, .int .u64 0, .int .u64 0, .int .u64 0, .int .u64 0, .int .u64 0, .string (⟨#[]⟩ : ByteArray)] 47 (0, 0)) (by (with_reducible repeat (first | refine blk_drewN ?_ _ | refine blk_drew ?_ | refine blk_alloc ?_ _)); exact BK184.out) NB184_188.out (by simp)); have n1_ := Aside0.mk (hb); have n2_ := Aside0.mk (hi); clear BK184; clear HB; clear HI188; have BK184 := n0_; have HB := n1_; have HI188 := n2_; clear n0_ n1_ n2_; (try clear hb); (try clear hb2); (try clear hk); (try clear hi)) | ((with_reducible refine gate_callee (f := 41) rfl ?_); refine goesL_ (some 42) rfl rfl Try.func41 (by kernel_rfl) rfl #[.pointer (some ⟨g188, 0, none⟩)] rfl (by (try simp only [List.map_toArray, List.map_cons, List.map_nil]); first | done | rfl | (simp only [List.length_drop, List.length_take]; rfl)) ?_; (with_reducible refine (cursor_Cursor_Four.calls kj9 g188 t198 t199 t200 t201 t202 t203 t204 w _ ?side1 ?side2 A21.out).mono ?_); (case side1 => repeat (first | (with_reducible first | exact HI188.out | apply IsS93.alloc | apply IsS93.drewN | apply IsS93.drew | apply IsS93.set_0 | apply IsS93.set_1 | apply IsS93.set_2 | refine IsS93.far ?_ NB188_184.out _) | exact HI188.out)); (case side2 => repeat (first | (with_reducible first | exact HB.out | apply below_alloc | apply pw_below_drewN | apply below_drew1 | refine below_set ?_ (IsS93.ge HI188.out) | refine below_set ?_ GE184.out) | exact HB.out)); rintro e w54 ⟨rfl, hi, hb, hk⟩; refine ⟨_, rfl, ?_⟩; have n0_ := Aside0.mk (KeepBut.blk hk (g' := gb184) (o := .cells #[.int .u64 0, .int .u64 0, .int .u64 0, .int .u64 0, .int .u64 0, .int .u64 0, .int .u64 0, .string (⟨#[]⟩ : ByteArray)] 47 (0, 0)) (by (with_reducible repeat (first | refine blk_drewN ?_ _ | refine blk_drew ?_ | refine blk_alloc ?_ _)); exact BK184.out) NB184_188.out (by simp)); have n1_ := Aside0.mk (hb); have n2_ := Aside0.mk (hi); clear BK184; clear HB; clear HI188; have BK184 := n0_; have HB := n1_; have HI188 := n2_; clear n0_ n1_ n2_; (try clear hb); (try clear hb2); (try clear hk); (try clear hi)) | ((with_reducible refine gate_callee (f := 41) rfl ?_); refine goesL_ (some 45) rfl rfl Try.func41 (by kernel_rfl) rfl #[.pointer (some ⟨g188, 0, none⟩)] rfl (by (try simp only [List.map_toArray, List.map_cons, List.map_nil]); first | done | rfl | (simp only [List.length_drop, List.length_take]; rfl)) ?_; (with_reducible refine (cursor_Cursor_Four.calls kj9 g188 t202 t203 t204 t205 t206 t207 t208 w _ ?side1 ?side2 A22.out).mono ?_); (case side1 => repeat (first | (with_reducible first | exact HI188.out | apply IsS93.alloc | apply IsS93.drewN | apply IsS93.drew | apply IsS93.set_0 | apply IsS93.set_1 | apply IsS93.set_2 | refine IsS93.far ?_ NB188_184.out _) | exact HI188.out)); (case side2 => repeat (first | (with_reducible first | exact HB.out | apply below_alloc | apply pw_below_drewN | apply below_drew1 | refine below_set ?_ (IsS93.ge HI188.out) | refine below_set ?_ GE184.out) | exact HB.out)); rintro e w55 ⟨rfl, hi, hb, hk⟩; refine ⟨_, rfl, ?_⟩; have n0_ := Aside0.mk (KeepBut.blk hk (g' := gb184) (o := .cells #[.int .u64 0, .int .u64 0, .int .u64 0, .int .u64 0, .int .u64 0, .int .u64 0, .int .u64 0, .string (⟨#[]⟩ : ByteArray)] 47 (0, 0)) (by (with_reducible repeat (first | refine blk_drewN ?_ _ | refine blk_drew ?_ | refine blk_alloc ?_ _)); exact BK184.out) NB184_188.out (by simp)); have n1_ := Aside0.mk (hb); have n2_ := Aside0.mk (hi); clear BK184; clear HB; clear HI188; have BK184 := n0_; have HB := n1_; have HI188 := n2_; clear n0_ n1_ n2_; (try clear hb); (try clear hb2); (try clear hk); (try clear hi)) | ((with_reducible refine gate_callee (f := 43) rfl ?_); refine goesL_ (some 48) rfl rfl Try.func43 (by kernel_rfl) rfl #[.pointer (some ⟨g188, 0, none⟩)] rfl (by (try simp only [List.map_toArray, List.map_cons, List.map_nil]); first | done | rfl | (simp only [List.length_drop, List.length_take]; rfl)) ?_; (with_reducible refine (cursor_Cursor_Eight.calls kj9 g188 t206 t207 t208 t209 t210 t211 t212 w _ ?side1 ?side2 A23.out).mono ?_); (case side1 => repeat (first | (with_reducible first | exact HI188.out | apply IsS93.alloc | apply IsS93.drewN | apply IsS93.drew | apply IsS93.set_0 | apply IsS93.set_1 | apply IsS93.set_2 | refine IsS93.far ?_ NB188_184.out _) | exact HI188.out)); (case side2 => repeat (first | (with_reducible first | exact HB.out | apply below_alloc | apply pw_below_drewN | apply below_drew1 | refine below_set ?_ (IsS93.ge HI188.out) | refine below_set ?_ GE184.out) | exact HB.out)); rintro e w56 ⟨rfl, hi, hb, hk⟩; refine ⟨_, rfl, ?_⟩; have n0_ := Aside0.mk (KeepBut.blk hk (g' := gb184) (o := .cells #[.int .u64 0, .int .u64 0, .int .u64 0, .int .u64 0, .int .u64 0, .int .u64 0, .int .u64 0, .string (⟨#[]⟩ : ByteArray)] 47 (0, 0)) (by (with_reducible repeat (first | refine blk_drewN ?_ _ | refine blk_drew ?_ | refine blk_alloc ?_ _)); exact BK184.out) NB184_188.out (by simp)); have n1_ := Aside0.mk (hb); have n2_ := Aside0.mk (hi); clear BK184; clear HB; clear HI188; have BK184 := n0_; have HB := n1_; have HI188 := n2_; clear n0_ n1_ n2_; (try clear hb); (try clear hb2); (try clear hk); (try clear hi)) | ((with_reducible refine gate_callee (f := 43) rfl ?_); refine goesL_ (some 50) rfl rfl Try.func43 (by kernel_rfl) rfl #[.pointer (some ⟨g188, 0, none⟩)] rfl (by (try simp only [List.map_toArray, List.map_cons, List.map_nil]); first | done | rfl | (simp only [List.length_drop, List.length_take]; rfl)) ?_; (with_reducible refine (cursor_Cursor_Eight.calls kj9 g188 t210 t211 t212 t213 t214 t215 t216 w _ ?side1 ?side2 A24.out).mono ?_); (case side1 => repeat (first | (with_reducible first | exact HI188.out | apply IsS93.alloc | apply IsS93.drewN | apply IsS93.drew | apply IsS93.set_0 | apply IsS93.set_1 | apply IsS93.set_2 | refine IsS93.far ?_ NB188_184.out _) | exact HI188.out)); (case side2 => repeat (first | (with_reducible first | exact HB.out | apply below_alloc | apply pw_below_drewN | apply below_drew1 | refine below_set ?_ (IsS93.ge HI188.out) | refine below_set ?_ GE184.out) | exact HB.out)); rintro e w57 ⟨rfl, hi, hb, hk⟩; refine ⟨_, rfl, ?_⟩; have n0_ := Aside0.mk (KeepBut.blk hk (g' := gb184) (o := .cells #[.int .u64 0, .int .u64 0, .int .u64 0, .int .u64 0, .int .u64 0, .int .u64 0, .int .u64 0, .string (⟨#[]⟩ : ByteArray)] 47 (0, 0)) (by (with_reducible repeat (first | refine blk_drewN ?_ _ | refine blk_drew ?_ | refine blk_alloc ?_ _)); exact BK184.out) NB184_188.out (by simp)); have n1_ := Aside0.mk (hb); have n2_ := Aside0.mk (hi); clear BK184; clear HB; clear HI188; have BK184 := n0_; have HB := n1_; have HI188 := n2_; clear n0_ n1_ n2_; (try clear hb); (try clear hb2); (try clear hk); (try clear hi)) | ((with_reducible refine gate_callee (f := 43) rfl ?_); refine goesL_ (some 52) rfl rfl Try.func43 (by kernel_rfl) rfl #[.pointer (some ⟨g188, 0, none⟩)] rfl (by (try simp only [List.map_toArray, List.map_cons, List.map_nil]); first | done | rfl | (simp only [List.length_drop, List.length_take]; rfl)) ?_; (with_reducible refine (cursor_Cursor_Eight.calls kj9 g188 t214 t215 t216 t217 t218 t219 t220 w _ ?side1 ?side2 A25.out).mono ?_); (case side1 => repeat (first | (with_reducible first | exact HI188.out | apply IsS93.alloc | apply IsS93.drewN | apply IsS93.drew | apply IsS93.set_0 | apply IsS93.set_1 | apply IsS93.set_2 | refine IsS93.far ?_ NB188_184.out _) | exact HI188.out)); (case side2 => repeat (first | (with_reducible first | exact HB.out | apply below_alloc | apply pw_below_drewN | apply below_drew1 | refine below_set ?_ (IsS93.ge HI188.out) | refine below_set ?_ GE184.out) | exact HB.out)); rintro e w58 ⟨rfl, hi, hb, hk⟩; refine ⟨_, rfl, ?_⟩; have n0_ := Aside0.mk (KeepBut.blk hk (g' := gb184) (o := .cells #[.int .u64 0, .int .u64 0, .int .u64 0, .int .u64 0, .int .u64 0, .int .u64 0, .int .u64 0, .string (⟨#[]⟩ : ByteArray)] 47 (0, 0)) (by (with_reducible repeat (first | refine blk_drewN ?_ _ | refine blk_drew ?_ | refine blk_alloc ?_ _)); exact BK184.out) NB184_188.out (by simp)); have n1_ := Aside0.mk (hb); have n2_ := Aside0.mk (hi); clear BK184; clear HB; clear HI188; have BK184 := n0_; have HB := n1_; have HI188 := n2_; clear n0_ n1_ n2_; (try clear hb); (try clear hb2); (try clear hk); (try clear hi)) | ((with_reducible refine gate_callee (f := 43) rfl ?_); refine goesL_ (some 54) rfl rfl Try.func43 (by kernel_rfl) rfl #[.pointer (some ⟨g188, 0, none⟩)] rfl (by (try simp only [List.map_toArray, List.map_cons, List.map_nil]); first | done | rfl | (simp only [List.length_drop, List.length_take]; rfl)) ?_; (with_reducible refine (cursor_Cursor_Eight.calls kj9 g188 t218 t219 t220 t221 t222 t223 t224 w _ ?side1 ?side2 A26.out).mono ?_); (case side1 => repeat (first | (with_reducible first | exact HI188.out | apply IsS93.alloc | apply IsS93.drewN | apply IsS93.drew | apply IsS93.set_0 | apply IsS93.set_1 | apply IsS93.set_2 | refine IsS93.far ?_ NB188_184.out _) | exact HI188.out)); (case side2 => repeat (first | (with_reducible first | exact HB.out | apply below_alloc | apply pw_below_drewN | apply below_drew1 | refine below_set ?_ (IsS93.ge HI188.out) | refine below_set ?_ GE184.out) | exact HB.out)); rintro e w59 ⟨rfl, hi, hb, hk⟩; refine ⟨_, rfl, ?_⟩; have n0_ := Aside0.mk (KeepBut.blk hk (g' := gb184) (o := .cells #[.int .u64 0, .int .u64 0, .int .u64 0, .int .u64 0, .int .u64 0, .int .u64 0, .int .u64 0, .string (⟨#[]⟩ : ByteArray)] 47 (0, 0)) (by (with_reducible repeat (first | refine blk_drewN ?_ _ | refine blk_drew ?_ | refine blk_alloc ?_ _)); exact BK184.out) NB184_188.out (by simp)); have n1_ := Aside0.mk (hb); have n2_ := Aside0.mk (hi); clear BK184; clear HB; clear HI188; have BK184 := n0_; have HB := n1_; have HI188 := n2_; clear n0_ n1_ n2_; (try clear hb); (try clear hb2); (try clear hk); (try clear hi)) | ((with_reducible refine gate_dst (N := 11) rfl ?_); refine box_event ?hg (N := 11) ?hd (cs := #[.int .u64 0, .int .u64 0, .int .u64 0, .int .u64 0, .int .u64 0, .int .u64 0, .int .u64 0, .string (⟨#[]⟩ : ByteArray)]) (t := 47) ?hr ?_; (case hd => rfl); (case hg => rfl); (case hr => first | (go_simp; done) | (go_simp; rfl)); intro gb225 hg w60 hbox hb; have n0_ := Aside0.mk (blk_below (g := gb184) (o := .cells #[.int .u64 0, .int .u64 0, .int .u64 0, .int .u64 0, .int .u64 0, .int .u64 0, .int .u64 0, .string (⟨#[]⟩ : ByteArray)] 47 (0, 0)) (by (with_reducible repeat (first | refine blk_drewN ?_ _ | refine blk_drew ?_ | refine blk_alloc ?_ _)); exact BK184.out) hb); have n1_ := Aside0.mk (IsS93.below (by repeat (first | (with_reducible first | exact HI188.out | apply IsS93.alloc | apply IsS93.drewN | apply IsS93.drew | apply IsS93.set_0 | apply IsS93.set_1 | apply IsS93.set_2 | refine IsS93.far ?_ NB188_184.out _) | exact HI188.out)) hb); have n2_ := Aside0.mk (below_step (by repeat (first | (with_reducible first | exact HB.out | apply below_alloc | apply pw_below_drewN | apply below_drew1 | refine below_set ?_ (IsS93.ge HI188.out) | refine below_set ?_ GE184.out) | exact HB.out)) hb); have n3_ := Aside0.mk (hbox); have n4_ := Aside0.mk ((by rw [hg]; exact (below_size (by repeat (first | (with_reducible first | exact HB.out | apply below_alloc | apply pw_below_drewN | apply below_drew1 | refine below_set ?_ (IsS93.ge HI188.out) | refine below_set ?_ GE184.out) | exact HB.out))) : w.heap.size ≤ gb225)); have n5_ := Aside0.mk ((by rw [hg]; exact (below_size (by repeat (first | (with_reducible first | exact HB.out | apply below_alloc | apply pw_below_drewN | apply below_drew1 | refine below_set ?_ (IsS93.ge HI188.out) | refine below_set ?_ GE184.out) | exact HB.out))) : w.heap.size ≤ gb225)); have n6_ := Aside0.mk ((by rw [hg]; exact Nat.ne_of_lt (blk_lt (g := gb184) (o := .cells #[.int .u64 0, .int .u64 0, .int .u64 0, .int .u64 0, .int .u64 0, .int .u64 0, .int .u64 0, .string (⟨#[]⟩ : ByteArray)] 47 (0, 0)) (by (with_reducible repeat (first | refine blk_drewN ?_ _ | refine blk_drew ?_ | refine blk_alloc ?_ _)); exact BK184.out)) : gb184 ≠ gb225)); have n7_ := Aside0.mk ((by rw [hg]; exact Nat.ne_of_gt (blk_lt (g := gb184) (o := .cells #[.int .u64 0, .int .u64 0, .int .u64 0, .int .u64 0, .int .u64 0, .int .u64 0, .int .u64 0, .string (⟨#[]⟩ : ByteArray)] 47 (0, 0)) (by (with_reducible repeat (first | refine blk_drewN ?_ _ | refine blk_drew ?_ | refine blk_alloc ?_ _)); exact BK184.out)) : gb225 ≠ gb184)); have n8_ := Aside0.mk ((by rw [hg]; exact Nat.ne_of_lt (IsS93.lt (show IsS93 w _ g188 t222 t223 t224 from by repeat (first | (with_reducible first | exact HI188.out | apply IsS93.alloc | apply IsS93.drewN | apply IsS93.drew | apply IsS93.set_0 | apply IsS93.set_1 | apply IsS93.set_2 | refine IsS93.far ?_ NB188_184.out _) | exact HI188.out))) : g188 ≠ gb225)); have n9_ := Aside0.mk ((by rw [hg]; exact Nat.ne_of_gt (IsS93.lt (show IsS93 w _ g188 t222 t223 t224 from by repeat (first | (with_reducible first | exact HI188.out | apply IsS93.alloc | apply IsS93.drewN | apply IsS93.drew | apply IsS93.set_0 | apply IsS93.set_1 | apply IsS93.set_2 | refine IsS93.far ?_ NB188_184.out _) | exact HI188.out))) : gb225 ≠ g188)); clear BK184; clear HI188; clear HB; have BK184 := n0_; have HI188 := n1_; have HB := n2_; have BK225 := n3_; have GW225 := n4_; have GE225 := n5_; have NB184_225 := n6_; have NB225_184 := n7_; have NB188_225 := n8_; have NB225_188 := n9_; clear n0_ n1_ n2_ n3_ n4_ n5_ n6_ n7_ n8_ n9_; clear hb hbox hg; have hnb61 := NB225_184.out; have hnc61 := NB184_225.out; have hnb62 := NB225_188.out; have hnc62 := NB188_225.out; have hcz63_0 : w60.cell? ⟨gb225, 0, none⟩ = some (.int .u64 0) := (blk_cell BK225.out 0).trans rfl; have hcz63_1 : w60.cell? ⟨gb225, 1, none⟩ = some (.int .u64 0) := (blk_cell BK225.out 1).trans rfl; have hcz63_2 : w60.cell? ⟨gb225, 2, none⟩ = some (.int .u64 0) := (blk_cell BK225.out 2).trans rfl; have hcz63_3 : w60.cell? ⟨gb225, 3, none⟩ = some (.int .u64 0) := (blk_cell BK225.out 3).trans rfl; have hcz63_4 : w60.cell? ⟨gb225, 4, none⟩ = some (.int .u64 0) := (blk_cell BK225.out 4).trans rfl; have hcz63_5 : w60.cell? ⟨gb225, 5, none⟩ = some (.int .u64 0) := (blk_cell BK225.out 5).trans rfl; have hcz63_6 : w60.cell? ⟨gb225, 6, none⟩ = some (.int .u64 0) := (blk_cell BK225.out 6).trans rfl; have hcz63_7 : w60.cell? ⟨gb225, 7, none⟩ = some (.string (⟨#[]⟩ : ByteArray)) := (blk_cell BK225.out 7).trans rfl; have hfz63_0 := blk_frozen BK225.out 0; have hfz63_1 := blk_frozen BK225.out 1; have hfz63_2 := blk_frozen BK225.out 2; have hfz63_3 := blk_frozen BK225.out 3; have hfz63_4 := blk_frozen BK225.out 4; have hfz63_5 := blk_frozen BK225.out 5; have hfz63_6 := blk_frozen BK225.out 6; have hfz63_7 := blk_frozen BK225.out 7))
                    have n0_ : Aside0 (((((((((w60.setCell ⟨gb225, 0, none⟩ (.int .u64 (IntKind.u64.wrap (a1)))).setCell ⟨gb225, 1, none⟩ (.int .u64 (IntKind.u64.wrap (t201)))).setCell ⟨gb225, 2, none⟩ (.int .u64 (IntKind.u64.wrap (t205)))).setCell ⟨gb225, 3, none⟩ (.int .u64 t209)).setCell ⟨gb225, 4, none⟩ (.int .u64 t213)).setCell ⟨gb225, 5, none⟩ (.int .u64 t217)).setCell ⟨gb225, 6, none⟩ (.int .u64 t221)).setCell ⟨gb225, 7, none⟩ (.string (⟨#[]⟩ : ByteArray))).heap[gb184]? = some (.cells #[.int .u64 0, .int .u64 0, .int .u64 0, .int .u64 0, .int .u64 0, .int .u64 0, .int .u64 0, .string (⟨#[]⟩ : ByteArray)] 47 (0, 0))) := ⟨by (with_reducible repeat (first | refine blk_drewN ?_ _ | refine blk_drew ?_ | refine blk_alloc ?_ _)); refine blk_far ?_ NB184_225.out _; (with_reducible repeat (first | refine blk_drewN ?_ _ | refine blk_drew ?_ | refine blk_alloc ?_ _)); refine blk_far ?_ NB184_225.out _; (with_reducible repeat (first | refine blk_drewN ?_ _ | refine blk_drew ?_ | refine blk_alloc ?_ _)); refine blk_far ?_ NB184_225.out _; (with_reducible repeat (first | refine blk_drewN ?_ _ | refine blk_drew ?_ | refine blk_alloc ?_ _)); refine blk_far ?_ NB184_225.out _; (with_reducible repeat (first | refine blk_drewN ?_ _ | refine blk_drew ?_ | refine blk_alloc ?_ _)); refine blk_far ?_ NB184_225.out _; (with_reducible repeat (first | refine blk_drewN ?_ _ | refine blk_drew ?_ | refine blk_alloc ?_ _)); refine blk_far ?_ NB184_225.out _; (with_reducible repeat (first | refine blk_drewN ?_ _ | refine blk_drew ?_ | refine blk_alloc ?_ _)); refine blk_far ?_ NB184_225.out _; (with_reducible repeat (first | refine blk_drewN ?_ _ | refine blk_drew ?_ | refine blk_alloc ?_ _)); refine blk_far ?_ NB184_225.out _; (with_reducible repeat (first | refine blk_drewN ?_ _ | refine blk_drew ?_ | refine blk_alloc ?_ _)); exact BK184.out⟩
                    have n1_ : Aside0 (((((((((w60.setCell ⟨gb225, 0, none⟩ (.int .u64 (IntKind.u64.wrap (a1)))).setCell ⟨gb225, 1, none⟩ (.int .u64 (IntKind.u64.wrap (t201)))).setCell ⟨gb225, 2, none⟩ (.int .u64 (IntKind.u64.wrap (t205)))).setCell ⟨gb225, 3, none⟩ (.int .u64 t209)).setCell ⟨gb225, 4, none⟩ (.int .u64 t213)).setCell ⟨gb225, 5, none⟩ (.int .u64 t217)).setCell ⟨gb225, 6, none⟩ (.int .u64 t221)).setCell ⟨gb225, 7, none⟩ (.string (⟨#[]⟩ : ByteArray))).heap[gb225]? = some (.cells #[.int .u64 (IntKind.u64.wrap (a1)), .int .u64 (IntKind.u64.wrap (t201)), .int .u64 (IntKind.u64.wrap (t205)), .int .u64 t209, .int .u64 t213, .int .u64 t217, .int .u64 t221, .string (⟨#[]⟩ : ByteArray)] 47 (0, 0))) := ⟨by (with_reducible repeat (first | refine blk_drewN ?_ _ | refine blk_drew ?_ | refine blk_alloc ?_ _)); refine blk_put (cs := #[.int .u64 (IntKind.u64.wrap (a1)), .int .u64 (IntKind.u64.wrap (t201)), .int .u64 (IntKind.u64.wrap (t205)), .int .u64 t209, .int .u64 t213, .int .u64 t217, .int .u64 t221, .string (⟨#[]⟩ : ByteArray)]) ?_ 7 _ rfl; (with_reducible repeat (first | refine blk_drewN ?_ _ | refine blk_drew ?_ | refine blk_alloc ?_ _)); refine blk_put (cs := #[.int .u64 (IntKind.u64.wrap (a1)), .int .u64 (IntKind.u64.wrap (t201)), .int .u64 (IntKind.u64.wrap (t205)), .int .u64 t209, .int .u64 t213, .int .u64 t217, .int .u64 0, .string (⟨#[]⟩ : ByteArray)]) ?_ 6 _ rfl; (with_reducible repeat (first | refine blk_drewN ?_ _ | refine blk_drew ?_ | refine blk_alloc ?_ _)); refine blk_put (cs := #[.int .u64 (IntKind.u64.wrap (a1)), .int .u64 (IntKind.u64.wrap (t201)), .int .u64 (IntKind.u64.wrap (t205)), .int .u64 t209, .int .u64 t213, .int .u64 0, .int .u64 0, .string (⟨#[]⟩ : ByteArray)]) ?_ 5 _ rfl; (with_reducible repeat (first | refine blk_drewN ?_ _ | refine blk_drew ?_ | refine blk_alloc ?_ _)); refine blk_put (cs := #[.int .u64 (IntKind.u64.wrap (a1)), .int .u64 (IntKind.u64.wrap (t201)), .int .u64 (IntKind.u64.wrap (t205)), .int .u64 t209, .int .u64 0, .int .u64 0, .int .u64 0, .string (⟨#[]⟩ : ByteArray)]) ?_ 4 _ rfl; (with_reducible repeat (first | refine blk_drewN ?_ _ | refine blk_drew ?_ | refine blk_alloc ?_ _)); refine blk_put (cs := #[.int .u64 (IntKind.u64.wrap (a1)), .int .u64 (IntKind.u64.wrap (t201)), .int .u64 (IntKind.u64.wrap (t205)), .int .u64 0, .int .u64 0, .int .u64 0, .int .u64 0, .string (⟨#[]⟩ : ByteArray)]) ?_ 3 _ rfl; (with_reducible repeat (first | refine blk_drewN ?_ _ | refine blk_drew ?_ | refine blk_alloc ?_ _)); refine blk_put (cs := #[.int .u64 (IntKind.u64.wrap (a1)), .int .u64 (IntKind.u64.wrap (t201)), .int .u64 0, .int .u64 0, .int .u64 0, .int .u64 0, .int .u64 0, .string (⟨#[]⟩ : ByteArray)]) ?_ 2 _ rfl; (with_reducible repeat (first | refine blk_drewN ?_ _ | refine blk_drew ?_ | refine blk_alloc ?_ _)); refine blk_put (cs := #[.int .u64 (IntKind.u64.wrap (a1)), .int .u64 0, .int .u64 0, .int .u64 0, .int .u64 0, .int .u64 0, .int .u64 0, .string (⟨#[]⟩ : ByteArray)]) ?_ 1 _ rfl; (with_reducible repeat (first | refine blk_drewN ?_ _ | refine blk_drew ?_ | refine blk_alloc ?_ _)); refine blk_put (cs := #[.int .u64 0, .int .u64 0, .int .u64 0, .int .u64 0, .int .u64 0, .int .u64 0, .int .u64 0, .string (⟨#[]⟩ : ByteArray)]) ?_ 0 _ rfl; (with_reducible repeat (first | refine blk_drewN ?_ _ | refine blk_drew ?_ | refine blk_alloc ?_ _)); exact BK225.out⟩
                    have n2_ : Aside0 (IsS93 w ((((((((w60.setCell ⟨gb225, 0, none⟩ (.int .u64 (IntKind.u64.wrap (a1)))).setCell ⟨gb225, 1, none⟩ (.int .u64 (IntKind.u64.wrap (t201)))).setCell ⟨gb225, 2, none⟩ (.int .u64 (IntKind.u64.wrap (t205)))).setCell ⟨gb225, 3, none⟩ (.int .u64 t209)).setCell ⟨gb225, 4, none⟩ (.int .u64 t213)).setCell ⟨gb225, 5, none⟩ (.int .u64 t217)).setCell ⟨gb225, 6, none⟩ (.int .u64 t221)).setCell ⟨gb225, 7, none⟩ (.string (⟨#[]⟩ : ByteArray))) g188 t222 t223 t224) := ⟨by repeat (first | (with_reducible first | exact HI188.out | apply IsS93.alloc | apply IsS93.drewN | apply IsS93.drew | apply IsS93.set_0 | apply IsS93.set_1 | apply IsS93.set_2 | refine IsS93.far ?_ NB188_184.out _ | refine IsS93.far ?_ NB188_225.out _) | exact HI188.out)⟩
                    have n3_ : Aside0 (Below w.heap.size w ((((((((w60.setCell ⟨gb225, 0, none⟩ (.int .u64 (IntKind.u64.wrap (a1)))).setCell ⟨gb225, 1, none⟩ (.int .u64 (IntKind.u64.wrap (t201)))).setCell ⟨gb225, 2, none⟩ (.int .u64 (IntKind.u64.wrap (t205)))).setCell ⟨gb225, 3, none⟩ (.int .u64 t209)).setCell ⟨gb225, 4, none⟩ (.int .u64 t213)).setCell ⟨gb225, 5, none⟩ (.int .u64 t217)).setCell ⟨gb225, 6, none⟩ (.int .u64 t221)).setCell ⟨gb225, 7, none⟩ (.string (⟨#[]⟩ : ByteArray)))) := ⟨by repeat (first | (with_reducible first | exact HB.out | apply below_alloc | apply pw_below_drewN | apply below_drew1 | refine below_set ?_ (IsS93.ge HI188.out) | refine below_set ?_ GE184.out | refine below_set ?_ GE225.out) | exact HB.out)⟩
                    (try clear BK184)
                    (try clear BK225)
                    (try clear HI188)
                    (try clear HB)
                    generalize ((((((((w60.setCell ⟨gb225, 0, none⟩ (.int .u64 (IntKind.u64.wrap (a1)))).setCell ⟨gb225, 1, none⟩ (.int .u64 (IntKind.u64.wrap (t201)))).setCell ⟨gb225, 2, none⟩ (.int .u64 (IntKind.u64.wrap (t205)))).setCell ⟨gb225, 3, none⟩ (.int .u64 t209)).setCell ⟨gb225, 4, none⟩ (.int .u64 t213)).setCell ⟨gb225, 5, none⟩ (.int .u64 t217)).setCell ⟨gb225, 6, none⟩ (.int .u64 t221)).setCell ⟨gb225, 7, none⟩ (.string (⟨#[]⟩ : ByteArray))) = w64 at n0_ n1_ n2_ n3_ ⊢
                    have BK184 := n0_
                    have BK225 := n1_
                    have HI188 := n2_
                    have HB := n3_
                    clear n0_ n1_ n2_ n3_
                    have n0_ := Aside0.mk (blk_drew BK184.out)
                    have n1_ := Aside0.mk (blk_drew BK225.out)
                    have n2_ := Aside0.mk (IsS93.drew HI188.out)
                    have n3_ := Aside0.mk (below_drew1 HB.out)
                    clear BK184
                    clear BK225
                    clear HI188
                    clear HB
                    have BK184 := n0_
                    have BK225 := n1_
                    have HI188 := n2_
                    have HB := n3_
                    clear n0_ n1_ n2_ n3_
                    refine start_ (n := 23) (S := fun w' => w'.cell? ⟨gb225, 0, none⟩ = some (.int .u64 (IntKind.u64.wrap (a1))) ∧ w'.cell? ⟨gb225, 1, none⟩ = some (.int .u64 (IntKind.u64.wrap (t201))) ∧ w'.cell? ⟨gb225, 2, none⟩ = some (.int .u64 (IntKind.u64.wrap (t205))) ∧ w'.cell? ⟨gb225, 3, none⟩ = some (.int .u64 t209) ∧ w'.cell? ⟨gb225, 4, none⟩ = some (.int .u64 t213) ∧ w'.cell? ⟨gb225, 5, none⟩ = some (.int .u64 t217) ∧ w'.cell? ⟨gb225, 6, none⟩ = some (.int .u64 t221) ∧ w'.cell? ⟨gb225, 7, none⟩ = some (.string (⟨#[]⟩ : ByteArray))) (ds := []) #[false, false, false, false, false, false, false, false, false, false, false, false, false, false, false, false, false, false, false, false, false, false, false] (by kernel_rfl) rfl rfl ⟨(blk_cell BK225.out 0).trans rfl, (blk_cell BK225.out 1).trans rfl, (blk_cell BK225.out 2).trans rfl, (blk_cell BK225.out 3).trans rfl, (blk_cell BK225.out 4).trans rfl, (blk_cell BK225.out 5).trans rfl, (blk_cell BK225.out 6).trans rfl, (blk_cell BK225.out 7).trans rfl⟩ (fun hHeld => ?_); refine with_tabW tail_wide.tab7 tail_wide.bits7 (fun HT_ HW_ => ?_)
                    generalize w64.drew = w65 at BK184 BK225 HI188 HB hHeld ⊢
                    refine pure_ (i := 1) (N := some 57) (v := ?_) (a' := ?_) #[false, true, false, false, false, false, false, false, false, false, false, false, false, false, false, false, false, false, false, false, false, false, false] rfl rfl (any_of HT_.out (by kernel_rfl)) (fun _ _ _ h => h) (Or.inl ⟨by rfl, ?_⟩) ?_ ?_
                    rotate_left
                    · intro w'
                      go_simp
                      with_reducible rfl
                    rotate_left
                    · simp only [Act.put, List.setIfInBounds_toArray, List.set_cons_zero, List.set_cons_succ, i64_w, i32_w]
                      rfl
                    refine take_ (i := 0) (N := some 56) (v := ?_) (a' := ?_) #[true, true, false, false, false, false, false, false, false, false, false, false, false, false, false, false, false, false, false, false, false, false, false] rfl rfl (take_ofW HT_.out HW_.out (by kernel_rfl)) (fun _ _ _ h => h) (Or.inl ⟨by rfl, ?_⟩) hHeld ?_ ?_
                    rotate_left
                    · rintro w' ⟨s0, s1, s2, s3, s4, s5, s6, s7⟩
                      go_simp
                      with_reducible rfl
                    rotate_left
                    · simp only [Act.put, List.setIfInBounds_toArray, List.set_cons_zero, List.set_cons_succ, i64_w, i32_w]
                      rfl
                    refine one_ (i := 2) (N := some 58) #[true, true, true, false, false, false, false, false, false, false, false, false, false, false, false, false, false, false, false, false, false, false, false] rfl rfl (one_of HT_.out (by kernel_rfl)) (by decide) (fun K hK => ?_)
                    refine goes_ Try.func44 (by kernel_rfl) rfl #[.pointer (some ⟨g188, 0, none⟩)] (by rfl) rfl rfl (by (try simp only [List.map_toArray, List.map_cons, List.map_nil]); first | done | rfl | (simp only [List.length_drop, List.length_take]; rfl)) ?_
                    with_reducible refine (cursor_Cursor_Err.calls g188 t222 t223 t224 t226 t227 t228 t229 w _ ?side1 ?side2 A27.out).mono ?_
                    (case side1 => repeat (first | (with_reducible first | exact HI188.out | apply IsS93.alloc | apply IsS93.drewN | apply IsS93.drew | apply IsS93.set_0 | apply IsS93.set_1 | apply IsS93.set_2 | refine IsS93.far ?_ NB188_184.out _ | refine IsS93.far ?_ NB188_225.out _) | exact HI188.out))
                    (case side2 => repeat (first | (with_reducible first | exact HB.out | apply below_alloc | apply pw_below_drewN | apply below_drew1 | refine below_set ?_ (IsS93.ge HI188.out) | refine below_set ?_ GE184.out | refine below_set ?_ GE225.out) | exact HB.out))
                    rintro e w66 ⟨rfl, hi, hb, hk⟩
                    refine ⟨_, rfl, ?_⟩
                    have n0_ := Aside0.mk (KeepBut.blk hk (g' := gb184) (o := .cells #[.int .u64 0, .int .u64 0, .int .u64 0, .int .u64 0, .int .u64 0, .int .u64 0, .int .u64 0, .string (⟨#[]⟩ : ByteArray)] 47 (0, 0)) (by (with_reducible repeat (first | refine blk_drewN ?_ _ | refine blk_drew ?_ | refine blk_alloc ?_ _)); exact BK184.out) NB184_188.out (by simp))
                    have n1_ := Aside0.mk (KeepBut.blk hk (g' := gb225) (o := .cells #[.int .u64 (IntKind.u64.wrap (a1)), .int .u64 (IntKind.u64.wrap (t201)), .int .u64 (IntKind.u64.wrap (t205)), .int .u64 t209, .int .u64 t213, .int .u64 t217, .int .u64 t221, .string (⟨#[]⟩ : ByteArray)] 47 (0, 0)) (by (with_reducible repeat (first | refine blk_drewN ?_ _ | refine blk_drew ?_ | refine blk_alloc ?_ _)); exact BK225.out) NB225_188.out (by simp))
                    have n2_ := Aside0.mk (hb)
                    have n3_ := Aside0.mk (hi)
                    clear BK184
                    clear BK225
                    clear HB
                    clear HI188
                    have BK184 := n0_
                    have BK225 := n1_
                    have HB := n2_
                    have HI188 := n3_
                    clear n0_ n1_ n2_ n3_
                    (try clear hb)
                    (try clear hb2)
                    (try clear hk)
                    (try clear hi)
                    refine hK.out _ _ ⟨(blk_cell BK225.out 0).trans rfl, (blk_cell BK225.out 1).trans rfl, (blk_cell BK225.out 2).trans rfl, (blk_cell BK225.out 3).trans rfl, (blk_cell BK225.out 4).trans rfl, (blk_cell BK225.out 5).trans rfl, (blk_cell BK225.out 6).trans rfl, (blk_cell BK225.out 7).trans rfl⟩ (fun hHeld => ?_)
                    clear hK K
                    refine norm_ (a' := ?_) ?_ ?_
                    rotate_left
                    · show Act.put _ (some 58) _ = _
                      simp only [Act.put, List.setIfInBounds_toArray, List.set_cons_zero, List.set_cons_succ, i64_w, i32_w]
                      rfl
                    refine pure_ (i := 3) (N := some 59) (v := ?_) (a' := ?_) #[true, true, true, true, false, false, false, false, false, false, false, false, false, false, false, false, false, false, false, false, false, false, false] rfl rfl (any_of HT_.out (by kernel_rfl)) (fun _ _ _ h => h) (Or.inl ⟨by rfl, ?_⟩) ?_ ?_
                    rotate_left
                    · intro w'
                      go_simp
                      with_reducible rfl
                    rotate_left
                    · simp only [Act.put, List.setIfInBounds_toArray, List.set_cons_zero, List.set_cons_succ, i64_w, i32_w]
                      rfl
                    refine pure_ (i := 4) (N := some 60) (v := ?_) (a' := ?_) #[true, true, true, true, true, false, false, false, false, false, false, false, false, false, false, false, false, false, false, false, false, false, false] rfl rfl (any_of HT_.out (by kernel_rfl)) (fun _ _ _ h => h) (Or.inl ⟨by rfl, ?_⟩) ?_ ?_
                    rotate_left
                    · intro w'
                      go_simp
                      with_reducible rfl
                    rotate_left
                    · simp only [Act.put, List.setIfInBounds_toArray, List.set_cons_zero, List.set_cons_succ, i64_w, i32_w]
                      rfl
                    refine pure_ (i := 5) (N := some 61) (v := ?_) (a' := ?_) #[true, true, true, true, true, true, false, false, false, false, false, false, false, false, false, false, false, false, false, false, false, false, false] rfl rfl (any_of HT_.out (by kernel_rfl)) (fun _ _ _ h => h) (Or.inl ⟨by rfl, ?_⟩) ?_ ?_
                    rotate_left
                    · intro w'
                      go_simp
                      with_reducible rfl
                    rotate_left
                    · simp only [Act.put, List.setIfInBounds_toArray, List.set_cons_zero, List.set_cons_succ, i64_w, i32_w]
                      rfl
                    refine take_ (i := 6) (N := some 62) (v := ?_) (a' := ?_) #[true, true, true, true, true, true, true, false, false, false, false, false, false, false, false, false, false, false, false, false, false, false, false] rfl rfl (take_ofW HT_.out HW_.out (by kernel_rfl)) (fun _ _ _ h => h) (Or.inl ⟨by rfl, ?_⟩) hHeld ?_ ?_
                    rotate_left
                    · rintro w' ⟨s0, s1, s2, s3, s4, s5, s6, s7⟩
                      go_simp
                      with_reducible rfl
                    rotate_left
                    · simp only [Act.put, List.setIfInBounds_toArray, List.set_cons_zero, List.set_cons_succ, i64_w, i32_w]
                      rfl
                    refine pure_ (i := 7) (N := some 63) (v := ?_) (a' := ?_) #[true, true, true, true, true, true, true, true, false, false, false, false, false, false, false, false, false, false, false, false, false, false, false] rfl rfl (any_of HT_.out (by kernel_rfl)) (fun _ _ _ h => h) (Or.inl ⟨by rfl, ?_⟩) ?_ ?_
                    rotate_left
                    · intro w'
                      go_simp
                      with_reducible rfl
                    rotate_left
                    · simp only [Act.put, List.setIfInBounds_toArray, List.set_cons_zero, List.set_cons_succ, i64_w, i32_w]
                      rfl
                    refine pure_ (i := 8) (N := some 64) (v := ?_) (a' := ?_) #[true, true, true, true, true, true, true, true, true, false, false, false, false, false, false, false, false, false, false, false, false, false, false] rfl rfl (any_of HT_.out (by kernel_rfl)) (fun _ _ _ h => h) (Or.inl ⟨by rfl, ?_⟩) ?_ ?_
                    rotate_left
                    · intro w'
                      go_simp
                      with_reducible rfl
                    rotate_left
                    · simp only [Act.put, List.setIfInBounds_toArray, List.set_cons_zero, List.set_cons_succ, i64_w, i32_w]
                      rfl
                    refine pure_ (i := 9) (N := some 65) (v := ?_) (a' := ?_) #[true, true, true, true, true, true, true, true, true, true, false, false, false, false, false, false, false, false, false, false, false, false, false] rfl rfl (any_of HT_.out (by kernel_rfl)) (fun _ _ _ h => h) (Or.inl ⟨by rfl, ?_⟩) ?_ ?_
                    rotate_left
                    · intro w'
                      go_simp
                      with_reducible rfl
                    rotate_left
                    · simp only [Act.put, List.setIfInBounds_toArray, List.set_cons_zero, List.set_cons_succ, i64_w, i32_w]
                      rfl
                    refine pure_ (i := 10) (N := some 66) (v := ?_) (a' := ?_) #[true, true, true, true, true, true, true, true, true, true, true, false, false, false, false, false, false, false, false, false, false, false, false] rfl rfl (any_of HT_.out (by kernel_rfl)) (fun _ _ _ h => h) (Or.inl ⟨by rfl, ?_⟩) ?_ ?_
                    rotate_left
                    · intro w'
                      go_simp
                      with_reducible rfl
                    rotate_left
                    · simp only [Act.put, List.setIfInBounds_toArray, List.set_cons_zero, List.set_cons_succ, i64_w, i32_w]
                      rfl
                    refine take_ (i := 11) (N := some 67) (v := ?_) (a' := ?_) #[true, true, true, true, true, true, true, true, true, true, true, true, false, false, false, false, false, false, false, false, false, false, false] rfl rfl (take_ofW HT_.out HW_.out (by kernel_rfl)) (fun _ _ _ h => h) (Or.inl ⟨by rfl, ?_⟩) hHeld ?_ ?_
                    rotate_left
                    · rintro w' ⟨s0, s1, s2, s3, s4, s5, s6, s7⟩
                      go_simp
                      with_reducible rfl
                    rotate_left
                    · simp only [Act.put, List.setIfInBounds_toArray, List.set_cons_zero, List.set_cons_succ, i64_w, i32_w]
                      rfl
                    refine pure_ (i := 12) (N := some 68) (v := ?_) (a' := ?_) #[true, true, true, true, true, true, true, true, true, true, true, true, true, false, false, false, false, false, false, false, false, false, false] rfl rfl (any_of HT_.out (by kernel_rfl)) (fun _ _ _ h => h) (Or.inl ⟨by rfl, ?_⟩) ?_ ?_
                    rotate_left
                    · intro w'
                      go_simp
                      with_reducible rfl
                    rotate_left
                    · simp only [Act.put, List.setIfInBounds_toArray, List.set_cons_zero, List.set_cons_succ, i64_w, i32_w]
                      rfl
                    refine pure_ (i := 13) (N := some 69) (v := ?_) (a' := ?_) #[true, true, true, true, true, true, true, true, true, true, true, true, true, true, false, false, false, false, false, false, false, false, false] rfl rfl (any_of HT_.out (by kernel_rfl)) (fun _ _ _ h => h) (Or.inl ⟨by rfl, ?_⟩) ?_ ?_
                    rotate_left
                    · intro w'
                      go_simp
                      with_reducible rfl
                    rotate_left
                    · simp only [Act.put, List.setIfInBounds_toArray, List.set_cons_zero, List.set_cons_succ, i64_w, i32_w]
                      rfl
                    refine pure_ (i := 14) (N := some 70) (v := ?_) (a' := ?_) #[true, true, true, true, true, true, true, true, true, true, true, true, true, true, true, false, false, false, false, false, false, false, false] rfl rfl (any_of HT_.out (by kernel_rfl)) (fun _ _ _ h => h) (Or.inl ⟨by rfl, ?_⟩) ?_ ?_
                    rotate_left
                    · intro w'
                      go_simp
                      with_reducible rfl
                    rotate_left
                    · simp only [Act.put, List.setIfInBounds_toArray, List.set_cons_zero, List.set_cons_succ, i64_w, i32_w]
                      rfl
                    refine pure_ (i := 15) (N := some 71) (v := undef) (a' := ?_) #[true, true, true, true, true, true, true, true, true, true, true, true, true, true, true, true, false, false, false, false, false, false, false] rfl rfl (any_of HT_.out (by kernel_rfl)) (fun _ _ _ h => h) (Or.inr ⟨by rfl, rfl⟩) ?_ ?_
                    rotate_left
                    · simp only [Act.put, List.setIfInBounds_toArray, List.set_cons_zero, List.set_cons_succ, i64_w, i32_w]
                      rfl
                    refine pure_ (i := 16) (N := some 72) (v := undef) (a' := ?_) #[true, true, true, true, true, true, true, true, true, true, true, true, true, true, true, true, true, false, false, false, false, false, false] rfl rfl (any_of HT_.out (by kernel_rfl)) (fun _ _ _ h => h) (Or.inr ⟨by rfl, rfl⟩) ?_ ?_
                    rotate_left
                    · simp only [Act.put, List.setIfInBounds_toArray, List.set_cons_zero, List.set_cons_succ, i64_w, i32_w]
                      rfl
                    refine pure_ (i := 17) (N := some 73) (v := undef) (a' := ?_) #[true, true, true, true, true, true, true, true, true, true, true, true, true, true, true, true, true, true, false, false, false, false, false] rfl rfl (any_of HT_.out (by kernel_rfl)) (fun _ _ _ h => h) (Or.inr ⟨by rfl, rfl⟩) ?_ ?_
                    rotate_left
                    · simp only [Act.put, List.setIfInBounds_toArray, List.set_cons_zero, List.set_cons_succ, i64_w, i32_w]
                      rfl
                    refine pure_ (i := 18) (N := some 74) (v := undef) (a' := ?_) #[true, true, true, true, true, true, true, true, true, true, true, true, true, true, true, true, true, true, true, false, false, false, false] rfl rfl (any_of HT_.out (by kernel_rfl)) (fun _ _ _ h => h) (Or.inr ⟨by rfl, rfl⟩) ?_ ?_
                    rotate_left
                    · simp only [Act.put, List.setIfInBounds_toArray, List.set_cons_zero, List.set_cons_succ, i64_w, i32_w]
                      rfl
                    refine pure_ (i := 19) (N := some 75) (v := undef) (a' := ?_) #[true, true, true, true, true, true, true, true, true, true, true, true, true, true, true, true, true, true, true, true, false, false, false] rfl rfl (any_of HT_.out (by kernel_rfl)) (fun _ _ _ h => h) (Or.inr ⟨by rfl, rfl⟩) ?_ ?_
                    rotate_left
                    · simp only [Act.put, List.setIfInBounds_toArray, List.set_cons_zero, List.set_cons_succ, i64_w, i32_w]
                      rfl
                    refine pure_ (i := 20) (N := some 76) (v := ?_) (a' := ?_) #[true, true, true, true, true, true, true, true, true, true, true, true, true, true, true, true, true, true, true, true, true, false, false] rfl rfl (any_of HT_.out (by kernel_rfl)) (fun _ _ _ h => h) (Or.inl ⟨by rfl, ?_⟩) ?_ ?_
                    rotate_left
                    · intro w'
                      go_simp
                      with_reducible rfl
                    rotate_left
                    · simp only [Act.put, List.setIfInBounds_toArray, List.set_cons_zero, List.set_cons_succ, i64_w, i32_w]
                      rfl
                    refine one_ (i := 21) (N := none) #[true, true, true, true, true, true, true, true, true, true, true, true, true, true, true, true, true, true, true, true, true, true, false] rfl rfl (one_of HT_.out (by kernel_rfl)) (by decide) (fun K hK => ?_)
                    have hs67 : w66.cell? ⟨gb184, 0, none⟩ = some (.int .u64 0) := (blk_cell BK184.out 0).trans rfl
                    have hfs67 := blk_frozen BK184.out 0
                    have hns67_1 := NB225_184.out
                    have hms67_1 := NB184_225.out
                    have hs68 : w66.cell? ⟨gb184, 1, none⟩ = some (.int .u64 0) := (blk_cell BK184.out 1).trans rfl
                    have hfs68 := blk_frozen BK184.out 1
                    have hns68_1 := NB225_184.out
                    have hms68_1 := NB184_225.out
                    have hs69 : w66.cell? ⟨gb184, 2, none⟩ = some (.int .u64 0) := (blk_cell BK184.out 2).trans rfl
                    have hfs69 := blk_frozen BK184.out 2
                    have hns69_1 := NB225_184.out
                    have hms69_1 := NB184_225.out
                    have hs70 : w66.cell? ⟨gb184, 3, none⟩ = some (.int .u64 0) := (blk_cell BK184.out 3).trans rfl
                    have hfs70 := blk_frozen BK184.out 3
                    have hns70_1 := NB225_184.out
                    have hms70_1 := NB184_225.out
                    have hs71 : w66.cell? ⟨gb184, 4, none⟩ = some (.int .u64 0) := (blk_cell BK184.out 4).trans rfl
                    have hfs71 := blk_frozen BK184.out 4
                    have hns71_1 := NB225_184.out
                    have hms71_1 := NB184_225.out
                    have hs72 : w66.cell? ⟨gb184, 5, none⟩ = some (.int .u64 0) := (blk_cell BK184.out 5).trans rfl
                    have hfs72 := blk_frozen BK184.out 5
                    have hns72_1 := NB225_184.out
                    have hms72_1 := NB184_225.out
                    have hs73 : w66.cell? ⟨gb184, 6, none⟩ = some (.int .u64 0) := (blk_cell BK184.out 6).trans rfl
                    have hfs73 := blk_frozen BK184.out 6
                    have hns73_1 := NB225_184.out
                    have hms73_1 := NB184_225.out
                    have hs74 : w66.cell? ⟨gb184, 7, none⟩ = some (.string (⟨#[]⟩ : ByteArray)) := (blk_cell BK184.out 7).trans rfl
                    have hfs74 := blk_frozen BK184.out 7
                    have hns74_1 := NB225_184.out
                    have hms74_1 := NB184_225.out
                    refine skip_ (w1 := ?_) (by rfl) rfl ?_ ?_
                    rotate_left
                    · go_simp
                      rfl
                    refine hK.out _ _ ⟨((cell_far (p := ⟨gb184, _, none⟩) NB225_184.out _).trans (((cell_far (p := ⟨gb184, _, none⟩) NB225_184.out _).trans (((cell_far (p := ⟨gb184, _, none⟩) NB225_184.out _).trans (((cell_far (p := ⟨gb184, _, none⟩) NB225_184.out _).trans (((cell_far (p := ⟨gb184, _, none⟩) NB225_184.out _).trans (((cell_far (p := ⟨gb184, _, none⟩) NB225_184.out _).trans (((cell_far (p := ⟨gb184, _, none⟩) NB225_184.out _).trans (((cell_far (p := ⟨gb184, _, none⟩) NB225_184.out _).trans (hHeld.1)))))))))))))))), ((cell_far (p := ⟨gb184, _, none⟩) NB225_184.out _).trans (((cell_far (p := ⟨gb184, _, none⟩) NB225_184.out _).trans (((cell_far (p := ⟨gb184, _, none⟩) NB225_184.out _).trans (((cell_far (p := ⟨gb184, _, none⟩) NB225_184.out _).trans (((cell_far (p := ⟨gb184, _, none⟩) NB225_184.out _).trans (((cell_far (p := ⟨gb184, _, none⟩) NB225_184.out _).trans (((cell_far (p := ⟨gb184, _, none⟩) NB225_184.out _).trans (((cell_far (p := ⟨gb184, _, none⟩) NB225_184.out _).trans (hHeld.2.1)))))))))))))))), ((cell_far (p := ⟨gb184, _, none⟩) NB225_184.out _).trans (((cell_far (p := ⟨gb184, _, none⟩) NB225_184.out _).trans (((cell_far (p := ⟨gb184, _, none⟩) NB225_184.out _).trans (((cell_far (p := ⟨gb184, _, none⟩) NB225_184.out _).trans (((cell_far (p := ⟨gb184, _, none⟩) NB225_184.out _).trans (((cell_far (p := ⟨gb184, _, none⟩) NB225_184.out _).trans (((cell_far (p := ⟨gb184, _, none⟩) NB225_184.out _).trans (((cell_far (p := ⟨gb184, _, none⟩) NB225_184.out _).trans (hHeld.2.2.1)))))))))))))))), ((cell_far (p := ⟨gb184, _, none⟩) NB225_184.out _).trans (((cell_far (p := ⟨gb184, _, none⟩) NB225_184.out _).trans (((cell_far (p := ⟨gb184, _, none⟩) NB225_184.out _).trans (((cell_far (p := ⟨gb184, _, none⟩) NB225_184.out _).trans (((cell_far (p := ⟨gb184, _, none⟩) NB225_184.out _).trans (((cell_far (p := ⟨gb184, _, none⟩) NB225_184.out _).trans (((cell_far (p := ⟨gb184, _, none⟩) NB225_184.out _).trans (((cell_far (p := ⟨gb184, _, none⟩) NB225_184.out _).trans (hHeld.2.2.2.1)))))))))))))))), ((cell_far (p := ⟨gb184, _, none⟩) NB225_184.out _).trans (((cell_far (p := ⟨gb184, _, none⟩) NB225_184.out _).trans (((cell_far (p := ⟨gb184, _, none⟩) NB225_184.out _).trans (((cell_far (p := ⟨gb184, _, none⟩) NB225_184.out _).trans (((cell_far (p := ⟨gb184, _, none⟩) NB225_184.out _).trans (((cell_far (p := ⟨gb184, _, none⟩) NB225_184.out _).trans (((cell_far (p := ⟨gb184, _, none⟩) NB225_184.out _).trans (((cell_far (p := ⟨gb184, _, none⟩) NB225_184.out _).trans (hHeld.2.2.2.2.1)))))))))))))))), ((cell_far (p := ⟨gb184, _, none⟩) NB225_184.out _).trans (((cell_far (p := ⟨gb184, _, none⟩) NB225_184.out _).trans (((cell_far (p := ⟨gb184, _, none⟩) NB225_184.out _).trans (((cell_far (p := ⟨gb184, _, none⟩) NB225_184.out _).trans (((cell_far (p := ⟨gb184, _, none⟩) NB225_184.out _).trans (((cell_far (p := ⟨gb184, _, none⟩) NB225_184.out _).trans (((cell_far (p := ⟨gb184, _, none⟩) NB225_184.out _).trans (((cell_far (p := ⟨gb184, _, none⟩) NB225_184.out _).trans (hHeld.2.2.2.2.2.1)))))))))))))))), ((cell_far (p := ⟨gb184, _, none⟩) NB225_184.out _).trans (((cell_far (p := ⟨gb184, _, none⟩) NB225_184.out _).trans (((cell_far (p := ⟨gb184, _, none⟩) NB225_184.out _).trans (((cell_far (p := ⟨gb184, _, none⟩) NB225_184.out _).trans (((cell_far (p := ⟨gb184, _, none⟩) NB225_184.out _).trans (((cell_far (p := ⟨gb184, _, none⟩) NB225_184.out _).trans (((cell_far (p := ⟨gb184, _, none⟩) NB225_184.out _).trans (((cell_far (p := ⟨gb184, _, none⟩) NB225_184.out _).trans (hHeld.2.2.2.2.2.2.1)))))))))))))))), ((cell_far (p := ⟨gb184, _, none⟩) NB225_184.out _).trans (((cell_far (p := ⟨gb184, _, none⟩) NB225_184.out _).trans (((cell_far (p := ⟨gb184, _, none⟩) NB225_184.out _).trans (((cell_far (p := ⟨gb184, _, none⟩) NB225_184.out _).trans (((cell_far (p := ⟨gb184, _, none⟩) NB225_184.out _).trans (((cell_far (p := ⟨gb184, _, none⟩) NB225_184.out _).trans (((cell_far (p := ⟨gb184, _, none⟩) NB225_184.out _).trans (((cell_far (p := ⟨gb184, _, none⟩) NB225_184.out _).trans (hHeld.2.2.2.2.2.2.2))))))))))))))))⟩ (fun hHeld => ?_)
                    clear hK K
                    refine pure_ (i := 22) (N := some 7) (v := ?_) (a' := ?_) #[true, true, true, true, true, true, true, true, true, true, true, true, true, true, true, true, true, true, true, true, true, true, true] rfl rfl (any_of HT_.out (by kernel_rfl)) (fun _ _ _ h => h) (Or.inl ⟨by rfl, ?_⟩) ?_ ?_
                    rotate_left
                    · intro w'
                      go_simp
                      with_reducible rfl
                    rotate_left
                    · simp only [Act.put, List.setIfInBounds_toArray, List.set_cons_zero, List.set_cons_succ, i64_w, i32_w]
                      rfl
                    refine done_ (done_of HT_.out (by kernel_rfl)) ?_
                    try go_wp2
                    refine bodyPost_ret (results_ct rfl _ _ gb184 47 #[.int .u64 (IntKind.u64.wrap (a1)), .int .u64 (IntKind.u64.wrap (t201)), .int .u64 (IntKind.u64.wrap (t205)), .int .u64 t209, .int .u64 t213, .int .u64 t217, .int .u64 t221, .string (⟨#[]⟩ : ByteArray)] (0, 0) _ rfl (by (with_reducible repeat (first | refine blk_drewN ?_ _ | refine blk_drew ?_ | refine blk_alloc ?_ _)); refine blk_put (cs := #[.int .u64 (IntKind.u64.wrap (a1)), .int .u64 (IntKind.u64.wrap (t201)), .int .u64 (IntKind.u64.wrap (t205)), .int .u64 t209, .int .u64 t213, .int .u64 t217, .int .u64 t221, .string (⟨#[]⟩ : ByteArray)]) ?_ 7 _ rfl; (with_reducible repeat (first | refine blk_drewN ?_ _ | refine blk_drew ?_ | refine blk_alloc ?_ _)); refine blk_put (cs := #[.int .u64 (IntKind.u64.wrap (a1)), .int .u64 (IntKind.u64.wrap (t201)), .int .u64 (IntKind.u64.wrap (t205)), .int .u64 t209, .int .u64 t213, .int .u64 t217, .int .u64 0, .string (⟨#[]⟩ : ByteArray)]) ?_ 6 _ rfl; (with_reducible repeat (first | refine blk_drewN ?_ _ | refine blk_drew ?_ | refine blk_alloc ?_ _)); refine blk_put (cs := #[.int .u64 (IntKind.u64.wrap (a1)), .int .u64 (IntKind.u64.wrap (t201)), .int .u64 (IntKind.u64.wrap (t205)), .int .u64 t209, .int .u64 t213, .int .u64 0, .int .u64 0, .string (⟨#[]⟩ : ByteArray)]) ?_ 5 _ rfl; (with_reducible repeat (first | refine blk_drewN ?_ _ | refine blk_drew ?_ | refine blk_alloc ?_ _)); refine blk_put (cs := #[.int .u64 (IntKind.u64.wrap (a1)), .int .u64 (IntKind.u64.wrap (t201)), .int .u64 (IntKind.u64.wrap (t205)), .int .u64 t209, .int .u64 0, .int .u64 0, .int .u64 0, .string (⟨#[]⟩ : ByteArray)]) ?_ 4 _ rfl; (with_reducible repeat (first | refine blk_drewN ?_ _ | refine blk_drew ?_ | refine blk_alloc ?_ _)); refine blk_put (cs := #[.int .u64 (IntKind.u64.wrap (a1)), .int .u64 (IntKind.u64.wrap (t201)), .int .u64 (IntKind.u64.wrap (t205)), .int .u64 0, .int .u64 0, .int .u64 0, .int .u64 0, .string (⟨#[]⟩ : ByteArray)]) ?_ 3 _ rfl; (with_reducible repeat (first | refine blk_drewN ?_ _ | refine blk_drew ?_ | refine blk_alloc ?_ _)); refine blk_put (cs := #[.int .u64 (IntKind.u64.wrap (a1)), .int .u64 (IntKind.u64.wrap (t201)), .int .u64 0, .int .u64 0, .int .u64 0, .int .u64 0, .int .u64 0, .string (⟨#[]⟩ : ByteArray)]) ?_ 2 _ rfl; (with_reducible repeat (first | refine blk_drewN ?_ _ | refine blk_drew ?_ | refine blk_alloc ?_ _)); refine blk_put (cs := #[.int .u64 (IntKind.u64.wrap (a1)), .int .u64 0, .int .u64 0, .int .u64 0, .int .u64 0, .int .u64 0, .int .u64 0, .string (⟨#[]⟩ : ByteArray)]) ?_ 1 _ rfl; (with_reducible repeat (first | refine blk_drewN ?_ _ | refine blk_drew ?_ | refine blk_alloc ?_ _)); refine blk_put (cs := #[.int .u64 0, .int .u64 0, .int .u64 0, .int .u64 0, .int .u64 0, .int .u64 0, .int .u64 0, .string (⟨#[]⟩ : ByteArray)]) ?_ 0 _ rfl; (with_reducible repeat (first | refine blk_drewN ?_ _ | refine blk_drew ?_ | refine blk_alloc ?_ _)); exact BK184.out) Try.underlying47 rfl (by kernel_rfl)) rfl ?_
                    exact ⟨by first | rfl | (simp [errW_none, errW_some] <;> rfl) | (simp [*, errW_none, errW_some] <;> rfl), by repeat (first | (with_reducible first | exact HB.out | apply below_alloc | apply pw_below_drewN | apply below_drew1 | refine below_set ?_ (IsS93.ge HI188.out) | refine below_set ?_ GE184.out | refine below_set ?_ GE225.out) | exact HB.out)⟩
                · rw [if_neg c29] at H
                  have c29b0 : ((IntKind.u64.wrap (t201)) == 0) = false := beq_eq_false_iff_ne.mpr c29
                  have c29b1 : ((IntKind.u64.wrap (t201)) != 0) = true := bne_iff_ne.mpr c29
                  simp only [Option.some.injEq, Prod.mk.injEq] at H
                  obtain ⟨rfl, rfl, rfl, rfl, rfl, rfl, rfl, rfl, rfl⟩ := H
                  try go_wp2_with (first | ((with_reducible refine gate_callee (f := 39) rfl ?_); refine goesL_ (some 38) rfl rfl Try.func39 (by kernel_rfl) rfl #[.pointer (some ⟨g188, 0, none⟩), .int .i64 4] rfl (by (try simp only [List.map_toArray, List.map_cons, List.map_nil]); first | done | rfl | (simp only [List.length_drop, List.length_take]; rfl)) ?_; (with_reducible refine (cursor_Cursor_Take.calls g188 t194 t195 t196 4 t197 t198 t199 t200 w _ ?side1 ?side2 A20.out).mono ?_); (case side1 => repeat (first | (with_reducible first | exact HI188.out | apply IsS93.alloc | apply IsS93.drewN | apply IsS93.drew | apply IsS93.set_0 | apply IsS93.set_1 | apply IsS93.set_2 | refine IsS93.far ?_ NB188_184.out _) | exact HI188.out)); (case side2 => repeat (first | (with_reducible first | exact HB.out | apply below_alloc | apply pw_below_drewN | apply below_drew1 | refine below_set ?_ (IsS93.ge HI188.out) | refine below_set ?_ GE184.out) | exact HB.out)); rintro e w75 ⟨rfl, hi, hb, hk⟩; refine ⟨_, rfl, ?_⟩; have n0_ := Aside0.mk (KeepBut.blk hk (g' := gb184) (o := .cells #[.int .u64 0, .int .u64 0, .int .u64 0, .int .u64 0, .int .u64 0, .int .u64 0, .int .u64 0, .string (⟨#[]⟩ : ByteArray)] 47 (0, 0)) (by (with_reducible repeat (first | refine blk_drewN ?_ _ | refine blk_drew ?_ | refine blk_alloc ?_ _)); exact BK184.out) NB184_188.out (by simp)); have n1_ := Aside0.mk (hb); have n2_ := Aside0.mk (hi); clear BK184; clear HB; clear HI188; have BK184 := n0_; have HB := n1_; have HI188 := n2_; clear n0_ n1_ n2_; (try clear hb); (try clear hb2); (try clear hk); (try clear hi)) | ((with_reducible refine gate_callee (f := 41) rfl ?_); refine goesL_ (some 42) rfl rfl Try.func41 (by kernel_rfl) rfl #[.pointer (some ⟨g188, 0, none⟩)] rfl (by (try simp only [List.map_toArray, List.map_cons, List.map_nil]); first | done | rfl | (simp only [List.length_drop, List.length_take]; rfl)) ?_; (with_reducible refine (cursor_Cursor_Four.calls kj9 g188 t198 t199 t200 t201 t202 t203 t204 w _ ?side1 ?side2 A21.out).mono ?_); (case side1 => repeat (first | (with_reducible first | exact HI188.out | apply IsS93.alloc | apply IsS93.drewN | apply IsS93.drew | apply IsS93.set_0 | apply IsS93.set_1 | apply IsS93.set_2 | refine IsS93.far ?_ NB188_184.out _) | exact HI188.out)); (case side2 => repeat (first | (with_reducible first | exact HB.out | apply below_alloc | apply pw_below_drewN | apply below_drew1 | refine below_set ?_ (IsS93.ge HI188.out) | refine below_set ?_ GE184.out) | exact HB.out)); rintro e w76 ⟨rfl, hi, hb, hk⟩; refine ⟨_, rfl, ?_⟩; have n0_ := Aside0.mk (KeepBut.blk hk (g' := gb184) (o := .cells #[.int .u64 0, .int .u64 0, .int .u64 0, .int .u64 0, .int .u64 0, .int .u64 0, .int .u64 0, .string (⟨#[]⟩ : ByteArray)] 47 (0, 0)) (by (with_reducible repeat (first | refine blk_drewN ?_ _ | refine blk_drew ?_ | refine blk_alloc ?_ _)); exact BK184.out) NB184_188.out (by simp)); have n1_ := Aside0.mk (hb); have n2_ := Aside0.mk (hi); clear BK184; clear HB; clear HI188; have BK184 := n0_; have HB := n1_; have HI188 := n2_; clear n0_ n1_ n2_; (try clear hb); (try clear hb2); (try clear hk); (try clear hi)) | ((with_reducible refine gate_callee (f := 41) rfl ?_); refine goesL_ (some 45) rfl rfl Try.func41 (by kernel_rfl) rfl #[.pointer (some ⟨g188, 0, none⟩)] rfl (by (try simp only [List.map_toArray, List.map_cons, List.map_nil]); first | done | rfl | (simp only [List.length_drop, List.length_take]; rfl)) ?_; (with_reducible refine (cursor_Cursor_Four.calls kj9 g188 t202 t203 t204 t205 t206 t207 t208 w _ ?side1 ?side2 A22.out).mono ?_); (case side1 => repeat (first | (with_reducible first | exact HI188.out | apply IsS93.alloc | apply IsS93.drewN | apply IsS93.drew | apply IsS93.set_0 | apply IsS93.set_1 | apply IsS93.set_2 | refine IsS93.far ?_ NB188_184.out _) | exact HI188.out)); (case side2 => repeat (first | (with_reducible first | exact HB.out | apply below_alloc | apply pw_below_drewN | apply below_drew1 | refine below_set ?_ (IsS93.ge HI188.out) | refine below_set ?_ GE184.out) | exact HB.out)); rintro e w77 ⟨rfl, hi, hb, hk⟩; refine ⟨_, rfl, ?_⟩; have n0_ := Aside0.mk (KeepBut.blk hk (g' := gb184) (o := .cells #[.int .u64 0, .int .u64 0, .int .u64 0, .int .u64 0, .int .u64 0, .int .u64 0, .int .u64 0, .string (⟨#[]⟩ : ByteArray)] 47 (0, 0)) (by (with_reducible repeat (first | refine blk_drewN ?_ _ | refine blk_drew ?_ | refine blk_alloc ?_ _)); exact BK184.out) NB184_188.out (by simp)); have n1_ := Aside0.mk (hb); have n2_ := Aside0.mk (hi); clear BK184; clear HB; clear HI188; have BK184 := n0_; have HB := n1_; have HI188 := n2_; clear n0_ n1_ n2_; (try clear hb); (try clear hb2); (try clear hk); (try clear hi)) | ((with_reducible refine gate_callee (f := 43) rfl ?_); refine goesL_ (some 48) rfl rfl Try.func43 (by kernel_rfl) rfl #[.pointer (some ⟨g188, 0, none⟩)] rfl (by (try simp only [List.map_toArray, List.map_cons, List.map_nil]); first | done | rfl | (simp only [List.length_drop, List.length_take]; rfl)) ?_; (with_reducible refine (cursor_Cursor_Eight.calls kj9 g188 t206 t207 t208 t209 t210 t211 t212 w _ ?side1 ?side2 A23.out).mono ?_); (case side1 => repeat (first | (with_reducible first | exact HI188.out | apply IsS93.alloc | apply IsS93.drewN | apply IsS93.drew | apply IsS93.set_0 | apply IsS93.set_1 | apply IsS93.set_2 | refine IsS93.far ?_ NB188_184.out _) | exact HI188.out)); (case side2 => repeat (first | (with_reducible first | exact HB.out | apply below_alloc | apply pw_below_drewN | apply below_drew1 | refine below_set ?_ (IsS93.ge HI188.out) | refine below_set ?_ GE184.out) | exact HB.out)); rintro e w78 ⟨rfl, hi, hb, hk⟩; refine ⟨_, rfl, ?_⟩; have n0_ := Aside0.mk (KeepBut.blk hk (g' := gb184) (o := .cells #[.int .u64 0, .int .u64 0, .int .u64 0, .int .u64 0, .int .u64 0, .int .u64 0, .int .u64 0, .string (⟨#[]⟩ : ByteArray)] 47 (0, 0)) (by (with_reducible repeat (first | refine blk_drewN ?_ _ | refine blk_drew ?_ | refine blk_alloc ?_ _)); exact BK184.out) NB184_188.out (by simp)); have n1_ := Aside0.mk (hb); have n2_ := Aside0.mk (hi); clear BK184; clear HB; clear HI188; have BK184 := n0_; have HB := n1_; have HI188 := n2_; clear n0_ n1_ n2_; (try clear hb); (try clear hb2); (try clear hk); (try clear hi)) | ((with_reducible refine gate_callee (f := 43) rfl ?_); refine goesL_ (some 50) rfl rfl Try.func43 (by kernel_rfl) rfl #[.pointer (some ⟨g188, 0, none⟩)] rfl (by (try simp only [List.map_toArray, List.map_cons, List.map_nil]); first | done | rfl | (simp only [List.length_drop, List.length_take]; rfl)) ?_; (with_reducible refine (cursor_Cursor_Eight.calls kj9 g188 t210 t211 t212 t213 t214 t215 t216 w _ ?side1 ?side2 A24.out).mono ?_); (case side1 => repeat (first | (with_reducible first | exact HI188.out | apply IsS93.alloc | apply IsS93.drewN | apply IsS93.drew | apply IsS93.set_0 | apply IsS93.set_1 | apply IsS93.set_2 | refine IsS93.far ?_ NB188_184.out _) | exact HI188.out)); (case side2 => repeat (first | (with_reducible first | exact HB.out | apply below_alloc | apply pw_below_drewN | apply below_drew1 | refine below_set ?_ (IsS93.ge HI188.out) | refine below_set ?_ GE184.out) | exact HB.out)); rintro e w79 ⟨rfl, hi, hb, hk⟩; refine ⟨_, rfl, ?_⟩; have n0_ := Aside0.mk (KeepBut.blk hk (g' := gb184) (o := .cells #[.int .u64 0, .int .u64 0, .int .u64 0, .int .u64 0, .int .u64 0, .int .u64 0, .int .u64 0, .string (⟨#[]⟩ : ByteArray)] 47 (0, 0)) (by (with_reducible repeat (first | refine blk_drewN ?_ _ | refine blk_drew ?_ | refine blk_alloc ?_ _)); exact BK184.out) NB184_188.out (by simp)); have n1_ := Aside0.mk (hb); have n2_ := Aside0.mk (hi); clear BK184; clear HB; clear HI188; have BK184 := n0_; have HB := n1_; have HI188 := n2_; clear n0_ n1_ n2_; (try clear hb); (try clear hb2); (try clear hk); (try clear hi)) | ((with_reducible refine gate_callee (f := 43) rfl ?_); refine goesL_ (some 52) rfl rfl Try.func43 (by kernel_rfl) rfl #[.pointer (some ⟨g188, 0, none⟩)] rfl (by (try simp only [List.map_toArray, List.map_cons, List.map_nil]); first | done | rfl | (simp only [List.length_drop, List.length_take]; rfl)) ?_; (with_reducible refine (cursor_Cursor_Eight.calls kj9 g188 t214 t215 t216 t217 t218 t219 t220 w _ ?side1 ?side2 A25.out).mono ?_); (case side1 => repeat (first | (with_reducible first | exact HI188.out | apply IsS93.alloc | apply IsS93.drewN | apply IsS93.drew | apply IsS93.set_0 | apply IsS93.set_1 | apply IsS93.set_2 | refine IsS93.far ?_ NB188_184.out _) | exact HI188.out)); (case side2 => repeat (first | (with_reducible first | exact HB.out | apply below_alloc | apply pw_below_drewN | apply below_drew1 | refine below_set ?_ (IsS93.ge HI188.out) | refine below_set ?_ GE184.out) | exact HB.out)); rintro e w80 ⟨rfl, hi, hb, hk⟩; refine ⟨_, rfl, ?_⟩; have n0_ := Aside0.mk (KeepBut.blk hk (g' := gb184) (o := .cells #[.int .u64 0, .int .u64 0, .int .u64 0, .int .u64 0, .int .u64 0, .int .u64 0, .int .u64 0, .string (⟨#[]⟩ : ByteArray)] 47 (0, 0)) (by (with_reducible repeat (first | refine blk_drewN ?_ _ | refine blk_drew ?_ | refine blk_alloc ?_ _)); exact BK184.out) NB184_188.out (by simp)); have n1_ := Aside0.mk (hb); have n2_ := Aside0.mk (hi); clear BK184; clear HB; clear HI188; have BK184 := n0_; have HB := n1_; have HI188 := n2_; clear n0_ n1_ n2_; (try clear hb); (try clear hb2); (try clear hk); (try clear hi)) | ((with_reducible refine gate_callee (f := 43) rfl ?_); refine goesL_ (some 54) rfl rfl Try.func43 (by kernel_rfl) rfl #[.pointer (some ⟨g188, 0, none⟩)] rfl (by (try simp only [List.map_toArray, List.map_cons, List.map_nil]); first | done | rfl | (simp only [List.length_drop, List.length_take]; rfl)) ?_; (with_reducible refine (cursor_Cursor_Eight.calls kj9 g188 t218 t219 t220 t221 t222 t223 t224 w _ ?side1 ?side2 A26.out).mono ?_); (case side1 => repeat (first | (with_reducible first | exact HI188.out | apply IsS93.alloc | apply IsS93.drewN | apply IsS93.drew | apply IsS93.set_0 | apply IsS93.set_1 | apply IsS93.set_2 | refine IsS93.far ?_ NB188_184.out _) | exact HI188.out)); (case side2 => repeat (first | (with_reducible first | exact HB.out | apply below_alloc | apply pw_below_drewN | apply below_drew1 | refine below_set ?_ (IsS93.ge HI188.out) | refine below_set ?_ GE184.out) | exact HB.out)); rintro e w81 ⟨rfl, hi, hb, hk⟩; refine ⟨_, rfl, ?_⟩; have n0_ := Aside0.mk (KeepBut.blk hk (g' := gb184) (o := .cells #[.int .u64 0, .int .u64 0, .int .u64 0, .int .u64 0, .int .u64 0, .int .u64 0, .int .u64 0, .string (⟨#[]⟩ : ByteArray)] 47 (0, 0)) (by (with_reducible repeat (first | refine blk_drewN ?_ _ | refine blk_drew ?_ | refine blk_alloc ?_ _)); exact BK184.out) NB184_188.out (by simp)); have n1_ := Aside0.mk (hb); have n2_ := Aside0.mk (hi); clear BK184; clear HB; clear HI188; have BK184 := n0_; have HB := n1_; have HI188 := n2_; clear n0_ n1_ n2_; (try clear hb); (try clear hb2); (try clear hk); (try clear hi)) | ((with_reducible refine gate_dst (N := 11) rfl ?_); refine box_event ?hg (N := 11) ?hd (cs := #[.int .u64 0, .int .u64 0, .int .u64 0, .int .u64 0, .int .u64 0, .int .u64 0, .int .u64 0, .string (⟨#[]⟩ : ByteArray)]) (t := 47) ?hr ?_; (case hd => rfl); (case hg => rfl); (case hr => first | (go_simp; done) | (go_simp; rfl)); intro gb225 hg w82 hbox hb; have n0_ := Aside0.mk (blk_below (g := gb184) (o := .cells #[.int .u64 0, .int .u64 0, .int .u64 0, .int .u64 0, .int .u64 0, .int .u64 0, .int .u64 0, .string (⟨#[]⟩ : ByteArray)] 47 (0, 0)) (by (with_reducible repeat (first | refine blk_drewN ?_ _ | refine blk_drew ?_ | refine blk_alloc ?_ _)); exact BK184.out) hb); have n1_ := Aside0.mk (IsS93.below (by repeat (first | (with_reducible first | exact HI188.out | apply IsS93.alloc | apply IsS93.drewN | apply IsS93.drew | apply IsS93.set_0 | apply IsS93.set_1 | apply IsS93.set_2 | refine IsS93.far ?_ NB188_184.out _) | exact HI188.out)) hb); have n2_ := Aside0.mk (below_step (by repeat (first | (with_reducible first | exact HB.out | apply below_alloc | apply pw_below_drewN | apply below_drew1 | refine below_set ?_ (IsS93.ge HI188.out) | refine below_set ?_ GE184.out) | exact HB.out)) hb); have n3_ := Aside0.mk (hbox); have n4_ := Aside0.mk ((by rw [hg]; exact (below_size (by repeat (first | (with_reducible first | exact HB.out | apply below_alloc | apply pw_below_drewN | apply below_drew1 | refine below_set ?_ (IsS93.ge HI188.out) | refine below_set ?_ GE184.out) | exact HB.out))) : w.heap.size ≤ gb225)); have n5_ := Aside0.mk ((by rw [hg]; exact (below_size (by repeat (first | (with_reducible first | exact HB.out | apply below_alloc | apply pw_below_drewN | apply below_drew1 | refine below_set ?_ (IsS93.ge HI188.out) | refine below_set ?_ GE184.out) | exact HB.out))) : w.heap.size ≤ gb225)); have n6_ := Aside0.mk ((by rw [hg]; exact Nat.ne_of_lt (blk_lt (g := gb184) (o := .cells #[.int .u64 0, .int .u64 0, .int .u64 0, .int .u64 0, .int .u64 0, .int .u64 0, .int .u64 0, .string (⟨#[]⟩ : ByteArray)] 47 (0, 0)) (by (with_reducible repeat (first | refine blk_drewN ?_ _ | refine blk_drew ?_ | refine blk_alloc ?_ _)); exact BK184.out)) : gb184 ≠ gb225)); have n7_ := Aside0.mk ((by rw [hg]; exact Nat.ne_of_gt (blk_lt (g := gb184) (o := .cells #[.int .u64 0, .int .u64 0, .int .u64 0, .int .u64 0, .int .u64 0, .int .u64 0, .int .u64 0, .string (⟨#[]⟩ : ByteArray)] 47 (0, 0)) (by (with_reducible repeat (first | refine blk_drewN ?_ _ | refine blk_drew ?_ | refine blk_alloc ?_ _)); exact BK184.out)) : gb225 ≠ gb184)); have n8_ := Aside0.mk ((by rw [hg]; exact Nat.ne_of_lt (IsS93.lt (show IsS93 w _ g188 t222 t223 t224 from by repeat (first | (with_reducible first | exact HI188.out | apply IsS93.alloc | apply IsS93.drewN | apply IsS93.drew | apply IsS93.set_0 | apply IsS93.set_1 | apply IsS93.set_2 | refine IsS93.far ?_ NB188_184.out _) | exact HI188.out))) : g188 ≠ gb225)); have n9_ := Aside0.mk ((by rw [hg]; exact Nat.ne_of_gt (IsS93.lt (show IsS93 w _ g188 t222 t223 t224 from by repeat (first | (with_reducible first | exact HI188.out | apply IsS93.alloc | apply IsS93.drewN | apply IsS93.drew | apply IsS93.set_0 | apply IsS93.set_1 | apply IsS93.set_2 | refine IsS93.far ?_ NB188_184.out _) | exact HI188.out))) : gb225 ≠ g188)); clear BK184; clear HI188; clear HB; have BK184 := n0_; have HI188 := n1_; have HB := n2_; have BK225 := n3_; have GW225 := n4_; have GE225 := n5_; have NB184_225 := n6_; have NB225_184 := n7_; have NB188_225 := n8_; have NB225_188 := n9_; clear n0_ n1_ n2_ n3_ n4_ n5_ n6_ n7_ n8_ n9_; clear hb hbox hg; have hnb83 := NB225_184.out; have hnc83 := NB184_225.out; have hnb84 := NB225_188.out; have hnc84 := NB188_225.out; have hcz85_0 : w82.cell? ⟨gb225, 0, none⟩ = some (.int .u64 0) := (blk_cell BK225.out 0).trans rfl; have hcz85_1 : w82.cell? ⟨gb225, 1, none⟩ = some (.int .u64 0) := (blk_cell BK225.out 1).trans rfl; have hcz85_2 : w82.cell? ⟨gb225, 2, none⟩ = some (.int .u64 0) := (blk_cell BK225.out 2).trans rfl; have hcz85_3 : w82.cell? ⟨gb225, 3, none⟩ = some (.int .u64 0) := (blk_cell BK225.out 3).trans rfl; have hcz85_4 : w82.cell? ⟨gb225, 4, none⟩ = some (.int .u64 0) := (blk_cell BK225.out 4).trans rfl; have hcz85_5 : w82.cell? ⟨gb225, 5, none⟩ = some (.int .u64 0) := (blk_cell BK225.out 5).trans rfl; have hcz85_6 : w82.cell? ⟨gb225, 6, none⟩ = some (.int .u64 0) := (blk_cell BK225.out 6).trans rfl; have hcz85_7 : w82.cell? ⟨gb225, 7, none⟩ = some (.string (⟨#[]⟩ : ByteArray)) := (blk_cell BK225.out 7).trans rfl; have hfz85_0 := blk_frozen BK225.out 0; have hfz85_1 := blk_frozen BK225.out 1; have hfz85_2 := blk_frozen BK225.out 2; have hfz85_3 := blk_frozen BK225.out 3; have hfz85_4 := blk_frozen BK225.out 4; have hfz85_5 := blk_frozen BK225.out 5; have hfz85_6 := blk_frozen BK225.out 6; have hfz85_7 := blk_frozen BK225.out 7))
                  have n0_ : Aside0 (((((((((w82.setCell ⟨gb225, 0, none⟩ (.int .u64 (IntKind.u64.wrap (a1)))).setCell ⟨gb225, 1, none⟩ (.int .u64 (IntKind.u64.wrap (t201)))).setCell ⟨gb225, 2, none⟩ (.int .u64 (IntKind.u64.wrap (t205)))).setCell ⟨gb225, 3, none⟩ (.int .u64 t209)).setCell ⟨gb225, 4, none⟩ (.int .u64 t213)).setCell ⟨gb225, 5, none⟩ (.int .u64 t217)).setCell ⟨gb225, 6, none⟩ (.int .u64 t221)).setCell ⟨gb225, 7, none⟩ (.string (⟨#[]⟩ : ByteArray))).heap[gb184]? = some (.cells #[.int .u64 0, .int .u64 0, .int .u64 0, .int .u64 0, .int .u64 0, .int .u64 0, .int .u64 0, .string (⟨#[]⟩ : ByteArray)] 47 (0, 0))) := ⟨by (with_reducible repeat (first | refine blk_drewN ?_ _ | refine blk_drew ?_ | refine blk_alloc ?_ _)); refine blk_far ?_ NB184_225.out _; (with_reducible repeat (first | refine blk_drewN ?_ _ | refine blk_drew ?_ | refine blk_alloc ?_ _)); refine blk_far ?_ NB184_225.out _; (with_reducible repeat (first | refine blk_drewN ?_ _ | refine blk_drew ?_ | refine blk_alloc ?_ _)); refine blk_far ?_ NB184_225.out _; (with_reducible repeat (first | refine blk_drewN ?_ _ | refine blk_drew ?_ | refine blk_alloc ?_ _)); refine blk_far ?_ NB184_225.out _; (with_reducible repeat (first | refine blk_drewN ?_ _ | refine blk_drew ?_ | refine blk_alloc ?_ _)); refine blk_far ?_ NB184_225.out _; (with_reducible repeat (first | refine blk_drewN ?_ _ | refine blk_drew ?_ | refine blk_alloc ?_ _)); refine blk_far ?_ NB184_225.out _; (with_reducible repeat (first | refine blk_drewN ?_ _ | refine blk_drew ?_ | refine blk_alloc ?_ _)); refine blk_far ?_ NB184_225.out _; (with_reducible repeat (first | refine blk_drewN ?_ _ | refine blk_drew ?_ | refine blk_alloc ?_ _)); refine blk_far ?_ NB184_225.out _; (with_reducible repeat (first | refine blk_drewN ?_ _ | refine blk_drew ?_ | refine blk_alloc ?_ _)); exact BK184.out⟩
                  have n1_ : Aside0 (((((((((w82.setCell ⟨gb225, 0, none⟩ (.int .u64 (IntKind.u64.wrap (a1)))).setCell ⟨gb225, 1, none⟩ (.int .u64 (IntKind.u64.wrap (t201)))).setCell ⟨gb225, 2, none⟩ (.int .u64 (IntKind.u64.wrap (t205)))).setCell ⟨gb225, 3, none⟩ (.int .u64 t209)).setCell ⟨gb225, 4, none⟩ (.int .u64 t213)).setCell ⟨gb225, 5, none⟩ (.int .u64 t217)).setCell ⟨gb225, 6, none⟩ (.int .u64 t221)).setCell ⟨gb225, 7, none⟩ (.string (⟨#[]⟩ : ByteArray))).heap[gb225]? = some (.cells #[.int .u64 (IntKind.u64.wrap (a1)), .int .u64 (IntKind.u64.wrap (t201)), .int .u64 (IntKind.u64.wrap (t205)), .int .u64 t209, .int .u64 t213, .int .u64 t217, .int .u64 t221, .string (⟨#[]⟩ : ByteArray)] 47 (0, 0))) := ⟨by (with_reducible repeat (first | refine blk_drewN ?_ _ | refine blk_drew ?_ | refine blk_alloc ?_ _)); refine blk_put (cs := #[.int .u64 (IntKind.u64.wrap (a1)), .int .u64 (IntKind.u64.wrap (t201)), .int .u64 (IntKind.u64.wrap (t205)), .int .u64 t209, .int .u64 t213, .int .u64 t217, .int .u64 t221, .string (⟨#[]⟩ : ByteArray)]) ?_ 7 _ rfl; (with_reducible repeat (first | refine blk_drewN ?_ _ | refine blk_drew ?_ | refine blk_alloc ?_ _)); refine blk_put (cs := #[.int .u64 (IntKind.u64.wrap (a1)), .int .u64 (IntKind.u64.wrap (t201)), .int .u64 (IntKind.u64.wrap (t205)), .int .u64 t209, .int .u64 t213, .int .u64 t217, .int .u64 0, .string (⟨#[]⟩ : ByteArray)]) ?_ 6 _ rfl; (with_reducible repeat (first | refine blk_drewN ?_ _ | refine blk_drew ?_ | refine blk_alloc ?_ _)); refine blk_put (cs := #[.int .u64 (IntKind.u64.wrap (a1)), .int .u64 (IntKind.u64.wrap (t201)), .int .u64 (IntKind.u64.wrap (t205)), .int .u64 t209, .int .u64 t213, .int .u64 0, .int .u64 0, .string (⟨#[]⟩ : ByteArray)]) ?_ 5 _ rfl; (with_reducible repeat (first | refine blk_drewN ?_ _ | refine blk_drew ?_ | refine blk_alloc ?_ _)); refine blk_put (cs := #[.int .u64 (IntKind.u64.wrap (a1)), .int .u64 (IntKind.u64.wrap (t201)), .int .u64 (IntKind.u64.wrap (t205)), .int .u64 t209, .int .u64 0, .int .u64 0, .int .u64 0, .string (⟨#[]⟩ : ByteArray)]) ?_ 4 _ rfl; (with_reducible repeat (first | refine blk_drewN ?_ _ | refine blk_drew ?_ | refine blk_alloc ?_ _)); refine blk_put (cs := #[.int .u64 (IntKind.u64.wrap (a1)), .int .u64 (IntKind.u64.wrap (t201)), .int .u64 (IntKind.u64.wrap (t205)), .int .u64 0, .int .u64 0, .int .u64 0, .int .u64 0, .string (⟨#[]⟩ : ByteArray)]) ?_ 3 _ rfl; (with_reducible repeat (first | refine blk_drewN ?_ _ | refine blk_drew ?_ | refine blk_alloc ?_ _)); refine blk_put (cs := #[.int .u64 (IntKind.u64.wrap (a1)), .int .u64 (IntKind.u64.wrap (t201)), .int .u64 0, .int .u64 0, .int .u64 0, .int .u64 0, .int .u64 0, .string (⟨#[]⟩ : ByteArray)]) ?_ 2 _ rfl; (with_reducible repeat (first | refine blk_drewN ?_ _ | refine blk_drew ?_ | refine blk_alloc ?_ _)); refine blk_put (cs := #[.int .u64 (IntKind.u64.wrap (a1)), .int .u64 0, .int .u64 0, .int .u64 0, .int .u64 0, .int .u64 0, .int .u64 0, .string (⟨#[]⟩ : ByteArray)]) ?_ 1 _ rfl; (with_reducible repeat (first | refine blk_drewN ?_ _ | refine blk_drew ?_ | refine blk_alloc ?_ _)); refine blk_put (cs := #[.int .u64 0, .int .u64 0, .int .u64 0, .int .u64 0, .int .u64 0, .int .u64 0, .int .u64 0, .string (⟨#[]⟩ : ByteArray)]) ?_ 0 _ rfl; (with_reducible repeat (first | refine blk_drewN ?_ _ | refine blk_drew ?_ | refine blk_alloc ?_ _)); exact BK225.out⟩
                  have n2_ : Aside0 (IsS93 w ((((((((w82.setCell ⟨gb225, 0, none⟩ (.int .u64 (IntKind.u64.wrap (a1)))).setCell ⟨gb225, 1, none⟩ (.int .u64 (IntKind.u64.wrap (t201)))).setCell ⟨gb225, 2, none⟩ (.int .u64 (IntKind.u64.wrap (t205)))).setCell ⟨gb225, 3, none⟩ (.int .u64 t209)).setCell ⟨gb225, 4, none⟩ (.int .u64 t213)).setCell ⟨gb225, 5, none⟩ (.int .u64 t217)).setCell ⟨gb225, 6, none⟩ (.int .u64 t221)).setCell ⟨gb225, 7, none⟩ (.string (⟨#[]⟩ : ByteArray))) g188 t222 t223 t224) := ⟨by repeat (first | (with_reducible first | exact HI188.out | apply IsS93.alloc | apply IsS93.drewN | apply IsS93.drew | apply IsS93.set_0 | apply IsS93.set_1 | apply IsS93.set_2 | refine IsS93.far ?_ NB188_184.out _ | refine IsS93.far ?_ NB188_225.out _) | exact HI188.out)⟩
                  have n3_ : Aside0 (Below w.heap.size w ((((((((w82.setCell ⟨gb225, 0, none⟩ (.int .u64 (IntKind.u64.wrap (a1)))).setCell ⟨gb225, 1, none⟩ (.int .u64 (IntKind.u64.wrap (t201)))).setCell ⟨gb225, 2, none⟩ (.int .u64 (IntKind.u64.wrap (t205)))).setCell ⟨gb225, 3, none⟩ (.int .u64 t209)).setCell ⟨gb225, 4, none⟩ (.int .u64 t213)).setCell ⟨gb225, 5, none⟩ (.int .u64 t217)).setCell ⟨gb225, 6, none⟩ (.int .u64 t221)).setCell ⟨gb225, 7, none⟩ (.string (⟨#[]⟩ : ByteArray)))) := ⟨by repeat (first | (with_reducible first | exact HB.out | apply below_alloc | apply pw_below_drewN | apply below_drew1 | refine below_set ?_ (IsS93.ge HI188.out) | refine below_set ?_ GE184.out | refine below_set ?_ GE225.out) | exact HB.out)⟩
                  (try clear BK184)
                  (try clear BK225)
                  (try clear HI188)
                  (try clear HB)
                  generalize ((((((((w82.setCell ⟨gb225, 0, none⟩ (.int .u64 (IntKind.u64.wrap (a1)))).setCell ⟨gb225, 1, none⟩ (.int .u64 (IntKind.u64.wrap (t201)))).setCell ⟨gb225, 2, none⟩ (.int .u64 (IntKind.u64.wrap (t205)))).setCell ⟨gb225, 3, none⟩ (.int .u64 t209)).setCell ⟨gb225, 4, none⟩ (.int .u64 t213)).setCell ⟨gb225, 5, none⟩ (.int .u64 t217)).setCell ⟨gb225, 6, none⟩ (.int .u64 t221)).setCell ⟨gb225, 7, none⟩ (.string (⟨#[]⟩ : ByteArray))) = w86 at n0_ n1_ n2_ n3_ ⊢
                  have BK184 := n0_
                  have BK225 := n1_
                  have HI188 := n2_
                  have HB := n3_
                  clear n0_ n1_ n2_ n3_
                  have n0_ := Aside0.mk (blk_drew BK184.out)
                  have n1_ := Aside0.mk (blk_drew BK225.out)
                  have n2_ := Aside0.mk (IsS93.drew HI188.out)
                  have n3_ := Aside0.mk (below_drew1 HB.out)
                  clear BK184
                  clear BK225
                  clear HI188
                  clear HB
                  have BK184 := n0_
                  have BK225 := n1_
                  have HI188 := n2_
                  have HB := n3_
                  clear n0_ n1_ n2_ n3_
                  refine start_ (n := 23) (S := fun w' => w'.cell? ⟨gb225, 0, none⟩ = some (.int .u64 (IntKind.u64.wrap (a1))) ∧ w'.cell? ⟨gb225, 1, none⟩ = some (.int .u64 (IntKind.u64.wrap (t201))) ∧ w'.cell? ⟨gb225, 2, none⟩ = some (.int .u64 (IntKind.u64.wrap (t205))) ∧ w'.cell? ⟨gb225, 3, none⟩ = some (.int .u64 t209) ∧ w'.cell? ⟨gb225, 4, none⟩ = some (.int .u64 t213) ∧ w'.cell? ⟨gb225, 5, none⟩ = some (.int .u64 t217) ∧ w'.cell? ⟨gb225, 6, none⟩ = some (.int .u64 t221) ∧ w'.cell? ⟨gb225, 7, none⟩ = some (.string (⟨#[]⟩ : ByteArray))) (ds := []) #[false, false, false, false, false, false, false, false, false, false, false, false, false, false, false, false, false, false, false, false, false, false, false] (by kernel_rfl) rfl rfl ⟨(blk_cell BK225.out 0).trans rfl, (blk_cell BK225.out 1).trans rfl, (blk_cell BK225.out 2).trans rfl, (blk_cell BK225.out 3).trans rfl, (blk_cell BK225.out 4).trans rfl, (blk_cell BK225.out 5).trans rfl, (blk_cell BK225.out 6).trans rfl, (blk_cell BK225.out 7).trans rfl⟩ (fun hHeld => ?_); refine with_tabW tail_wide.tab7 tail_wide.bits7 (fun HT_ HW_ => ?_)
                  generalize w86.drew = w87 at BK184 BK225 HI188 HB hHeld ⊢
                  refine pure_ (i := 1) (N := some 57) (v := ?_) (a' := ?_) #[false, true, false, false, false, false, false, false, false, false, false, false, false, false, false, false, false, false, false, false, false, false, false] rfl rfl (any_of HT_.out (by kernel_rfl)) (fun _ _ _ h => h) (Or.inl ⟨by rfl, ?_⟩) ?_ ?_
                  rotate_left
                  · intro w'
                    go_simp
                    with_reducible rfl
                  rotate_left
                  · simp only [Act.put, List.setIfInBounds_toArray, List.set_cons_zero, List.set_cons_succ, i64_w, i32_w]
                    rfl
                  refine take_ (i := 0) (N := some 56) (v := ?_) (a' := ?_) #[true, true, false, false, false, false, false, false, false, false, false, false, false, false, false, false, false, false, false, false, false, false, false] rfl rfl (take_ofW HT_.out HW_.out (by kernel_rfl)) (fun _ _ _ h => h) (Or.inl ⟨by rfl, ?_⟩) hHeld ?_ ?_
                  rotate_left
                  · rintro w' ⟨s0, s1, s2, s3, s4, s5, s6, s7⟩
                    go_simp
                    with_reducible rfl
                  rotate_left
                  · simp only [Act.put, List.setIfInBounds_toArray, List.set_cons_zero, List.set_cons_succ, i64_w, i32_w]
                    rfl
                  refine one_ (i := 2) (N := some 58) #[true, true, true, false, false, false, false, false, false, false, false, false, false, false, false, false, false, false, false, false, false, false, false] rfl rfl (one_of HT_.out (by kernel_rfl)) (by decide) (fun K hK => ?_)
                  refine goes_ Try.func44 (by kernel_rfl) rfl #[.pointer (some ⟨g188, 0, none⟩)] (by rfl) rfl rfl (by (try simp only [List.map_toArray, List.map_cons, List.map_nil]); first | done | rfl | (simp only [List.length_drop, List.length_take]; rfl)) ?_
                  with_reducible refine (cursor_Cursor_Err.calls g188 t222 t223 t224 t226 t227 t228 t229 w _ ?side1 ?side2 A27.out).mono ?_
                  (case side1 => repeat (first | (with_reducible first | exact HI188.out | apply IsS93.alloc | apply IsS93.drewN | apply IsS93.drew | apply IsS93.set_0 | apply IsS93.set_1 | apply IsS93.set_2 | refine IsS93.far ?_ NB188_184.out _ | refine IsS93.far ?_ NB188_225.out _) | exact HI188.out))
                  (case side2 => repeat (first | (with_reducible first | exact HB.out | apply below_alloc | apply pw_below_drewN | apply below_drew1 | refine below_set ?_ (IsS93.ge HI188.out) | refine below_set ?_ GE184.out | refine below_set ?_ GE225.out) | exact HB.out))
                  rintro e w88 ⟨rfl, hi, hb, hk⟩
                  refine ⟨_, rfl, ?_⟩
                  have n0_ := Aside0.mk (KeepBut.blk hk (g' := gb184) (o := .cells #[.int .u64 0, .int .u64 0, .int .u64 0, .int .u64 0, .int .u64 0, .int .u64 0, .int .u64 0, .string (⟨#[]⟩ : ByteArray)] 47 (0, 0)) (by (with_reducible repeat (first | refine blk_drewN ?_ _ | refine blk_drew ?_ | refine blk_alloc ?_ _)); exact BK184.out) NB184_188.out (by simp))
                  have n1_ := Aside0.mk (KeepBut.blk hk (g' := gb225) (o := .cells #[.int .u64 (IntKind.u64.wrap (a1)), .int .u64 (IntKind.u64.wrap (t201)), .int .u64 (IntKind.u64.wrap (t205)), .int .u64 t209, .int .u64 t213, .int .u64 t217, .int .u64 t221, .string (⟨#[]⟩ : ByteArray)] 47 (0, 0)) (by (with_reducible repeat (first | refine blk_drewN ?_ _ | refine blk_drew ?_ | refine blk_alloc ?_ _)); exact BK225.out) NB225_188.out (by simp))
                  have n2_ := Aside0.mk (hb)
                  have n3_ := Aside0.mk (hi)
                  clear BK184
                  clear BK225
                  clear HB
                  clear HI188
                  have BK184 := n0_
                  have BK225 := n1_
                  have HB := n2_
                  have HI188 := n3_
                  clear n0_ n1_ n2_ n3_
                  (try clear hb)
                  (try clear hb2)
                  (try clear hk)
                  (try clear hi)
                  refine hK.out _ _ ⟨(blk_cell BK225.out 0).trans rfl, (blk_cell BK225.out 1).trans rfl, (blk_cell BK225.out 2).trans rfl, (blk_cell BK225.out 3).trans rfl, (blk_cell BK225.out 4).trans rfl, (blk_cell BK225.out 5).trans rfl, (blk_cell BK225.out 6).trans rfl, (blk_cell BK225.out 7).trans rfl⟩ (fun hHeld => ?_)
                  clear hK K
                  refine norm_ (a' := ?_) ?_ ?_
                  rotate_left
                  · show Act.put _ (some 58) _ = _
                    simp only [Act.put, List.setIfInBounds_toArray, List.set_cons_zero, List.set_cons_succ, i64_w, i32_w]
                    rfl
                  refine pure_ (i := 3) (N := some 59) (v := ?_) (a' := ?_) #[true, true, true, true, false, false, false, false, false, false, false, false, false, false, false, false, false, false, false, false, false, false, false] rfl rfl (any_of HT_.out (by kernel_rfl)) (fun _ _ _ h => h) (Or.inl ⟨by rfl, ?_⟩) ?_ ?_
                  rotate_left
                  · intro w'
                    go_simp
                    with_reducible rfl
                  rotate_left
                  · simp only [Act.put, List.setIfInBounds_toArray, List.set_cons_zero, List.set_cons_succ, i64_w, i32_w]
                    rfl
                  refine pure_ (i := 4) (N := some 60) (v := ?_) (a' := ?_) #[true, true, true, true, true, false, false, false, false, false, false, false, false, false, false, false, false, false, false, false, false, false, false] rfl rfl (any_of HT_.out (by kernel_rfl)) (fun _ _ _ h => h) (Or.inl ⟨by rfl, ?_⟩) ?_ ?_
                  rotate_left
                  · intro w'
                    go_simp
                    with_reducible rfl
                  rotate_left
                  · simp only [Act.put, List.setIfInBounds_toArray, List.set_cons_zero, List.set_cons_succ, i64_w, i32_w]
                    rfl
                  refine pure_ (i := 5) (N := some 61) (v := ?_) (a' := ?_) #[true, true, true, true, true, true, false, false, false, false, false, false, false, false, false, false, false, false, false, false, false, false, false] rfl rfl (any_of HT_.out (by kernel_rfl)) (fun _ _ _ h => h) (Or.inl ⟨by rfl, ?_⟩) ?_ ?_
                  rotate_left
                  · intro w'
                    go_simp
                    with_reducible rfl
                  rotate_left
                  · simp only [Act.put, List.setIfInBounds_toArray, List.set_cons_zero, List.set_cons_succ, i64_w, i32_w]
                    rfl
                  refine take_ (i := 6) (N := some 62) (v := ?_) (a' := ?_) #[true, true, true, true, true, true, true, false, false, false, false, false, false, false, false, false, false, false, false, false, false, false, false] rfl rfl (take_ofW HT_.out HW_.out (by kernel_rfl)) (fun _ _ _ h => h) (Or.inl ⟨by rfl, ?_⟩) hHeld ?_ ?_
                  rotate_left
                  · rintro w' ⟨s0, s1, s2, s3, s4, s5, s6, s7⟩
                    go_simp
                    with_reducible rfl
                  rotate_left
                  · simp only [Act.put, List.setIfInBounds_toArray, List.set_cons_zero, List.set_cons_succ, i64_w, i32_w]
                    rfl
                  refine pure_ (i := 7) (N := some 63) (v := ?_) (a' := ?_) #[true, true, true, true, true, true, true, true, false, false, false, false, false, false, false, false, false, false, false, false, false, false, false] rfl rfl (any_of HT_.out (by kernel_rfl)) (fun _ _ _ h => h) (Or.inl ⟨by rfl, ?_⟩) ?_ ?_
                  rotate_left
                  · intro w'
                    go_simp
                    with_reducible rfl
                  rotate_left
                  · simp only [Act.put, List.setIfInBounds_toArray, List.set_cons_zero, List.set_cons_succ, i64_w, i32_w]
                    rfl
                  refine pure_ (i := 8) (N := some 64) (v := ?_) (a' := ?_) #[true, true, true, true, true, true, true, true, true, false, false, false, false, false, false, false, false, false, false, false, false, false, false] rfl rfl (any_of HT_.out (by kernel_rfl)) (fun _ _ _ h => h) (Or.inl ⟨by rfl, ?_⟩) ?_ ?_
                  rotate_left
                  · intro w'
                    go_simp
                    with_reducible rfl
                  rotate_left
                  · simp only [Act.put, List.setIfInBounds_toArray, List.set_cons_zero, List.set_cons_succ, i64_w, i32_w]
                    rfl
                  refine pure_ (i := 9) (N := some 65) (v := ?_) (a' := ?_) #[true, true, true, true, true, true, true, true, true, true, false, false, false, false, false, false, false, false, false, false, false, false, false] rfl rfl (any_of HT_.out (by kernel_rfl)) (fun _ _ _ h => h) (Or.inl ⟨by rfl, ?_⟩) ?_ ?_
                  rotate_left
                  · intro w'
                    go_simp
                    with_reducible rfl
                  rotate_left
                  · simp only [Act.put, List.setIfInBounds_toArray, List.set_cons_zero, List.set_cons_succ, i64_w, i32_w]
                    rfl
                  refine pure_ (i := 10) (N := some 66) (v := undef) (a' := ?_) #[true, true, true, true, true, true, true, true, true, true, true, false, false, false, false, false, false, false, false, false, false, false, false] rfl rfl (any_of HT_.out (by kernel_rfl)) (fun _ _ _ h => h) (Or.inr ⟨by rfl, rfl⟩) ?_ ?_
                  rotate_left
                  · simp only [Act.put, List.setIfInBounds_toArray, List.set_cons_zero, List.set_cons_succ, i64_w, i32_w]
                    rfl
                  refine pure_ (i := 11) (N := some 67) (v := undef) (a' := ?_) #[true, true, true, true, true, true, true, true, true, true, true, true, false, false, false, false, false, false, false, false, false, false, false] rfl rfl (any_of HT_.out (by kernel_rfl)) (fun _ _ _ h => h) (Or.inr ⟨by rfl, rfl⟩) ?_ ?_
                  rotate_left
                  · simp only [Act.put, List.setIfInBounds_toArray, List.set_cons_zero, List.set_cons_succ, i64_w, i32_w]
                    rfl
                  refine pure_ (i := 12) (N := some 68) (v := undef) (a' := ?_) #[true, true, true, true, true, true, true, true, true, true, true, true, true, false, false, false, false, false, false, false, false, false, false] rfl rfl (any_of HT_.out (by kernel_rfl)) (fun _ _ _ h => h) (Or.inr ⟨by rfl, rfl⟩) ?_ ?_
                  rotate_left
                  · simp only [Act.put, List.setIfInBounds_toArray, List.set_cons_zero, List.set_cons_succ, i64_w, i32_w]
                    rfl
                  refine pure_ (i := 13) (N := some 69) (v := ?_) (a' := ?_) #[true, true, true, true, true, true, true, true, true, true, true, true, true, true, false, false, false, false, false, false, false, false, false] rfl rfl (any_of HT_.out (by kernel_rfl)) (fun _ _ _ h => h) (Or.inl ⟨by rfl, ?_⟩) ?_ ?_
                  rotate_left
                  · intro w'
                    go_simp
                    with_reducible rfl
                  rotate_left
                  · simp only [Act.put, List.setIfInBounds_toArray, List.set_cons_zero, List.set_cons_succ, i64_w, i32_w]
                    rfl
                  refine pure_ (i := 14) (N := some 70) (v := ?_) (a' := ?_) #[true, true, true, true, true, true, true, true, true, true, true, true, true, true, true, false, false, false, false, false, false, false, false] rfl rfl (any_of HT_.out (by kernel_rfl)) (fun _ _ _ h => h) (Or.inl ⟨by rfl, ?_⟩) ?_ ?_
                  rotate_left
                  · intro w'
                    go_simp
                    with_reducible rfl
                  rotate_left
                  · simp only [Act.put, List.setIfInBounds_toArray, List.set_cons_zero, List.set_cons_succ, i64_w, i32_w]
                    rfl
                  refine pure_ (i := 15) (N := some 71) (v := undef) (a' := ?_) #[true, true, true, true, true, true, true, true, true, true, true, true, true, true, true, true, false, false, false, false, false, false, false] rfl rfl (any_of HT_.out (by kernel_rfl)) (fun _ _ _ h => h) (Or.inr ⟨by rfl, rfl⟩) ?_ ?_
                  rotate_left
                  · simp only [Act.put, List.setIfInBounds_toArray, List.set_cons_zero, List.set_cons_succ, i64_w, i32_w]
                    rfl
                  refine pure_ (i := 16) (N := some 72) (v := undef) (a' := ?_) #[true, true, true, true, true, true, true, true, true, true, true, true, true, true, true, true, true, false, false, false, false, false, false] rfl rfl (any_of HT_.out (by kernel_rfl)) (fun _ _ _ h => h) (Or.inr ⟨by rfl, rfl⟩) ?_ ?_
                  rotate_left
                  · simp only [Act.put, List.setIfInBounds_toArray, List.set_cons_zero, List.set_cons_succ, i64_w, i32_w]
                    rfl
                  refine pure_ (i := 17) (N := some 73) (v := undef) (a' := ?_) #[true, true, true, true, true, true, true, true, true, true, true, true, true, true, true, true, true, true, false, false, false, false, false] rfl rfl (any_of HT_.out (by kernel_rfl)) (fun _ _ _ h => h) (Or.inr ⟨by rfl, rfl⟩) ?_ ?_
                  rotate_left
                  · simp only [Act.put, List.setIfInBounds_toArray, List.set_cons_zero, List.set_cons_succ, i64_w, i32_w]
                    rfl
                  refine pure_ (i := 18) (N := some 74) (v := undef) (a' := ?_) #[true, true, true, true, true, true, true, true, true, true, true, true, true, true, true, true, true, true, true, false, false, false, false] rfl rfl (any_of HT_.out (by kernel_rfl)) (fun _ _ _ h => h) (Or.inr ⟨by rfl, rfl⟩) ?_ ?_
                  rotate_left
                  · simp only [Act.put, List.setIfInBounds_toArray, List.set_cons_zero, List.set_cons_succ, i64_w, i32_w]
                    rfl
                  refine pure_ (i := 19) (N := some 75) (v := undef) (a' := ?_) #[true, true, true, true, true, true, true, true, true, true, true, true, true, true, true, true, true, true, true, true, false, false, false] rfl rfl (any_of HT_.out (by kernel_rfl)) (fun _ _ _ h => h) (Or.inr ⟨by rfl, rfl⟩) ?_ ?_
                  rotate_left
                  · simp only [Act.put, List.setIfInBounds_toArray, List.set_cons_zero, List.set_cons_succ, i64_w, i32_w]
                    rfl
                  refine pure_ (i := 20) (N := some 76) (v := ?_) (a' := ?_) #[true, true, true, true, true, true, true, true, true, true, true, true, true, true, true, true, true, true, true, true, true, false, false] rfl rfl (any_of HT_.out (by kernel_rfl)) (fun _ _ _ h => h) (Or.inl ⟨by rfl, ?_⟩) ?_ ?_
                  rotate_left
                  · intro w'
                    go_simp
                    with_reducible rfl
                  rotate_left
                  · simp only [Act.put, List.setIfInBounds_toArray, List.set_cons_zero, List.set_cons_succ, i64_w, i32_w]
                    rfl
                  refine one_ (i := 21) (N := none) #[true, true, true, true, true, true, true, true, true, true, true, true, true, true, true, true, true, true, true, true, true, true, false] rfl rfl (one_of HT_.out (by kernel_rfl)) (by decide) (fun K hK => ?_)
                  have hs89 : w88.cell? ⟨gb184, 0, none⟩ = some (.int .u64 0) := (blk_cell BK184.out 0).trans rfl
                  have hfs89 := blk_frozen BK184.out 0
                  have hns89_1 := NB225_184.out
                  have hms89_1 := NB184_225.out
                  have hs90 : w88.cell? ⟨gb184, 1, none⟩ = some (.int .u64 0) := (blk_cell BK184.out 1).trans rfl
                  have hfs90 := blk_frozen BK184.out 1
                  have hns90_1 := NB225_184.out
                  have hms90_1 := NB184_225.out
                  have hs91 : w88.cell? ⟨gb184, 2, none⟩ = some (.int .u64 0) := (blk_cell BK184.out 2).trans rfl
                  have hfs91 := blk_frozen BK184.out 2
                  have hns91_1 := NB225_184.out
                  have hms91_1 := NB184_225.out
                  have hs92 : w88.cell? ⟨gb184, 3, none⟩ = some (.int .u64 0) := (blk_cell BK184.out 3).trans rfl
                  have hfs92 := blk_frozen BK184.out 3
                  have hns92_1 := NB225_184.out
                  have hms92_1 := NB184_225.out
                  have hs93 : w88.cell? ⟨gb184, 4, none⟩ = some (.int .u64 0) := (blk_cell BK184.out 4).trans rfl
                  have hfs93 := blk_frozen BK184.out 4
                  have hns93_1 := NB225_184.out
                  have hms93_1 := NB184_225.out
                  have hs94 : w88.cell? ⟨gb184, 5, none⟩ = some (.int .u64 0) := (blk_cell BK184.out 5).trans rfl
                  have hfs94 := blk_frozen BK184.out 5
                  have hns94_1 := NB225_184.out
                  have hms94_1 := NB184_225.out
                  have hs95 : w88.cell? ⟨gb184, 6, none⟩ = some (.int .u64 0) := (blk_cell BK184.out 6).trans rfl
                  have hfs95 := blk_frozen BK184.out 6
                  have hns95_1 := NB225_184.out
                  have hms95_1 := NB184_225.out
                  have hs96 : w88.cell? ⟨gb184, 7, none⟩ = some (.string (⟨#[]⟩ : ByteArray)) := (blk_cell BK184.out 7).trans rfl
                  have hfs96 := blk_frozen BK184.out 7
                  have hns96_1 := NB225_184.out
                  have hms96_1 := NB184_225.out
                  refine skip_ (w1 := ?_) (by rfl) rfl ?_ ?_
                  rotate_left
                  · go_simp
                    rfl
                  refine hK.out _ _ ⟨((cell_far (p := ⟨gb184, _, none⟩) NB225_184.out _).trans (((cell_far (p := ⟨gb184, _, none⟩) NB225_184.out _).trans (((cell_far (p := ⟨gb184, _, none⟩) NB225_184.out _).trans (((cell_far (p := ⟨gb184, _, none⟩) NB225_184.out _).trans (((cell_far (p := ⟨gb184, _, none⟩) NB225_184.out _).trans (((cell_far (p := ⟨gb184, _, none⟩) NB225_184.out _).trans (((cell_far (p := ⟨gb184, _, none⟩) NB225_184.out _).trans (((cell_far (p := ⟨gb184, _, none⟩) NB225_184.out _).trans (hHeld.1)))))))))))))))), ((cell_far (p := ⟨gb184, _, none⟩) NB225_184.out _).trans (((cell_far (p := ⟨gb184, _, none⟩) NB225_184.out _).trans (((cell_far (p := ⟨gb184, _, none⟩) NB225_184.out _).trans (((cell_far (p := ⟨gb184, _, none⟩) NB225_184.out _).trans (((cell_far (p := ⟨gb184, _, none⟩) NB225_184.out _).trans (((cell_far (p := ⟨gb184, _, none⟩) NB225_184.out _).trans (((cell_far (p := ⟨gb184, _, none⟩) NB225_184.out _).trans (((cell_far (p := ⟨gb184, _, none⟩) NB225_184.out _).trans (hHeld.2.1)))))))))))))))), ((cell_far (p := ⟨gb184, _, none⟩) NB225_184.out _).trans (((cell_far (p := ⟨gb184, _, none⟩) NB225_184.out _).trans (((cell_far (p := ⟨gb184, _, none⟩) NB225_184.out _).trans (((cell_far (p := ⟨gb184, _, none⟩) NB225_184.out _).trans (((cell_far (p := ⟨gb184, _, none⟩) NB225_184.out _).trans (((cell_far (p := ⟨gb184, _, none⟩) NB225_184.out _).trans (((cell_far (p := ⟨gb184, _, none⟩) NB225_184.out _).trans (((cell_far (p := ⟨gb184, _, none⟩) NB225_184.out _).trans (hHeld.2.2.1)))))))))))))))), ((cell_far (p := ⟨gb184, _, none⟩) NB225_184.out _).trans (((cell_far (p := ⟨gb184, _, none⟩) NB225_184.out _).trans (((cell_far (p := ⟨gb184, _, none⟩) NB225_184.out _).trans (((cell_far (p := ⟨gb184, _, none⟩) NB225_184.out _).trans (((cell_far (p := ⟨gb184, _, none⟩) NB225_184.out _).trans (((cell_far (p := ⟨gb184, _, none⟩) NB225_184.out _).trans (((cell_far (p := ⟨gb184, _, none⟩) NB225_184.out _).trans (((cell_far (p := ⟨gb184, _, none⟩) NB225_184.out _).trans (hHeld.2.2.2.1)))))))))))))))), ((cell_far (p := ⟨gb184, _, none⟩) NB225_184.out _).trans (((cell_far (p := ⟨gb184, _, none⟩) NB225_184.out _).trans (((cell_far (p := ⟨gb184, _, none⟩) NB225_184.out _).trans (((cell_far (p := ⟨gb184, _, none⟩) NB225_184.out _).trans (((cell_far (p := ⟨gb184, _, none⟩) NB225_184.out _).trans (((cell_far (p := ⟨gb184, _, none⟩) NB225_184.out _).trans (((cell_far (p := ⟨gb184, _, none⟩) NB225_184.out _).trans (((cell_far (p := ⟨gb184, _, none⟩) NB225_184.out _).trans (hHeld.2.2.2.2.1)))))))))))))))), ((cell_far (p := ⟨gb184, _, none⟩) NB225_184.out _).trans (((cell_far (p := ⟨gb184, _, none⟩) NB225_184.out _).trans (((cell_far (p := ⟨gb184, _, none⟩) NB225_184.out _).trans (((cell_far (p := ⟨gb184, _, none⟩) NB225_184.out _).trans (((cell_far (p := ⟨gb184, _, none⟩) NB225_184.out _).trans (((cell_far (p := ⟨gb184, _, none⟩) NB225_184.out _).trans (((cell_far (p := ⟨gb184, _, none⟩) NB225_184.out _).trans (((cell_far (p := ⟨gb184, _, none⟩) NB225_184.out _).trans (hHeld.2.2.2.2.2.1)))))))))))))))), ((cell_far (p := ⟨gb184, _, none⟩) NB225_184.out _).trans (((cell_far (p := ⟨gb184, _, none⟩) NB225_184.out _).trans (((cell_far (p := ⟨gb184, _, none⟩) NB225_184.out _).trans (((cell_far (p := ⟨gb184, _, none⟩) NB225_184.out _).trans (((cell_far (p := ⟨gb184, _, none⟩) NB225_184.out _).trans (((cell_far (p := ⟨gb184, _, none⟩) NB225_184.out _).trans (((cell_far (p := ⟨gb184, _, none⟩) NB225_184.out _).trans (((cell_far (p := ⟨gb184, _, none⟩) NB225_184.out _).trans (hHeld.2.2.2.2.2.2.1)))))))))))))))), ((cell_far (p := ⟨gb184, _, none⟩) NB225_184.out _).trans (((cell_far (p := ⟨gb184, _, none⟩) NB225_184.out _).trans (((cell_far (p := ⟨gb184, _, none⟩) NB225_184.out _).trans (((cell_far (p := ⟨gb184, _, none⟩) NB225_184.out _).trans (((cell_far (p := ⟨gb184, _, none⟩) NB225_184.out _).trans (((cell_far (p := ⟨gb184, _, none⟩) NB225_184.out _).trans (((cell_far (p := ⟨gb184, _, none⟩) NB225_184.out _).trans (((cell_far (p := ⟨gb184, _, none⟩) NB225_184.out _).trans (hHeld.2.2.2.2.2.2.2))))))))))))))))⟩ (fun hHeld => ?_)
                  clear hK K
                  refine pure_ (i := 22) (N := some 7) (v := ?_) (a' := ?_) #[true, true, true, true, true, true, true, true, true, true, true, true, true, true, true, true, true, true, true, true, true, true, true] rfl rfl (any_of HT_.out (by kernel_rfl)) (fun _ _ _ h => h) (Or.inl ⟨by rfl, ?_⟩) ?_ ?_
                  rotate_left
                  · intro w'
                    go_simp
                    with_reducible rfl
                  rotate_left
                  · simp only [Act.put, List.setIfInBounds_toArray, List.set_cons_zero, List.set_cons_succ, i64_w, i32_w]
                    rfl
                  refine done_ (done_of HT_.out (by kernel_rfl)) ?_
                  try go_wp2
                  refine bodyPost_ret (results_ct rfl _ _ gb184 47 #[.int .u64 (IntKind.u64.wrap (a1)), .int .u64 (IntKind.u64.wrap (t201)), .int .u64 (IntKind.u64.wrap (t205)), .int .u64 t209, .int .u64 t213, .int .u64 t217, .int .u64 t221, .string (⟨#[]⟩ : ByteArray)] (0, 0) _ rfl (by (with_reducible repeat (first | refine blk_drewN ?_ _ | refine blk_drew ?_ | refine blk_alloc ?_ _)); refine blk_put (cs := #[.int .u64 (IntKind.u64.wrap (a1)), .int .u64 (IntKind.u64.wrap (t201)), .int .u64 (IntKind.u64.wrap (t205)), .int .u64 t209, .int .u64 t213, .int .u64 t217, .int .u64 t221, .string (⟨#[]⟩ : ByteArray)]) ?_ 7 _ rfl; (with_reducible repeat (first | refine blk_drewN ?_ _ | refine blk_drew ?_ | refine blk_alloc ?_ _)); refine blk_put (cs := #[.int .u64 (IntKind.u64.wrap (a1)), .int .u64 (IntKind.u64.wrap (t201)), .int .u64 (IntKind.u64.wrap (t205)), .int .u64 t209, .int .u64 t213, .int .u64 t217, .int .u64 0, .string (⟨#[]⟩ : ByteArray)]) ?_ 6 _ rfl; (with_reducible repeat (first | refine blk_drewN ?_ _ | refine blk_drew ?_ | refine blk_alloc ?_ _)); refine blk_put (cs := #[.int .u64 (IntKind.u64.wrap (a1)), .int .u64 (IntKind.u64.wrap (t201)), .int .u64 (IntKind.u64.wrap (t205)), .int .u64 t209, .int .u64 t213, .int .u64 0, .int .u64 0, .string (⟨#[]⟩ : ByteArray)]) ?_ 5 _ rfl; (with_reducible repeat (first | refine blk_drewN ?_ _ | refine blk_drew ?_ | refine blk_alloc ?_ _)); refine blk_put (cs := #[.int .u64 (IntKind.u64.wrap (a1)), .int .u64 (IntKind.u64.wrap (t201)), .int .u64 (IntKind.u64.wrap (t205)), .int .u64 t209, .int .u64 0, .int .u64 0, .int .u64 0, .string (⟨#[]⟩ : ByteArray)]) ?_ 4 _ rfl; (with_reducible repeat (first | refine blk_drewN ?_ _ | refine blk_drew ?_ | refine blk_alloc ?_ _)); refine blk_put (cs := #[.int .u64 (IntKind.u64.wrap (a1)), .int .u64 (IntKind.u64.wrap (t201)), .int .u64 (IntKind.u64.wrap (t205)), .int .u64 0, .int .u64 0, .int .u64 0, .int .u64 0, .string (⟨#[]⟩ : ByteArray)]) ?_ 3 _ rfl; (with_reducible repeat (first | refine blk_drewN ?_ _ | refine blk_drew ?_ | refine blk_alloc ?_ _)); refine blk_put (cs := #[.int .u64 (IntKind.u64.wrap (a1)), .int .u64 (IntKind.u64.wrap (t201)), .int .u64 0, .int .u64 0, .int .u64 0, .int .u64 0, .int .u64 0, .string (⟨#[]⟩ : ByteArray)]) ?_ 2 _ rfl; (with_reducible repeat (first | refine blk_drewN ?_ _ | refine blk_drew ?_ | refine blk_alloc ?_ _)); refine blk_put (cs := #[.int .u64 (IntKind.u64.wrap (a1)), .int .u64 0, .int .u64 0, .int .u64 0, .int .u64 0, .int .u64 0, .int .u64 0, .string (⟨#[]⟩ : ByteArray)]) ?_ 1 _ rfl; (with_reducible repeat (first | refine blk_drewN ?_ _ | refine blk_drew ?_ | refine blk_alloc ?_ _)); refine blk_put (cs := #[.int .u64 0, .int .u64 0, .int .u64 0, .int .u64 0, .int .u64 0, .int .u64 0, .int .u64 0, .string (⟨#[]⟩ : ByteArray)]) ?_ 0 _ rfl; (with_reducible repeat (first | refine blk_drewN ?_ _ | refine blk_drew ?_ | refine blk_alloc ?_ _)); exact BK184.out) Try.underlying47 rfl (by kernel_rfl)) rfl ?_
                  exact ⟨by first | rfl | (simp [errW_none, errW_some] <;> rfl) | (simp [*, errW_none, errW_some] <;> rfl), by repeat (first | (with_reducible first | exact HB.out | apply below_alloc | apply pw_below_drewN | apply below_drew1 | refine below_set ?_ (IsS93.ge HI188.out) | refine below_set ?_ GE184.out | refine below_set ?_ GE225.out) | exact HB.out)⟩
              · rw [if_neg c28] at H
                have c28b0 : (t226 == 0) = false := beq_eq_false_iff_ne.mpr c28
                have c28b1 : (t226 != 0) = true := bne_iff_ne.mpr c28
                simp only [Option.some.injEq, Prod.mk.injEq] at H
                obtain ⟨rfl, rfl, rfl, rfl, rfl, rfl, rfl, rfl, rfl⟩ := H
                try go_wp2_with (first | ((with_reducible refine gate_callee (f := 39) rfl ?_); refine goesL_ (some 38) rfl rfl Try.func39 (by kernel_rfl) rfl #[.pointer (some ⟨g188, 0, none⟩), .int .i64 4] rfl (by (try simp only [List.map_toArray, List.map_cons, List.map_nil]); first | done | rfl | (simp only [List.length_drop, List.length_take]; rfl)) ?_; (with_reducible refine (cursor_Cursor_Take.calls g188 t194 t195 t196 4 t197 t198 t199 t200 w _ ?side1 ?side2 A20.out).mono ?_); (case side1 => repeat (first | (with_reducible first | exact HI188.out | apply IsS93.alloc | apply IsS93.drewN | apply IsS93.drew | apply IsS93.set_0 | apply IsS93.set_1 | apply IsS93.set_2 | refine IsS93.far ?_ NB188_184.out _) | exact HI188.out)); (case side2 => repeat (first | (with_reducible first | exact HB.out | apply below_alloc | apply pw_below_drewN | apply below_drew1 | refine below_set ?_ (IsS93.ge HI188.out) | refine below_set ?_ GE184.out) | exact HB.out)); rintro e w97 ⟨rfl, hi, hb, hk⟩; refine ⟨_, rfl, ?_⟩; have n0_ := Aside0.mk (KeepBut.blk hk (g' := gb184) (o := .cells #[.int .u64 0, .int .u64 0, .int .u64 0, .int .u64 0, .int .u64 0, .int .u64 0, .int .u64 0, .string (⟨#[]⟩ : ByteArray)] 47 (0, 0)) (by (with_reducible repeat (first | refine blk_drewN ?_ _ | refine blk_drew ?_ | refine blk_alloc ?_ _)); exact BK184.out) NB184_188.out (by simp)); have n1_ := Aside0.mk (hb); have n2_ := Aside0.mk (hi); clear BK184; clear HB; clear HI188; have BK184 := n0_; have HB := n1_; have HI188 := n2_; clear n0_ n1_ n2_; (try clear hb); (try clear hb2); (try clear hk); (try clear hi)) | ((with_reducible refine gate_callee (f := 41) rfl ?_); refine goesL_ (some 42) rfl rfl Try.func41 (by kernel_rfl) rfl #[.pointer (some ⟨g188, 0, none⟩)] rfl (by (try simp only [List.map_toArray, List.map_cons, List.map_nil]); first | done | rfl | (simp only [List.length_drop, List.length_take]; rfl)) ?_; (with_reducible refine (cursor_Cursor_Four.calls kj9 g188 t198 t199 t200 t201 t202 t203 t204 w _ ?side1 ?side2 A21.out).mono ?_); (case side1 => repeat (first | (with_reducible first | exact HI188.out | apply IsS93.alloc | apply IsS93.drewN | apply IsS93.drew | apply IsS93.set_0 | apply IsS93.set_1 | apply IsS93.set_2 | refine IsS93.far ?_ NB188_184.out _) | exact HI188.out)); (case side2 => repeat (first | (with_reducible first | exact HB.out | apply below_alloc | apply pw_below_drewN | apply below_drew1 | refine below_set ?_ (IsS93.ge HI188.out) | refine below_set ?_ GE184.out) | exact HB.out)); rintro e w98 ⟨rfl, hi, hb, hk⟩; refine ⟨_, rfl, ?_⟩; have n0_ := Aside0.mk (KeepBut.blk hk (g' := gb184) (o := .cells #[.int .u64 0, .int .u64 0, .int .u64 0, .int .u64 0, .int .u64 0, .int .u64 0, .int .u64 0, .string (⟨#[]⟩ : ByteArray)] 47 (0, 0)) (by (with_reducible repeat (first | refine blk_drewN ?_ _ | refine blk_drew ?_ | refine blk_alloc ?_ _)); exact BK184.out) NB184_188.out (by simp)); have n1_ := Aside0.mk (hb); have n2_ := Aside0.mk (hi); clear BK184; clear HB; clear HI188; have BK184 := n0_; have HB := n1_; have HI188 := n2_; clear n0_ n1_ n2_; (try clear hb); (try clear hb2); (try clear hk); (try clear hi)) | ((with_reducible refine gate_callee (f := 41) rfl ?_); refine goesL_ (some 45) rfl rfl Try.func41 (by kernel_rfl) rfl #[.pointer (some ⟨g188, 0, none⟩)] rfl (by (try simp only [List.map_toArray, List.map_cons, List.map_nil]); first | done | rfl | (simp only [List.length_drop, List.length_take]; rfl)) ?_; (with_reducible refine (cursor_Cursor_Four.calls kj9 g188 t202 t203 t204 t205 t206 t207 t208 w _ ?side1 ?side2 A22.out).mono ?_); (case side1 => repeat (first | (with_reducible first | exact HI188.out | apply IsS93.alloc | apply IsS93.drewN | apply IsS93.drew | apply IsS93.set_0 | apply IsS93.set_1 | apply IsS93.set_2 | refine IsS93.far ?_ NB188_184.out _) | exact HI188.out)); (case side2 => repeat (first | (with_reducible first | exact HB.out | apply below_alloc | apply pw_below_drewN | apply below_drew1 | refine below_set ?_ (IsS93.ge HI188.out) | refine below_set ?_ GE184.out) | exact HB.out)); rintro e w99 ⟨rfl, hi, hb, hk⟩; refine ⟨_, rfl, ?_⟩; have n0_ := Aside0.mk (KeepBut.blk hk (g' := gb184) (o := .cells #[.int .u64 0, .int .u64 0, .int .u64 0, .int .u64 0, .int .u64 0, .int .u64 0, .int .u64 0, .string (⟨#[]⟩ : ByteArray)] 47 (0, 0)) (by (with_reducible repeat (first | refine blk_drewN ?_ _ | refine blk_drew ?_ | refine blk_alloc ?_ _)); exact BK184.out) NB184_188.out (by simp)); have n1_ := Aside0.mk (hb); have n2_ := Aside0.mk (hi); clear BK184; clear HB; clear HI188; have BK184 := n0_; have HB := n1_; have HI188 := n2_; clear n0_ n1_ n2_; (try clear hb); (try clear hb2); (try clear hk); (try clear hi)) | ((with_reducible refine gate_callee (f := 43) rfl ?_); refine goesL_ (some 48) rfl rfl Try.func43 (by kernel_rfl) rfl #[.pointer (some ⟨g188, 0, none⟩)] rfl (by (try simp only [List.map_toArray, List.map_cons, List.map_nil]); first | done | rfl | (simp only [List.length_drop, List.length_take]; rfl)) ?_; (with_reducible refine (cursor_Cursor_Eight.calls kj9 g188 t206 t207 t208 t209 t210 t211 t212 w _ ?side1 ?side2 A23.out).mono ?_); (case side1 => repeat (first | (with_reducible first | exact HI188.out | apply IsS93.alloc | apply IsS93.drewN | apply IsS93.drew | apply IsS93.set_0 | apply IsS93.set_1 | apply IsS93.set_2 | refine IsS93.far ?_ NB188_184.out _) | exact HI188.out)); (case side2 => repeat (first | (with_reducible first | exact HB.out | apply below_alloc | apply pw_below_drewN | apply below_drew1 | refine below_set ?_ (IsS93.ge HI188.out) | refine below_set ?_ GE184.out) | exact HB.out)); rintro e w100 ⟨rfl, hi, hb, hk⟩; refine ⟨_, rfl, ?_⟩; have n0_ := Aside0.mk (KeepBut.blk hk (g' := gb184) (o := .cells #[.int .u64 0, .int .u64 0, .int .u64 0, .int .u64 0, .int .u64 0, .int .u64 0, .int .u64 0, .string (⟨#[]⟩ : ByteArray)] 47 (0, 0)) (by (with_reducible repeat (first | refine blk_drewN ?_ _ | refine blk_drew ?_ | refine blk_alloc ?_ _)); exact BK184.out) NB184_188.out (by simp)); have n1_ := Aside0.mk (hb); have n2_ := Aside0.mk (hi); clear BK184; clear HB; clear HI188; have BK184 := n0_; have HB := n1_; have HI188 := n2_; clear n0_ n1_ n2_; (try clear hb); (try clear hb2); (try clear hk); (try clear hi)) | ((with_reducible refine gate_callee (f := 43) rfl ?_); refine goesL_ (some 50) rfl rfl Try.func43 (by kernel_rfl) rfl #[.pointer (some ⟨g188, 0, none⟩)] rfl (by (try simp only [List.map_toArray, List.map_cons, List.map_nil]); first | done | rfl | (simp only [List.length_drop, List.length_take]; rfl)) ?_; (with_reducible refine (cursor_Cursor_Eight.calls kj9 g188 t210 t211 t212 t213 t214 t215 t216 w _ ?side1 ?side2 A24.out).mono ?_); (case side1 => repeat (first | (with_reducible first | exact HI188.out | apply IsS93.alloc | apply IsS93.drewN | apply IsS93.drew | apply IsS93.set_0 | apply IsS93.set_1 | apply IsS93.set_2 | refine IsS93.far ?_ NB188_184.out _) | exact HI188.out)); (case side2 => repeat (first | (with_reducible first | exact HB.out | apply below_alloc | apply pw_below_drewN | apply below_drew1 | refine below_set ?_ (IsS93.ge HI188.out) | refine below_set ?_ GE184.out) | exact HB.out)); rintro e w101 ⟨rfl, hi, hb, hk⟩; refine ⟨_, rfl, ?_⟩; have n0_ := Aside0.mk (KeepBut.blk hk (g' := gb184) (o := .cells #[.int .u64 0, .int .u64 0, .int .u64 0, .int .u64 0, .int .u64 0, .int .u64 0, .int .u64 0, .string (⟨#[]⟩ : ByteArray)] 47 (0, 0)) (by (with_reducible repeat (first | refine blk_drewN ?_ _ | refine blk_drew ?_ | refine blk_alloc ?_ _)); exact BK184.out) NB184_188.out (by simp)); have n1_ := Aside0.mk (hb); have n2_ := Aside0.mk (hi); clear BK184; clear HB; clear HI188; have BK184 := n0_; have HB := n1_; have HI188 := n2_; clear n0_ n1_ n2_; (try clear hb); (try clear hb2); (try clear hk); (try clear hi)) | ((with_reducible refine gate_callee (f := 43) rfl ?_); refine goesL_ (some 52) rfl rfl Try.func43 (by kernel_rfl) rfl #[.pointer (some ⟨g188, 0, none⟩)] rfl (by (try simp only [List.map_toArray, List.map_cons, List.map_nil]); first | done | rfl | (simp only [List.length_drop, List.length_take]; rfl)) ?_; (with_reducible refine (cursor_Cursor_Eight.calls kj9 g188 t214 t215 t216 t217 t218 t219 t220 w _ ?side1 ?side2 A25.out).mono ?_); (case side1 => repeat (first | (with_reducible first | exact HI188.out | apply IsS93.alloc | apply IsS93.drewN | apply IsS93.drew | apply IsS93.set_0 | apply IsS93.set_1 | apply IsS93.set_2 | refine IsS93.far ?_ NB188_184.out _) | exact HI188.out)); (case side2 => repeat (first | (with_reducible first | exact HB.out | apply below_alloc | apply pw_below_drewN | apply below_drew1 | refine below_set ?_ (IsS93.ge HI188.out) | refine below_set ?_ GE184.out) | exact HB.out)); rintro e w102 ⟨rfl, hi, hb, hk⟩; refine ⟨_, rfl, ?_⟩; have n0_ := Aside0.mk (KeepBut.blk hk (g' := gb184) (o := .cells #[.int .u64 0, .int .u64 0, .int .u64 0, .int .u64 0, .int .u64 0, .int .u64 0, .int .u64 0, .string (⟨#[]⟩ : ByteArray)] 47 (0, 0)) (by (with_reducible repeat (first | refine blk_drewN ?_ _ | refine blk_drew ?_ | refine blk_alloc ?_ _)); exact BK184.out) NB184_188.out (by simp)); have n1_ := Aside0.mk (hb); have n2_ := Aside0.mk (hi); clear BK184; clear HB; clear HI188; have BK184 := n0_; have HB := n1_; have HI188 := n2_; clear n0_ n1_ n2_; (try clear hb); (try clear hb2); (try clear hk); (try clear hi)) | ((with_reducible refine gate_callee (f := 43) rfl ?_); refine goesL_ (some 54) rfl rfl Try.func43 (by kernel_rfl) rfl #[.pointer (some ⟨g188, 0, none⟩)] rfl (by (try simp only [List.map_toArray, List.map_cons, List.map_nil]); first | done | rfl | (simp only [List.length_drop, List.length_take]; rfl)) ?_; (with_reducible refine (cursor_Cursor_Eight.calls kj9 g188 t218 t219 t220 t221 t222 t223 t224 w _ ?side1 ?side2 A26.out).mono ?_); (case side1 => repeat (first | (with_reducible first | exact HI188.out | apply IsS93.alloc | apply IsS93.drewN | apply IsS93.drew | apply IsS93.set_0 | apply IsS93.set_1 | apply IsS93.set_2 | refine IsS93.far ?_ NB188_184.out _) | exact HI188.out)); (case side2 => repeat (first | (with_reducible first | exact HB.out | apply below_alloc | apply pw_below_drewN | apply below_drew1 | refine below_set ?_ (IsS93.ge HI188.out) | refine below_set ?_ GE184.out) | exact HB.out)); rintro e w103 ⟨rfl, hi, hb, hk⟩; refine ⟨_, rfl, ?_⟩; have n0_ := Aside0.mk (KeepBut.blk hk (g' := gb184) (o := .cells #[.int .u64 0, .int .u64 0, .int .u64 0, .int .u64 0, .int .u64 0, .int .u64 0, .int .u64 0, .string (⟨#[]⟩ : ByteArray)] 47 (0, 0)) (by (with_reducible repeat (first | refine blk_drewN ?_ _ | refine blk_drew ?_ | refine blk_alloc ?_ _)); exact BK184.out) NB184_188.out (by simp)); have n1_ := Aside0.mk (hb); have n2_ := Aside0.mk (hi); clear BK184; clear HB; clear HI188; have BK184 := n0_; have HB := n1_; have HI188 := n2_; clear n0_ n1_ n2_; (try clear hb); (try clear hb2); (try clear hk); (try clear hi)) | ((with_reducible refine gate_dst (N := 11) rfl ?_); refine box_event ?hg (N := 11) ?hd (cs := #[.int .u64 0, .int .u64 0, .int .u64 0, .int .u64 0, .int .u64 0, .int .u64 0, .int .u64 0, .string (⟨#[]⟩ : ByteArray)]) (t := 47) ?hr ?_; (case hd => rfl); (case hg => rfl); (case hr => first | (go_simp; done) | (go_simp; rfl)); intro gb225 hg w104 hbox hb; have n0_ := Aside0.mk (blk_below (g := gb184) (o := .cells #[.int .u64 0, .int .u64 0, .int .u64 0, .int .u64 0, .int .u64 0, .int .u64 0, .int .u64 0, .string (⟨#[]⟩ : ByteArray)] 47 (0, 0)) (by (with_reducible repeat (first | refine blk_drewN ?_ _ | refine blk_drew ?_ | refine blk_alloc ?_ _)); exact BK184.out) hb); have n1_ := Aside0.mk (IsS93.below (by repeat (first | (with_reducible first | exact HI188.out | apply IsS93.alloc | apply IsS93.drewN | apply IsS93.drew | apply IsS93.set_0 | apply IsS93.set_1 | apply IsS93.set_2 | refine IsS93.far ?_ NB188_184.out _) | exact HI188.out)) hb); have n2_ := Aside0.mk (below_step (by repeat (first | (with_reducible first | exact HB.out | apply below_alloc | apply pw_below_drewN | apply below_drew1 | refine below_set ?_ (IsS93.ge HI188.out) | refine below_set ?_ GE184.out) | exact HB.out)) hb); have n3_ := Aside0.mk (hbox); have n4_ := Aside0.mk ((by rw [hg]; exact (below_size (by repeat (first | (with_reducible first | exact HB.out | apply below_alloc | apply pw_below_drewN | apply below_drew1 | refine below_set ?_ (IsS93.ge HI188.out) | refine below_set ?_ GE184.out) | exact HB.out))) : w.heap.size ≤ gb225)); have n5_ := Aside0.mk ((by rw [hg]; exact (below_size (by repeat (first | (with_reducible first | exact HB.out | apply below_alloc | apply pw_below_drewN | apply below_drew1 | refine below_set ?_ (IsS93.ge HI188.out) | refine below_set ?_ GE184.out) | exact HB.out))) : w.heap.size ≤ gb225)); have n6_ := Aside0.mk ((by rw [hg]; exact Nat.ne_of_lt (blk_lt (g := gb184) (o := .cells #[.int .u64 0, .int .u64 0, .int .u64 0, .int .u64 0, .int .u64 0, .int .u64 0, .int .u64 0, .string (⟨#[]⟩ : ByteArray)] 47 (0, 0)) (by (with_reducible repeat (first | refine blk_drewN ?_ _ | refine blk_drew ?_ | refine blk_alloc ?_ _)); exact BK184.out)) : gb184 ≠ gb225)); have n7_ := Aside0.mk ((by rw [hg]; exact Nat.ne_of_gt (blk_lt (g := gb184) (o := .cells #[.int .u64 0, .int .u64 0, .int .u64 0, .int .u64 0, .int .u64 0, .int .u64 0, .int .u64 0, .string (⟨#[]⟩ : ByteArray)] 47 (0, 0)) (by (with_reducible repeat (first | refine blk_drewN ?_ _ | refine blk_drew ?_ | refine blk_alloc ?_ _)); exact BK184.out)) : gb225 ≠ gb184)); have n8_ := Aside0.mk ((by rw [hg]; exact Nat.ne_of_lt (IsS93.lt (show IsS93 w _ g188 t222 t223 t224 from by repeat (first | (with_reducible first | exact HI188.out | apply IsS93.alloc | apply IsS93.drewN | apply IsS93.drew | apply IsS93.set_0 | apply IsS93.set_1 | apply IsS93.set_2 | refine IsS93.far ?_ NB188_184.out _) | exact HI188.out))) : g188 ≠ gb225)); have n9_ := Aside0.mk ((by rw [hg]; exact Nat.ne_of_gt (IsS93.lt (show IsS93 w _ g188 t222 t223 t224 from by repeat (first | (with_reducible first | exact HI188.out | apply IsS93.alloc | apply IsS93.drewN | apply IsS93.drew | apply IsS93.set_0 | apply IsS93.set_1 | apply IsS93.set_2 | refine IsS93.far ?_ NB188_184.out _) | exact HI188.out))) : gb225 ≠ g188)); clear BK184; clear HI188; clear HB; have BK184 := n0_; have HI188 := n1_; have HB := n2_; have BK225 := n3_; have GW225 := n4_; have GE225 := n5_; have NB184_225 := n6_; have NB225_184 := n7_; have NB188_225 := n8_; have NB225_188 := n9_; clear n0_ n1_ n2_ n3_ n4_ n5_ n6_ n7_ n8_ n9_; clear hb hbox hg; have hnb105 := NB225_184.out; have hnc105 := NB184_225.out; have hnb106 := NB225_188.out; have hnc106 := NB188_225.out; have hcz107_0 : w104.cell? ⟨gb225, 0, none⟩ = some (.int .u64 0) := (blk_cell BK225.out 0).trans rfl; have hcz107_1 : w104.cell? ⟨gb225, 1, none⟩ = some (.int .u64 0) := (blk_cell BK225.out 1).trans rfl; have hcz107_2 : w104.cell? ⟨gb225, 2, none⟩ = some (.int .u64 0) := (blk_cell BK225.out 2).trans rfl; have hcz107_3 : w104.cell? ⟨gb225, 3, none⟩ = some (.int .u64 0) := (blk_cell BK225.out 3).trans rfl; have hcz107_4 : w104.cell? ⟨gb225, 4, none⟩ = some (.int .u64 0) := (blk_cell BK225.out 4).trans rfl; have hcz107_5 : w104.cell? ⟨gb225, 5, none⟩ = some (.int .u64 0) := (blk_cell BK225.out 5).trans rfl; have hcz107_6 : w104.cell? ⟨gb225, 6, none⟩ = some (.int .u64 0) := (blk_cell BK225.out 6).trans rfl; have hcz107_7 : w104.cell? ⟨gb225, 7, none⟩ = some (.string (⟨#[]⟩ : ByteArray)) := (blk_cell BK225.out 7).trans rfl; have hfz107_0 := blk_frozen BK225.out 0; have hfz107_1 := blk_frozen BK225.out 1; have hfz107_2 := blk_frozen BK225.out 2; have hfz107_3 := blk_frozen BK225.out 3; have hfz107_4 := blk_frozen BK225.out 4; have hfz107_5 := blk_frozen BK225.out 5; have hfz107_6 := blk_frozen BK225.out 6; have hfz107_7 := blk_frozen BK225.out 7))
                have n0_ : Aside0 (((((((((w104.setCell ⟨gb225, 0, none⟩ (.int .u64 (IntKind.u64.wrap (a1)))).setCell ⟨gb225, 1, none⟩ (.int .u64 (IntKind.u64.wrap (t201)))).setCell ⟨gb225, 2, none⟩ (.int .u64 (IntKind.u64.wrap (t205)))).setCell ⟨gb225, 3, none⟩ (.int .u64 t209)).setCell ⟨gb225, 4, none⟩ (.int .u64 t213)).setCell ⟨gb225, 5, none⟩ (.int .u64 t217)).setCell ⟨gb225, 6, none⟩ (.int .u64 t221)).setCell ⟨gb225, 7, none⟩ (.string (⟨#[]⟩ : ByteArray))).heap[gb184]? = some (.cells #[.int .u64 0, .int .u64 0, .int .u64 0, .int .u64 0, .int .u64 0, .int .u64 0, .int .u64 0, .string (⟨#[]⟩ : ByteArray)] 47 (0, 0))) := ⟨by (with_reducible repeat (first | refine blk_drewN ?_ _ | refine blk_drew ?_ | refine blk_alloc ?_ _)); refine blk_far ?_ NB184_225.out _; (with_reducible repeat (first | refine blk_drewN ?_ _ | refine blk_drew ?_ | refine blk_alloc ?_ _)); refine blk_far ?_ NB184_225.out _; (with_reducible repeat (first | refine blk_drewN ?_ _ | refine blk_drew ?_ | refine blk_alloc ?_ _)); refine blk_far ?_ NB184_225.out _; (with_reducible repeat (first | refine blk_drewN ?_ _ | refine blk_drew ?_ | refine blk_alloc ?_ _)); refine blk_far ?_ NB184_225.out _; (with_reducible repeat (first | refine blk_drewN ?_ _ | refine blk_drew ?_ | refine blk_alloc ?_ _)); refine blk_far ?_ NB184_225.out _; (with_reducible repeat (first | refine blk_drewN ?_ _ | refine blk_drew ?_ | refine blk_alloc ?_ _)); refine blk_far ?_ NB184_225.out _; (with_reducible repeat (first | refine blk_drewN ?_ _ | refine blk_drew ?_ | refine blk_alloc ?_ _)); refine blk_far ?_ NB184_225.out _; (with_reducible repeat (first | refine blk_drewN ?_ _ | refine blk_drew ?_ | refine blk_alloc ?_ _)); refine blk_far ?_ NB184_225.out _; (with_reducible repeat (first | refine blk_drewN ?_ _ | refine blk_drew ?_ | refine blk_alloc ?_ _)); exact BK184.out⟩
                have n1_ : Aside0 (((((((((w104.setCell ⟨gb225, 0, none⟩ (.int .u64 (IntKind.u64.wrap (a1)))).setCell ⟨gb225, 1, none⟩ (.int .u64 (IntKind.u64.wrap (t201)))).setCell ⟨gb225, 2, none⟩ (.int .u64 (IntKind.u64.wrap (t205)))).setCell ⟨gb225, 3, none⟩ (.int .u64 t209)).setCell ⟨gb225, 4, none⟩ (.int .u64 t213)).setCell ⟨gb225, 5, none⟩ (.int .u64 t217)).setCell ⟨gb225, 6, none⟩ (.int .u64 t221)).setCell ⟨gb225, 7, none⟩ (.string (⟨#[]⟩ : ByteArray))).heap[gb225]? = some (.cells #[.int .u64 (IntKind.u64.wrap (a1)), .int .u64 (IntKind.u64.wrap (t201)), .int .u64 (IntKind.u64.wrap (t205)), .int .u64 t209, .int .u64 t213, .int .u64 t217, .int .u64 t221, .string (⟨#[]⟩ : ByteArray)] 47 (0, 0))) := ⟨by (with_reducible repeat (first | refine blk_drewN ?_ _ | refine blk_drew ?_ | refine blk_alloc ?_ _)); refine blk_put (cs := #[.int .u64 (IntKind.u64.wrap (a1)), .int .u64 (IntKind.u64.wrap (t201)), .int .u64 (IntKind.u64.wrap (t205)), .int .u64 t209, .int .u64 t213, .int .u64 t217, .int .u64 t221, .string (⟨#[]⟩ : ByteArray)]) ?_ 7 _ rfl; (with_reducible repeat (first | refine blk_drewN ?_ _ | refine blk_drew ?_ | refine blk_alloc ?_ _)); refine blk_put (cs := #[.int .u64 (IntKind.u64.wrap (a1)), .int .u64 (IntKind.u64.wrap (t201)), .int .u64 (IntKind.u64.wrap (t205)), .int .u64 t209, .int .u64 t213, .int .u64 t217, .int .u64 0, .string (⟨#[]⟩ : ByteArray)]) ?_ 6 _ rfl; (with_reducible repeat (first | refine blk_drewN ?_ _ | refine blk_drew ?_ | refine blk_alloc ?_ _)); refine blk_put (cs := #[.int .u64 (IntKind.u64.wrap (a1)), .int .u64 (IntKind.u64.wrap (t201)), .int .u64 (IntKind.u64.wrap (t205)), .int .u64 t209, .int .u64 t213, .int .u64 0, .int .u64 0, .string (⟨#[]⟩ : ByteArray)]) ?_ 5 _ rfl; (with_reducible repeat (first | refine blk_drewN ?_ _ | refine blk_drew ?_ | refine blk_alloc ?_ _)); refine blk_put (cs := #[.int .u64 (IntKind.u64.wrap (a1)), .int .u64 (IntKind.u64.wrap (t201)), .int .u64 (IntKind.u64.wrap (t205)), .int .u64 t209, .int .u64 0, .int .u64 0, .int .u64 0, .string (⟨#[]⟩ : ByteArray)]) ?_ 4 _ rfl; (with_reducible repeat (first | refine blk_drewN ?_ _ | refine blk_drew ?_ | refine blk_alloc ?_ _)); refine blk_put (cs := #[.int .u64 (IntKind.u64.wrap (a1)), .int .u64 (IntKind.u64.wrap (t201)), .int .u64 (IntKind.u64.wrap (t205)), .int .u64 0, .int .u64 0, .int .u64 0, .int .u64 0, .string (⟨#[]⟩ : ByteArray)]) ?_ 3 _ rfl; (with_reducible repeat (first | refine blk_drewN ?_ _ | refine blk_drew ?_ | refine blk_alloc ?_ _)); refine blk_put (cs := #[.int .u64 (IntKind.u64.wrap (a1)), .int .u64 (IntKind.u64.wrap (t201)), .int .u64 0, .int .u64 0, .int .u64 0, .int .u64 0, .int .u64 0, .string (⟨#[]⟩ : ByteArray)]) ?_ 2 _ rfl; (with_reducible repeat (first | refine blk_drewN ?_ _ | refine blk_drew ?_ | refine blk_alloc ?_ _)); refine blk_put (cs := #[.int .u64 (IntKind.u64.wrap (a1)), .int .u64 0, .int .u64 0, .int .u64 0, .int .u64 0, .int .u64 0, .int .u64 0, .string (⟨#[]⟩ : ByteArray)]) ?_ 1 _ rfl; (with_reducible repeat (first | refine blk_drewN ?_ _ | refine blk_drew ?_ | refine blk_alloc ?_ _)); refine blk_put (cs := #[.int .u64 0, .int .u64 0, .int .u64 0, .int .u64 0, .int .u64 0, .int .u64 0, .int .u64 0, .string (⟨#[]⟩ : ByteArray)]) ?_ 0 _ rfl; (with_reducible repeat (first | refine blk_drewN ?_ _ | refine blk_drew ?_ | refine blk_alloc ?_ _)); exact BK225.out⟩
                have n2_ : Aside0 (IsS93 w ((((((((w104.setCell ⟨gb225, 0, none⟩ (.int .u64 (IntKind.u64.wrap (a1)))).setCell ⟨gb225, 1, none⟩ (.int .u64 (IntKind.u64.wrap (t201)))).setCell ⟨gb225, 2, none⟩ (.int .u64 (IntKind.u64.wrap (t205)))).setCell ⟨gb225, 3, none⟩ (.int .u64 t209)).setCell ⟨gb225, 4, none⟩ (.int .u64 t213)).setCell ⟨gb225, 5, none⟩ (.int .u64 t217)).setCell ⟨gb225, 6, none⟩ (.int .u64 t221)).setCell ⟨gb225, 7, none⟩ (.string (⟨#[]⟩ : ByteArray))) g188 t222 t223 t224) := ⟨by repeat (first | (with_reducible first | exact HI188.out | apply IsS93.alloc | apply IsS93.drewN | apply IsS93.drew | apply IsS93.set_0 | apply IsS93.set_1 | apply IsS93.set_2 | refine IsS93.far ?_ NB188_184.out _ | refine IsS93.far ?_ NB188_225.out _) | exact HI188.out)⟩
                have n3_ : Aside0 (Below w.heap.size w ((((((((w104.setCell ⟨gb225, 0, none⟩ (.int .u64 (IntKind.u64.wrap (a1)))).setCell ⟨gb225, 1, none⟩ (.int .u64 (IntKind.u64.wrap (t201)))).setCell ⟨gb225, 2, none⟩ (.int .u64 (IntKind.u64.wrap (t205)))).setCell ⟨gb225, 3, none⟩ (.int .u64 t209)).setCell ⟨gb225, 4, none⟩ (.int .u64 t213)).setCell ⟨gb225, 5, none⟩ (.int .u64 t217)).setCell ⟨gb225, 6, none⟩ (.int .u64 t221)).setCell ⟨gb225, 7, none⟩ (.string (⟨#[]⟩ : ByteArray)))) := ⟨by repeat (first | (with_reducible first | exact HB.out | apply below_alloc | apply pw_below_drewN | apply below_drew1 | refine below_set ?_ (IsS93.ge HI188.out) | refine below_set ?_ GE184.out | refine below_set ?_ GE225.out) | exact HB.out)⟩
                (try clear BK184)
                (try clear BK225)
                (try clear HI188)
                (try clear HB)
                generalize ((((((((w104.setCell ⟨gb225, 0, none⟩ (.int .u64 (IntKind.u64.wrap (a1)))).setCell ⟨gb225, 1, none⟩ (.int .u64 (IntKind.u64.wrap (t201)))).setCell ⟨gb225, 2, none⟩ (.int .u64 (IntKind.u64.wrap (t205)))).setCell ⟨gb225, 3, none⟩ (.int .u64 t209)).setCell ⟨gb225, 4, none⟩ (.int .u64 t213)).setCell ⟨gb225, 5, none⟩ (.int .u64 t217)).setCell ⟨gb225, 6, none⟩ (.int .u64 t221)).setCell ⟨gb225, 7, none⟩ (.string (⟨#[]⟩ : ByteArray))) = w108 at n0_ n1_ n2_ n3_ ⊢
                have BK184 := n0_
                have BK225 := n1_
                have HI188 := n2_
                have HB := n3_
                clear n0_ n1_ n2_ n3_
                have n0_ := Aside0.mk (blk_drew BK184.out)
                have n1_ := Aside0.mk (blk_drew BK225.out)
                have n2_ := Aside0.mk (IsS93.drew HI188.out)
                have n3_ := Aside0.mk (below_drew1 HB.out)
                clear BK184
                clear BK225
                clear HI188
                clear HB
                have BK184 := n0_
                have BK225 := n1_
                have HI188 := n2_
                have HB := n3_
                clear n0_ n1_ n2_ n3_
                refine start_ (n := 23) (S := fun w' => w'.cell? ⟨gb225, 0, none⟩ = some (.int .u64 (IntKind.u64.wrap (a1))) ∧ w'.cell? ⟨gb225, 1, none⟩ = some (.int .u64 (IntKind.u64.wrap (t201))) ∧ w'.cell? ⟨gb225, 2, none⟩ = some (.int .u64 (IntKind.u64.wrap (t205))) ∧ w'.cell? ⟨gb225, 3, none⟩ = some (.int .u64 t209) ∧ w'.cell? ⟨gb225, 4, none⟩ = some (.int .u64 t213) ∧ w'.cell? ⟨gb225, 5, none⟩ = some (.int .u64 t217) ∧ w'.cell? ⟨gb225, 6, none⟩ = some (.int .u64 t221) ∧ w'.cell? ⟨gb225, 7, none⟩ = some (.string (⟨#[]⟩ : ByteArray))) (ds := []) #[false, false, false, false, false, false, false, false, false, false, false, false, false, false, false, false, false, false, false, false, false, false, false] (by kernel_rfl) rfl rfl ⟨(blk_cell BK225.out 0).trans rfl, (blk_cell BK225.out 1).trans rfl, (blk_cell BK225.out 2).trans rfl, (blk_cell BK225.out 3).trans rfl, (blk_cell BK225.out 4).trans rfl, (blk_cell BK225.out 5).trans rfl, (blk_cell BK225.out 6).trans rfl, (blk_cell BK225.out 7).trans rfl⟩ (fun hHeld => ?_); refine with_tabW tail_wide.tab7 tail_wide.bits7 (fun HT_ HW_ => ?_)
                generalize w108.drew = w109 at BK184 BK225 HI188 HB hHeld ⊢
                refine pure_ (i := 1) (N := some 57) (v := ?_) (a' := ?_) #[false, true, false, false, false, false, false, false, false, false, false, false, false, false, false, false, false, false, false, false, false, false, false] rfl rfl (any_of HT_.out (by kernel_rfl)) (fun _ _ _ h => h) (Or.inl ⟨by rfl, ?_⟩) ?_ ?_
                rotate_left
                · intro w'
                  go_simp
                  with_reducible rfl
                rotate_left
                · simp only [Act.put, List.setIfInBounds_toArray, List.set_cons_zero, List.set_cons_succ, i64_w, i32_w]
                  rfl
                refine take_ (i := 0) (N := some 56) (v := ?_) (a' := ?_) #[true, true, false, false, false, false, false, false, false, false, false, false, false, false, false, false, false, false, false, false, false, false, false] rfl rfl (take_ofW HT_.out HW_.out (by kernel_rfl)) (fun _ _ _ h => h) (Or.inl ⟨by rfl, ?_⟩) hHeld ?_ ?_
                rotate_left
                · rintro w' ⟨s0, s1, s2, s3, s4, s5, s6, s7⟩
                  go_simp
                  with_reducible rfl
                rotate_left
                · simp only [Act.put, List.setIfInBounds_toArray, List.set_cons_zero, List.set_cons_succ, i64_w, i32_w]
                  rfl
                refine one_ (i := 2) (N := some 58) #[true, true, true, false, false, false, false, false, false, false, false, false, false, false, false, false, false, false, false, false, false, false, false] rfl rfl (one_of HT_.out (by kernel_rfl)) (by decide) (fun K hK => ?_)
                refine goes_ Try.func44 (by kernel_rfl) rfl #[.pointer (some ⟨g188, 0, none⟩)] (by rfl) rfl rfl (by (try simp only [List.map_toArray, List.map_cons, List.map_nil]); first | done | rfl | (simp only [List.length_drop, List.length_take]; rfl)) ?_
                with_reducible refine (cursor_Cursor_Err.calls g188 t222 t223 t224 t226 t227 t228 t229 w _ ?side1 ?side2 A27.out).mono ?_
                (case side1 => repeat (first | (with_reducible first | exact HI188.out | apply IsS93.alloc | apply IsS93.drewN | apply IsS93.drew | apply IsS93.set_0 | apply IsS93.set_1 | apply IsS93.set_2 | refine IsS93.far ?_ NB188_184.out _ | refine IsS93.far ?_ NB188_225.out _) | exact HI188.out))
                (case side2 => repeat (first | (with_reducible first | exact HB.out | apply below_alloc | apply pw_below_drewN | apply below_drew1 | refine below_set ?_ (IsS93.ge HI188.out) | refine below_set ?_ GE184.out | refine below_set ?_ GE225.out) | exact HB.out))
                rintro e w110 ⟨rfl, hi, hb, hk⟩
                refine ⟨_, rfl, ?_⟩
                have n0_ := Aside0.mk (KeepBut.blk hk (g' := gb184) (o := .cells #[.int .u64 0, .int .u64 0, .int .u64 0, .int .u64 0, .int .u64 0, .int .u64 0, .int .u64 0, .string (⟨#[]⟩ : ByteArray)] 47 (0, 0)) (by (with_reducible repeat (first | refine blk_drewN ?_ _ | refine blk_drew ?_ | refine blk_alloc ?_ _)); exact BK184.out) NB184_188.out (by simp))
                have n1_ := Aside0.mk (KeepBut.blk hk (g' := gb225) (o := .cells #[.int .u64 (IntKind.u64.wrap (a1)), .int .u64 (IntKind.u64.wrap (t201)), .int .u64 (IntKind.u64.wrap (t205)), .int .u64 t209, .int .u64 t213, .int .u64 t217, .int .u64 t221, .string (⟨#[]⟩ : ByteArray)] 47 (0, 0)) (by (with_reducible repeat (first | refine blk_drewN ?_ _ | refine blk_drew ?_ | refine blk_alloc ?_ _)); exact BK225.out) NB225_188.out (by simp))
                have n2_ := Aside0.mk (hb)
                have n3_ := Aside0.mk (hi)
                clear BK184
                clear BK225
                clear HB
                clear HI188
                have BK184 := n0_
                have BK225 := n1_
                have HB := n2_
                have HI188 := n3_
                clear n0_ n1_ n2_ n3_
                (try clear hb)
                (try clear hb2)
                (try clear hk)
                (try clear hi)
                refine hK.out _ _ ⟨(blk_cell BK225.out 0).trans rfl, (blk_cell BK225.out 1).trans rfl, (blk_cell BK225.out 2).trans rfl, (blk_cell BK225.out 3).trans rfl, (blk_cell BK225.out 4).trans rfl, (blk_cell BK225.out 5).trans rfl, (blk_cell BK225.out 6).trans rfl, (blk_cell BK225.out 7).trans rfl⟩ (fun hHeld => ?_)
                clear hK K
                refine norm_ (a' := ?_) ?_ ?_
                rotate_left
                · show Act.put _ (some 58) _ = _
                  simp only [Act.put, List.setIfInBounds_toArray, List.set_cons_zero, List.set_cons_succ, i64_w, i32_w]
                  rfl
                refine pure_ (i := 3) (N := some 59) (v := ?_) (a' := ?_) #[true, true, true, true, false, false, false, false, false, false, false, false, false, false, false, false, false, false, false, false, false, false, false] rfl rfl (any_of HT_.out (by kernel_rfl)) (fun _ _ _ h => h) (Or.inl ⟨by rfl, ?_⟩) ?_ ?_
                rotate_left
                · intro w'
                  go_simp
                  with_reducible rfl
                rotate_left
                · simp only [Act.put, List.setIfInBounds_toArray, List.set_cons_zero, List.set_cons_succ, i64_w, i32_w]
                  rfl
                refine pure_ (i := 4) (N := some 60) (v := ?_) (a' := ?_) #[true, true, true, true, true, false, false, false, false, false, false, false, false, false, false, false, false, false, false, false, false, false, false] rfl rfl (any_of HT_.out (by kernel_rfl)) (fun _ _ _ h => h) (Or.inl ⟨by rfl, ?_⟩) ?_ ?_
                rotate_left
                · intro w'
                  go_simp
                  with_reducible rfl
                rotate_left
                · simp only [Act.put, List.setIfInBounds_toArray, List.set_cons_zero, List.set_cons_succ, i64_w, i32_w]
                  rfl
                refine pure_ (i := 5) (N := some 61) (v := undef) (a' := ?_) #[true, true, true, true, true, true, false, false, false, false, false, false, false, false, false, false, false, false, false, false, false, false, false] rfl rfl (any_of HT_.out (by kernel_rfl)) (fun _ _ _ h => h) (Or.inr ⟨by rfl, rfl⟩) ?_ ?_
                rotate_left
                · simp only [Act.put, List.setIfInBounds_toArray, List.set_cons_zero, List.set_cons_succ, i64_w, i32_w]
                  rfl
                refine pure_ (i := 6) (N := some 62) (v := undef) (a' := ?_) #[true, true, true, true, true, true, true, false, false, false, false, false, false, false, false, false, false, false, false, false, false, false, false] rfl rfl (any_of HT_.out (by kernel_rfl)) (fun _ _ _ h => h) (Or.inr ⟨by rfl, rfl⟩) ?_ ?_
                rotate_left
                · simp only [Act.put, List.setIfInBounds_toArray, List.set_cons_zero, List.set_cons_succ, i64_w, i32_w]
                  rfl
                refine pure_ (i := 7) (N := some 63) (v := undef) (a' := ?_) #[true, true, true, true, true, true, true, true, false, false, false, false, false, false, false, false, false, false, false, false, false, false, false] rfl rfl (any_of HT_.out (by kernel_rfl)) (fun _ _ _ h => h) (Or.inr ⟨by rfl, rfl⟩) ?_ ?_
                rotate_left
                · simp only [Act.put, List.setIfInBounds_toArray, List.set_cons_zero, List.set_cons_succ, i64_w, i32_w]
                  rfl
                refine pure_ (i := 8) (N := some 64) (v := ?_) (a' := ?_) #[true, true, true, true, true, true, true, true, true, false, false, false, false, false, false, false, false, false, false, false, false, false, false] rfl rfl (any_of HT_.out (by kernel_rfl)) (fun _ _ _ h => h) (Or.inl ⟨by rfl, ?_⟩) ?_ ?_
                rotate_left
                · intro w'
                  go_simp
                  with_reducible rfl
                rotate_left
                · simp only [Act.put, List.setIfInBounds_toArray, List.set_cons_zero, List.set_cons_succ, i64_w, i32_w]
                  rfl
                refine pure_ (i := 9) (N := some 65) (v := ?_) (a' := ?_) #[true, true, true, true, true, true, true, true, true, true, false, false, false, false, false, false, false, false, false, false, false, false, false] rfl rfl (any_of HT_.out (by kernel_rfl)) (fun _ _ _ h => h) (Or.inl ⟨by rfl, ?_⟩) ?_ ?_
                rotate_left
                · intro w'
                  go_simp
                  with_reducible rfl
                rotate_left
                · simp only [Act.put, List.setIfInBounds_toArray, List.set_cons_zero, List.set_cons_succ, i64_w, i32_w]
                  rfl
                refine pure_ (i := 10) (N := some 66) (v := undef) (a' := ?_) #[true, true, true, true, true, true, true, true, true, true, true, false, false, false, false, false, false, false, false, false, false, false, false] rfl rfl (any_of HT_.out (by kernel_rfl)) (fun _ _ _ h => h) (Or.inr ⟨by rfl, rfl⟩) ?_ ?_
                rotate_left
                · simp only [Act.put, List.setIfInBounds_toArray, List.set_cons_zero, List.set_cons_succ, i64_w, i32_w]
                  rfl
                refine pure_ (i := 11) (N := some 67) (v := undef) (a' := ?_) #[true, true, true, true, true, true, true, true, true, true, true, true, false, false, false, false, false, false, false, false, false, false, false] rfl rfl (any_of HT_.out (by kernel_rfl)) (fun _ _ _ h => h) (Or.inr ⟨by rfl, rfl⟩) ?_ ?_
                rotate_left
                · simp only [Act.put, List.setIfInBounds_toArray, List.set_cons_zero, List.set_cons_succ, i64_w, i32_w]
                  rfl
                refine pure_ (i := 12) (N := some 68) (v := undef) (a' := ?_) #[true, true, true, true, true, true, true, true, true, true, true, true, true, false, false, false, false, false, false, false, false, false, false] rfl rfl (any_of HT_.out (by kernel_rfl)) (fun _ _ _ h => h) (Or.inr ⟨by rfl, rfl⟩) ?_ ?_
                rotate_left
                · simp only [Act.put, List.setIfInBounds_toArray, List.set_cons_zero, List.set_cons_succ, i64_w, i32_w]
                  rfl
                refine pure_ (i := 13) (N := some 69) (v := ?_) (a' := ?_) #[true, true, true, true, true, true, true, true, true, true, true, true, true, true, false, false, false, false, false, false, false, false, false] rfl rfl (any_of HT_.out (by kernel_rfl)) (fun _ _ _ h => h) (Or.inl ⟨by rfl, ?_⟩) ?_ ?_
                rotate_left
                · intro w'
                  go_simp
                  with_reducible rfl
                rotate_left
                · simp only [Act.put, List.setIfInBounds_toArray, List.set_cons_zero, List.set_cons_succ, i64_w, i32_w]
                  rfl
                refine pure_ (i := 14) (N := some 70) (v := ?_) (a' := ?_) #[true, true, true, true, true, true, true, true, true, true, true, true, true, true, true, false, false, false, false, false, false, false, false] rfl rfl (any_of HT_.out (by kernel_rfl)) (fun _ _ _ h => h) (Or.inl ⟨by rfl, ?_⟩) ?_ ?_
                rotate_left
                · intro w'
                  go_simp
                  with_reducible rfl
                rotate_left
                · simp only [Act.put, List.setIfInBounds_toArray, List.set_cons_zero, List.set_cons_succ, i64_w, i32_w]
                  rfl
                refine pure_ (i := 15) (N := some 71) (v := undef) (a' := ?_) #[true, true, true, true, true, true, true, true, true, true, true, true, true, true, true, true, false, false, false, false, false, false, false] rfl rfl (any_of HT_.out (by kernel_rfl)) (fun _ _ _ h => h) (Or.inr ⟨by rfl, rfl⟩) ?_ ?_
                rotate_left
                · simp only [Act.put, List.setIfInBounds_toArray, List.set_cons_zero, List.set_cons_succ, i64_w, i32_w]
                  rfl
                refine pure_ (i := 16) (N := some 72) (v := undef) (a' := ?_) #[true, true, true, true, true, true, true, true, true, true, true, true, true, true, true, true, true, false, false, false, false, false, false] rfl rfl (any_of HT_.out (by kernel_rfl)) (fun _ _ _ h => h) (Or.inr ⟨by rfl, rfl⟩) ?_ ?_
                rotate_left
                · simp only [Act.put, List.setIfInBounds_toArray, List.set_cons_zero, List.set_cons_succ, i64_w, i32_w]
                  rfl
                refine pure_ (i := 17) (N := some 73) (v := undef) (a' := ?_) #[true, true, true, true, true, true, true, true, true, true, true, true, true, true, true, true, true, true, false, false, false, false, false] rfl rfl (any_of HT_.out (by kernel_rfl)) (fun _ _ _ h => h) (Or.inr ⟨by rfl, rfl⟩) ?_ ?_
                rotate_left
                · simp only [Act.put, List.setIfInBounds_toArray, List.set_cons_zero, List.set_cons_succ, i64_w, i32_w]
                  rfl
                refine pure_ (i := 18) (N := some 74) (v := undef) (a' := ?_) #[true, true, true, true, true, true, true, true, true, true, true, true, true, true, true, true, true, true, true, false, false, false, false] rfl rfl (any_of HT_.out (by kernel_rfl)) (fun _ _ _ h => h) (Or.inr ⟨by rfl, rfl⟩) ?_ ?_
                rotate_left
                · simp only [Act.put, List.setIfInBounds_toArray, List.set_cons_zero, List.set_cons_succ, i64_w, i32_w]
                  rfl
                refine pure_ (i := 19) (N := some 75) (v := undef) (a' := ?_) #[true, true, true, true, true, true, true, true, true, true, true, true, true, true, true, true, true, true, true, true, false, false, false] rfl rfl (any_of HT_.out (by kernel_rfl)) (fun _ _ _ h => h) (Or.inr ⟨by rfl, rfl⟩) ?_ ?_
                rotate_left
                · simp only [Act.put, List.setIfInBounds_toArray, List.set_cons_zero, List.set_cons_succ, i64_w, i32_w]
                  rfl
                refine pure_ (i := 20) (N := some 76) (v := ?_) (a' := ?_) #[true, true, true, true, true, true, true, true, true, true, true, true, true, true, true, true, true, true, true, true, true, false, false] rfl rfl (any_of HT_.out (by kernel_rfl)) (fun _ _ _ h => h) (Or.inl ⟨by rfl, ?_⟩) ?_ ?_
                rotate_left
                · intro w'
                  go_simp
                  with_reducible rfl
                rotate_left
                · simp only [Act.put, List.setIfInBounds_toArray, List.set_cons_zero, List.set_cons_succ, i64_w, i32_w]
                  rfl
                refine one_ (i := 21) (N := none) #[true, true, true, true, true, true, true, true, true, true, true, true, true, true, true, true, true, true, true, true, true, true, false] rfl rfl (one_of HT_.out (by kernel_rfl)) (by decide) (fun K hK => ?_)
                have hs111 : w110.cell? ⟨gb184, 0, none⟩ = some (.int .u64 0) := (blk_cell BK184.out 0).trans rfl
                have hfs111 := blk_frozen BK184.out 0
                have hns111_1 := NB225_184.out
                have hms111_1 := NB184_225.out
                have hs112 : w110.cell? ⟨gb184, 1, none⟩ = some (.int .u64 0) := (blk_cell BK184.out 1).trans rfl
                have hfs112 := blk_frozen BK184.out 1
                have hns112_1 := NB225_184.out
                have hms112_1 := NB184_225.out
                have hs113 : w110.cell? ⟨gb184, 2, none⟩ = some (.int .u64 0) := (blk_cell BK184.out 2).trans rfl
                have hfs113 := blk_frozen BK184.out 2
                have hns113_1 := NB225_184.out
                have hms113_1 := NB184_225.out
                have hs114 : w110.cell? ⟨gb184, 3, none⟩ = some (.int .u64 0) := (blk_cell BK184.out 3).trans rfl
                have hfs114 := blk_frozen BK184.out 3
                have hns114_1 := NB225_184.out
                have hms114_1 := NB184_225.out
                have hs115 : w110.cell? ⟨gb184, 4, none⟩ = some (.int .u64 0) := (blk_cell BK184.out 4).trans rfl
                have hfs115 := blk_frozen BK184.out 4
                have hns115_1 := NB225_184.out
                have hms115_1 := NB184_225.out
                have hs116 : w110.cell? ⟨gb184, 5, none⟩ = some (.int .u64 0) := (blk_cell BK184.out 5).trans rfl
                have hfs116 := blk_frozen BK184.out 5
                have hns116_1 := NB225_184.out
                have hms116_1 := NB184_225.out
                have hs117 : w110.cell? ⟨gb184, 6, none⟩ = some (.int .u64 0) := (blk_cell BK184.out 6).trans rfl
                have hfs117 := blk_frozen BK184.out 6
                have hns117_1 := NB225_184.out
                have hms117_1 := NB184_225.out
                have hs118 : w110.cell? ⟨gb184, 7, none⟩ = some (.string (⟨#[]⟩ : ByteArray)) := (blk_cell BK184.out 7).trans rfl
                have hfs118 := blk_frozen BK184.out 7
                have hns118_1 := NB225_184.out
                have hms118_1 := NB184_225.out
                refine skip_ (w1 := ?_) (by rfl) rfl ?_ ?_
                rotate_left
                · go_simp
                  rfl
                refine hK.out _ _ ⟨((cell_far (p := ⟨gb184, _, none⟩) NB225_184.out _).trans (((cell_far (p := ⟨gb184, _, none⟩) NB225_184.out _).trans (((cell_far (p := ⟨gb184, _, none⟩) NB225_184.out _).trans (((cell_far (p := ⟨gb184, _, none⟩) NB225_184.out _).trans (((cell_far (p := ⟨gb184, _, none⟩) NB225_184.out _).trans (((cell_far (p := ⟨gb184, _, none⟩) NB225_184.out _).trans (((cell_far (p := ⟨gb184, _, none⟩) NB225_184.out _).trans (((cell_far (p := ⟨gb184, _, none⟩) NB225_184.out _).trans (hHeld.1)))))))))))))))), ((cell_far (p := ⟨gb184, _, none⟩) NB225_184.out _).trans (((cell_far (p := ⟨gb184, _, none⟩) NB225_184.out _).trans (((cell_far (p := ⟨gb184, _, none⟩) NB225_184.out _).trans (((cell_far (p := ⟨gb184, _, none⟩) NB225_184.out _).trans (((cell_far (p := ⟨gb184, _, none⟩) NB225_184.out _).trans (((cell_far (p := ⟨gb184, _, none⟩) NB225_184.out _).trans (((cell_far (p := ⟨gb184, _, none⟩) NB225_184.out _).trans (((cell_far (p := ⟨gb184, _, none⟩) NB225_184.out _).trans (hHeld.2.1)))))))))))))))), ((cell_far (p := ⟨gb184, _, none⟩) NB225_184.out _).trans (((cell_far (p := ⟨gb184, _, none⟩) NB225_184.out _).trans (((cell_far (p := ⟨gb184, _, none⟩) NB225_184.out _).trans (((cell_far (p := ⟨gb184, _, none⟩) NB225_184.out _).trans (((cell_far (p := ⟨gb184, _, none⟩) NB225_184.out _).trans (((cell_far (p := ⟨gb184, _, none⟩) NB225_184.out _).trans (((cell_far (p := ⟨gb184, _, none⟩) NB225_184.out _).trans (((cell_far (p := ⟨gb184, _, none⟩) NB225_184.out _).trans (hHeld.2.2.1)))))))))))))))), ((cell_far (p := ⟨gb184, _, none⟩) NB225_184.out _).trans (((cell_far (p := ⟨gb184, _, none⟩) NB225_184.out _).trans (((cell_far (p := ⟨gb184, _, none⟩) NB225_184.out _).trans (((cell_far (p := ⟨gb184, _, none⟩) NB225_184.out _).trans (((cell_far (p := ⟨gb184, _, none⟩) NB225_184.out _).trans (((cell_far (p := ⟨gb184, _, none⟩) NB225_184.out _).trans (((cell_far (p := ⟨gb184, _, none⟩) NB225_184.out _).trans (((cell_far (p := ⟨gb184, _, none⟩) NB225_184.out _).trans (hHeld.2.2.2.1)))))))))))))))), ((cell_far (p := ⟨gb184, _, none⟩) NB225_184.out _).trans (((cell_far (p := ⟨gb184, _, none⟩) NB225_184.out _).trans (((cell_far (p := ⟨gb184, _, none⟩) NB225_184.out _).trans (((cell_far (p := ⟨gb184, _, none⟩) NB225_184.out _).trans (((cell_far (p := ⟨gb184, _, none⟩) NB225_184.out _).trans (((cell_far (p := ⟨gb184, _, none⟩) NB225_184.out _).trans (((cell_far (p := ⟨gb184, _, none⟩) NB225_184.out _).trans (((cell_far (p := ⟨gb184, _, none⟩) NB225_184.out _).trans (hHeld.2.2.2.2.1)))))))))))))))), ((cell_far (p := ⟨gb184, _, none⟩) NB225_184.out _).trans (((cell_far (p := ⟨gb184, _, none⟩) NB225_184.out _).trans (((cell_far (p := ⟨gb184, _, none⟩) NB225_184.out _).trans (((cell_far (p := ⟨gb184, _, none⟩) NB225_184.out _).trans (((cell_far (p := ⟨gb184, _, none⟩) NB225_184.out _).trans (((cell_far (p := ⟨gb184, _, none⟩) NB225_184.out _).trans (((cell_far (p := ⟨gb184, _, none⟩) NB225_184.out _).trans (((cell_far (p := ⟨gb184, _, none⟩) NB225_184.out _).trans (hHeld.2.2.2.2.2.1)))))))))))))))), ((cell_far (p := ⟨gb184, _, none⟩) NB225_184.out _).trans (((cell_far (p := ⟨gb184, _, none⟩) NB225_184.out _).trans (((cell_far (p := ⟨gb184, _, none⟩) NB225_184.out _).trans (((cell_far (p := ⟨gb184, _, none⟩) NB225_184.out _).trans (((cell_far (p := ⟨gb184, _, none⟩) NB225_184.out _).trans (((cell_far (p := ⟨gb184, _, none⟩) NB225_184.out _).trans (((cell_far (p := ⟨gb184, _, none⟩) NB225_184.out _).trans (((cell_far (p := ⟨gb184, _, none⟩) NB225_184.out _).trans (hHeld.2.2.2.2.2.2.1)))))))))))))))), ((cell_far (p := ⟨gb184, _, none⟩) NB225_184.out _).trans (((cell_far (p := ⟨gb184, _, none⟩) NB225_184.out _).trans (((cell_far (p := ⟨gb184, _, none⟩) NB225_184.out _).trans (((cell_far (p := ⟨gb184, _, none⟩) NB225_184.out _).trans (((cell_far (p := ⟨gb184, _, none⟩) NB225_184.out _).trans (((cell_far (p := ⟨gb184, _, none⟩) NB225_184.out _).trans (((cell_far (p := ⟨gb184, _, none⟩) NB225_184.out _).trans (((cell_far (p := ⟨gb184, _, none⟩) NB225_184.out _).trans (hHeld.2.2.2.2.2.2.2))))))))))))))))⟩ (fun hHeld => ?_)
                clear hK K
                refine pure_ (i := 22) (N := some 7) (v := ?_) (a' := ?_) #[true, true, true, true, true, true, true, true, true, true, true, true, true, true, true, true, true, true, true, true, true, true, true] rfl rfl (any_of HT_.out (by kernel_rfl)) (fun _ _ _ h => h) (Or.inl ⟨by rfl, ?_⟩) ?_ ?_
                rotate_left
                · intro w'
                  go_simp
                  with_reducible rfl
                rotate_left
                · simp only [Act.put, List.setIfInBounds_toArray, List.set_cons_zero, List.set_cons_succ, i64_w, i32_w]
                  rfl
                refine done_ (done_of HT_.out (by kernel_rfl)) ?_
                try go_wp2
                refine bodyPost_ret (results_ct rfl _ _ gb184 47 #[.int .u64 (IntKind.u64.wrap (a1)), .int .u64 (IntKind.u64.wrap (t201)), .int .u64 (IntKind.u64.wrap (t205)), .int .u64 t209, .int .u64 t213, .int .u64 t217, .int .u64 t221, .string (⟨#[]⟩ : ByteArray)] (0, 0) _ rfl (by (with_reducible repeat (first | refine blk_drewN ?_ _ | refine blk_drew ?_ | refine blk_alloc ?_ _)); refine blk_put (cs := #[.int .u64 (IntKind.u64.wrap (a1)), .int .u64 (IntKind.u64.wrap (t201)), .int .u64 (IntKind.u64.wrap (t205)), .int .u64 t209, .int .u64 t213, .int .u64 t217, .int .u64 t221, .string (⟨#[]⟩ : ByteArray)]) ?_ 7 _ rfl; (with_reducible repeat (first | refine blk_drewN ?_ _ | refine blk_drew ?_ | refine blk_alloc ?_ _)); refine blk_put (cs := #[.int .u64 (IntKind.u64.wrap (a1)), .int .u64 (IntKind.u64.wrap (t201)), .int .u64 (IntKind.u64.wrap (t205)), .int .u64 t209, .int .u64 t213, .int .u64 t217, .int .u64 0, .string (⟨#[]⟩ : ByteArray)]) ?_ 6 _ rfl; (with_reducible repeat (first | refine blk_drewN ?_ _ | refine blk_drew ?_ | refine blk_alloc ?_ _)); refine blk_put (cs := #[.int .u64 (IntKind.u64.wrap (a1)), .int .u64 (IntKind.u64.wrap (t201)), .int .u64 (IntKind.u64.wrap (t205)), .int .u64 t209, .int .u64 t213, .int .u64 0, .int .u64 0, .string (⟨#[]⟩ : ByteArray)]) ?_ 5 _ rfl; (with_reducible repeat (first | refine blk_drewN ?_ _ | refine blk_drew ?_ | refine blk_alloc ?_ _)); refine blk_put (cs := #[.int .u64 (IntKind.u64.wrap (a1)), .int .u64 (IntKind.u64.wrap (t201)), .int .u64 (IntKind.u64.wrap (t205)), .int .u64 t209, .int .u64 0, .int .u64 0, .int .u64 0, .string (⟨#[]⟩ : ByteArray)]) ?_ 4 _ rfl; (with_reducible repeat (first | refine blk_drewN ?_ _ | refine blk_drew ?_ | refine blk_alloc ?_ _)); refine blk_put (cs := #[.int .u64 (IntKind.u64.wrap (a1)), .int .u64 (IntKind.u64.wrap (t201)), .int .u64 (IntKind.u64.wrap (t205)), .int .u64 0, .int .u64 0, .int .u64 0, .int .u64 0, .string (⟨#[]⟩ : ByteArray)]) ?_ 3 _ rfl; (with_reducible repeat (first | refine blk_drewN ?_ _ | refine blk_drew ?_ | refine blk_alloc ?_ _)); refine blk_put (cs := #[.int .u64 (IntKind.u64.wrap (a1)), .int .u64 (IntKind.u64.wrap (t201)), .int .u64 0, .int .u64 0, .int .u64 0, .int .u64 0, .int .u64 0, .string (⟨#[]⟩ : ByteArray)]) ?_ 2 _ rfl; (with_reducible repeat (first | refine blk_drewN ?_ _ | refine blk_drew ?_ | refine blk_alloc ?_ _)); refine blk_put (cs := #[.int .u64 (IntKind.u64.wrap (a1)), .int .u64 0, .int .u64 0, .int .u64 0, .int .u64 0, .int .u64 0, .int .u64 0, .string (⟨#[]⟩ : ByteArray)]) ?_ 1 _ rfl; (with_reducible repeat (first | refine blk_drewN ?_ _ | refine blk_drew ?_ | refine blk_alloc ?_ _)); refine blk_put (cs := #[.int .u64 0, .int .u64 0, .int .u64 0, .int .u64 0, .int .u64 0, .int .u64 0, .int .u64 0, .string (⟨#[]⟩ : ByteArray)]) ?_ 0 _ rfl; (with_reducible repeat (first | refine blk_drewN ?_ _ | refine blk_drew ?_ | refine blk_alloc ?_ _)); exact BK184.out) Try.underlying47 rfl (by kernel_rfl)) rfl ?_
                exact ⟨by first | rfl | (simp [errW_none, errW_some] <;> rfl) | (simp [*, errW_none, errW_some] <;> rfl), by repeat (first | (with_reducible first | exact HB.out | apply below_alloc | apply pw_below_drewN | apply below_drew1 | refine below_set ?_ (IsS93.ge HI188.out) | refine below_set ?_ GE184.out | refine below_set ?_ GE225.out) | exact HB.out)⟩
      · rw [if_neg c6] at H
        exact absurd H (by simp)
    · rw [if_neg c5] at H
      exact absurd H (by simp)
  · rw [if_neg c4] at H
    exact absurd H (by simp)
end Go.Proofs.Ytdooampgkiodjaa.P
