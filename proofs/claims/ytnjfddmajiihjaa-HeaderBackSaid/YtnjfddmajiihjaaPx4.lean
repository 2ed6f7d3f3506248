import Derived.Test.YtnjfddmajiihjaaPx0
import Derived.Test.YtnjfddmajiihjaaPx1
import Derived.Test.YtnjfddmajiihjaaMg2
import Derived.Test.YtnjfddmajiihjaaMg3
namespace Go.Proofs.Ytnjfddmajiihjaa.P
open Go.RowKit Go.Proofs.YtnjfddmajiihjaaW.PrintWords Go.Proofs.YtnjfddmajiihjaaW.PrintLast Go.Proofs.YtnjfddmajiihjaaW.PrintMore
attribute [local go_sem] max2_int min2_int max_two min_two max_three min_three max_four min_four
attribute [local go_sem] Go.Proofs.Ytnjfddmajiihjaa.Mx.max_five Go.Proofs.Ytnjfddmajiihjaa.Mx.max_six Go.Proofs.Ytnjfddmajiihjaa.Mx.max_seven
set_option linter.unusedVariables false
set_option linter.unusedSimpArgs false
def header_PrintLocal.f (k : Nat) (a0_0 : Int) (a0_1 : Int) (a0_2 : Int) (a0_3 : Int) (a0_4 : Int) (a0_5 : Int) (a0_6 : Int) (a0_7 : ByteArray) (a0_8 : ByteArray) : Option (ByteArray × Int) := (header_long.f k (([a0_7, a0_8] : List ByteArray))).bind fun t112 => (if t112 = true then (some ((⟨#[]⟩ : ByteArray), 5)) else ((header_twos.f (([a0_0, a0_1, a0_2] : List Int))).bind fun t116 => (if 4 + t116.size ≤ 9223372036854775807 then ((header_fours.f (([a0_3, a0_4, a0_5, a0_6] : List Int))).bind fun t120 => (if 4 + t116.size + t120.size ≤ 9223372036854775807 then ((header_twos.f (([IntKind.u16.wrap ((a0_7.size : Int)), IntKind.u16.wrap ((a0_8.size : Int))] : List Int))).bind fun t124 => (if 4 + t116.size + t120.size + t124.size ≤ 9223372036854775807 then (if 4 + t116.size + t120.size + t124.size + a0_7.size ≤ 9223372036854775807 then (if 4 + t116.size + t120.size + t124.size + a0_7.size + a0_8.size ≤ 9223372036854775807 then (some ((((((⟨#[80, 75, 3, 4]⟩ : ByteArray) ++ t116) ++ t120) ++ t124) ++ a0_7) ++ a0_8, 0)) else (none)) else (none)) else (none))) else (none))) else (none))))
def header_PrintLocal.T3 : Bool × List (List Nat × List Nat) := (true, [([], []), ([0], [0]), ([], []), ([2], [2]), ([], []), ([4], [4]), ([1, 3, 5], [1, 3, 5]), ([6], [6]), ([7], [7]), ([], []), ([9], [9]), ([], []), ([11], [11]), ([], []), ([13], [13]), ([], []), ([15], [15]), ([10, 12, 14, 16], [10, 12, 14, 16]), ([17, 7], [17]), ([8, 18], [8, 18]), ([], []), ([20], [20]), ([21], [21]), ([22], [22]), ([], []), ([24], [24]), ([25], [25]), ([26], [26]), ([23, 27], [23, 27]), ([28, 18], [28]), ([19, 29], [19, 29]), ([], []), ([31], [31]), ([30, 32], [30, 32]), ([], []), ([34], [34]), ([33, 35], [33, 35]), ([36, 29, 0, 1, 2, 3, 4, 5, 6, 7, 8, 9, 10, 11, 12, 13, 14, 15, 16, 17, 18, 19, 20, 21, 22, 23, 24, 25, 26, 27, 28, 29, 30, 31, 32, 33, 34, 35, 36], [36]), ([37, 0, 1, 2, 3, 4, 5, 6, 7, 8, 9, 10, 11, 12, 13, 14, 15, 16, 17, 18, 19, 20, 21, 22, 23, 24, 25, 26, 27, 28, 29, 30, 31, 32, 33, 34, 35, 36, 37], [])])
def header_PrintLocal.B3 : List Nat := [0, 1, 0, 4, 0, 16, 63, 127, 255, 0, 512, 0, 2048, 0, 8192, 0, 32768, 130560, 261887, 524287, 0, 1048576, 3145728, 7340032, 0, 16777216, 50331648, 117440512, 267386880, 536346367, 1073741823, 0, 2147483648, 8589934591, 0, 17179869184, 68719476735, 137438953471, 274877906943]
theorem header_PrintLocal.tab3 : rtab .any (opsOf Try.f7 3) = header_PrintLocal.T3 := by kernel_rfl
theorem header_PrintLocal.bits3 : waitsOk header_PrintLocal.T3.2 header_PrintLocal.B3 = true := by kernel_rfl
set_option maxHeartbeats 8000000 in
set_option maxRecDepth 100000 in
theorem header_PrintLocal.calls (k : Nat) (a0_0 : Int) (a0_1 : Int) (a0_2 : Int) (a0_3 : Int) (a0_4 : Int) (a0_5 : Int) (a0_6 : Int) (a0_7 : ByteArray) (a0_8 : ByteArray) (r1 : ByteArray) (r2 : Int) (w : World) (h : header_PrintLocal.f k a0_0 a0_1 a0_2 a0_3 a0_4 a0_5 a0_6 a0_7 a0_8 = some (r1, r2)) :
    Calls Try.prog 7 #[.agg #[.int .u16 a0_0, .int .u16 a0_1, .int .u16 a0_2, .int .u32 a0_3, .int .u32 a0_4, .int .u32 a0_5, .int .u32 a0_6, .string a0_7, .string a0_8]] w fun e w' => e = .returned (.tuple #[.string r1, .int .i64 r2]) ∧ Below w.heap.size w w' := by
  have hu25 := Try.underlying25
  have HB := Aside0.mk (Below.refl w.heap.size w)
  have H : ((header_long.f k (([a0_7, a0_8] : List ByteArray))).bind fun t112 => (if t112 = true then (some ((⟨#[]⟩ : ByteArray), 5)) else ((header_twos.f (([a0_0, a0_1, a0_2] : List Int))).bind fun t116 => (if 4 + t116.size ≤ 9223372036854775807 then ((header_fours.f (([a0_3, a0_4, a0_5, a0_6] : List Int))).bind fun t120 => (if 4 + t116.size + t120.size ≤ 9223372036854775807 then ((header_twos.f (([IntKind.u16.wrap ((a0_7.size : Int)), IntKind.u16.wrap ((a0_8.size : Int))] : List Int))).bind fun t124 => (if 4 + t116.size + t120.size + t124.size ≤ 9223372036854775807 then (if 4 + t116.size + t120.size + t124.size + a0_7.size ≤ 9223372036854775807 then (if 4 + t116.size + t120.size + t124.size + a0_7.size + a0_8.size ≤ 9223372036854775807 then (some ((((((⟨#[80, 75, 3, 4]⟩ : ByteArray) ++ t116) ++ t120) ++ t124) ++ a0_7) ++ a0_8, 0)) else (none)) else (none)) else (none))) else (none))) else (none))))) = some (r1, r2) := h
  clear h
  obtain ⟨y109, hy109⟩ : ∃ y_ : List ByteArray, y_ = (([a0_7, a0_8] : List ByteArray)) := ⟨_, rfl⟩
  replace H : ((header_long.f k y109).bind fun t112 => (if t112 = true then (some ((⟨#[]⟩ : ByteArray), 5)) else ((header_twos.f (([a0_0, a0_1, a0_2] : List Int))).bind fun t116 => (if 4 + t116.size ≤ 9223372036854775807 then ((header_fours.f (([a0_3, a0_4, a0_5, a0_6] : List Int))).bind fun t120 => (if 4 + t116.size + t120.size ≤ 9223372036854775807 then ((header_twos.f (([IntKind.u16.wrap ((a0_7.size : Int)), IntKind.u16.wrap ((a0_8.size : Int))] : List Int))).bind fun t124 => (if 4 + t116.size + t120.size + t124.size ≤ 9223372036854775807 then (if 4 + t116.size + t120.size + t124.size + a0_7.size ≤ 9223372036854775807 then (if 4 + t116.size + t120.size + t124.size + a0_7.size + a0_8.size ≤ 9223372036854775807 then (some ((((((⟨#[80, 75, 3, 4]⟩ : ByteArray) ++ t116) ++ t120) ++ t124) ++ a0_7) ++ a0_8, 0)) else (none)) else (none)) else (none))) else (none))) else (none))))) = some (r1, r2) := by first | (rw [hy109]; with_reducible exact H) | (have H2_ := (Option.bind_some _ _).symm.trans H; rw [hy109]; with_reducible exact H2_) | (have H2_ := (Option.bind_some _ _).symm.trans H; with_reducible exact H2_) | with_reducible exact H | (rw [hy109]; exact H) | exact H
  have Ny109 := Aside0.mk hy109
  clear hy109
  replace H := Option.bind_eq_some_iff.mp H
  obtain ⟨t112, A20, H⟩ := H
  replace H : (if t112 = true then (some ((⟨#[]⟩ : ByteArray), 5)) else ((header_twos.f (([a0_0, a0_1, a0_2] : List Int))).bind fun t116 => (if 4 + t116.size ≤ 9223372036854775807 then ((header_fours.f (([a0_3, a0_4, a0_5, a0_6] : List Int))).bind fun t120 => (if 4 + t116.size + t120.size ≤ 9223372036854775807 then ((header_twos.f (([IntKind.u16.wrap ((a0_7.size : Int)), IntKind.u16.wrap ((a0_8.size : Int))] : List Int))).bind fun t124 => (if 4 + t116.size + t120.size + t124.size ≤ 9223372036854775807 then (if 4 + t116.size + t120.size + t124.size + a0_7.size ≤ 9223372036854775807 then (if 4 + t116.size + t120.size + t124.size + a0_7.size + a0_8.size ≤ 9223372036854775807 then (some ((((((⟨#[80, 75, 3, 4]⟩ : ByteArray) ++ t116) ++ t120) ++ t124) ++ a0_7) ++ a0_8, 0)) else (none)) else (none)) else (none))) else (none))) else (none)))) = some (r1, r2) := H
  have A2 := Aside0.mk A20
  clear A20
  by_cases c3 : t112 = true
  · subst c3
    have H1 : (some ((⟨#[]⟩ : ByteArray), 5)) = some (r1, r2) := by rw [if_pos rfl] at H; exact H
    clear H
    have H := H1
    clear H1
    simp only [Option.some.injEq, Prod.mk.injEq] at H
    obtain ⟨rfl, rfl⟩ := H
    go_enter Try.func7, Try.ntmps7
    go_wp2_with (first | ((with_reducible refine gate_dst (N := 1) rfl ?_); refine box_event ?hg (N := 1) ?hd (cs := #[.int .u16 a0_0, .int .u16 a0_1, .int .u16 a0_2, .int .u32 a0_3, .int .u32 a0_4, .int .u32 a0_5, .int .u32 a0_6, .string a0_7, .string a0_8]) (t := 25) ?hr ?_; (case hd => rfl); (case hg => rfl); (case hr => first | (go_simp; done) | (go_simp; rfl)); intro gb108 hg w4 hbox hb; have n0_ := Aside0.mk (below_step (by repeat (first | (with_reducible first | exact HB.out | apply below_alloc | apply pw_below_drewN | apply below_drew1) | exact HB.out)) hb); have n1_ := Aside0.mk (hbox); have n2_ := Aside0.mk ((by rw [hg]; exact (below_size (by repeat (first | (with_reducible first | exact HB.out | apply below_alloc | apply pw_below_drewN | apply below_drew1) | exact HB.out))) : w.heap.size ≤ gb108)); have n3_ := Aside0.mk ((by rw [hg]; exact (below_size (by repeat (first | (with_reducible first | exact HB.out | apply below_alloc | apply pw_below_drewN | apply below_drew1) | exact HB.out))) : w.heap.size ≤ gb108)); clear HB; have HB := n0_; have BK108 := n1_; have GW108 := n2_; have GE108 := n3_; clear n0_ n1_ n2_ n3_; clear hb hbox hg; have hcz5_0 : w4.cell? ⟨gb108, 0, none⟩ = some (.int .u16 a0_0) := (blk_cell BK108.out 0).trans rfl; have hcz5_1 : w4.cell? ⟨gb108, 1, none⟩ = some (.int .u16 a0_1) := (blk_cell BK108.out 1).trans rfl; have hcz5_2 : w4.cell? ⟨gb108, 2, none⟩ = some (.int .u16 a0_2) := (blk_cell BK108.out 2).trans rfl; have hcz5_3 : w4.cell? ⟨gb108, 3, none⟩ = some (.int .u32 a0_3) := (blk_cell BK108.out 3).trans rfl; have hcz5_4 : w4.cell? ⟨gb108, 4, none⟩ = some (.int .u32 a0_4) := (blk_cell BK108.out 4).trans rfl; have hcz5_5 : w4.cell? ⟨gb108, 5, none⟩ = some (.int .u32 a0_5) := (blk_cell BK108.out 5).trans rfl; have hcz5_6 : w4.cell? ⟨gb108, 6, none⟩ = some (.int .u32 a0_6) := (blk_cell BK108.out 6).trans rfl; have hcz5_7 : w4.cell? ⟨gb108, 7, none⟩ = some (.string a0_7) := (blk_cell BK108.out 7).trans rfl; have hcz5_8 : w4.cell? ⟨gb108, 8, none⟩ = some (.string a0_8) := (blk_cell BK108.out 8).trans rfl; have hfz5_0 := blk_frozen BK108.out 0; have hfz5_1 := blk_frozen BK108.out 1; have hfz5_2 := blk_frozen BK108.out 2; have hfz5_3 := blk_frozen BK108.out 3; have hfz5_4 := blk_frozen BK108.out 4; have hfz5_5 := blk_frozen BK108.out 5; have hfz5_6 := blk_frozen BK108.out 6; have hfz5_7 := blk_frozen BK108.out 7; have hfz5_8 := blk_frozen BK108.out 8) | ((with_reducible refine gate_dst (N := 8) rfl ?_); refine Kd.R_lit Kd.string _ 9 ?hg (N := 8) ?hd (xs := ([a0_7, a0_8] : List ByteArray)) (inner := [.string a0_7, .string a0_8]) (ok := fun _ => True) (okp := fun _ => True) ?hr ?hp (fun _ hk => hk) trivial (Below.refl _ _) (Nat.le_refl _) (by simp) ?_; (case hd => rfl); (case hg => rfl); (case hr => first | (go_simp; done) | (go_simp; rfl)); (case hp => exact (Reps.one (show Kd.M Kd.string _ _ _ a0_7 [.string a0_7] from rfl) (Reps.one (show Kd.M Kd.string _ _ _ a0_8 [.string a0_8] from rfl) (Reps.none _ _)))); intro v110 w6 ho7 hb hg_ hnew_; clear hg_ hnew_; (first | rw [← Ny109.out] at ho7 | (simp only [Int.reduceToNat] at ho7; rw [← Ny109.out] at ho7)); have n0_ := Aside0.mk (Kd.R_lower ho7 (below_size (by repeat (first | (with_reducible first | exact HB.out | apply below_alloc | apply pw_below_drewN | apply below_drew1 | refine below_set ?_ GE108.out) | exact HB.out)))); have n1_ := Aside0.mk (blk_below (g := gb108) (o := .cells #[.int .u16 a0_0, .int .u16 a0_1, .int .u16 a0_2, .int .u32 a0_3, .int .u32 a0_4, .int .u32 a0_5, .int .u32 a0_6, .string a0_7, .string a0_8] 25 (0, 0)) (by (with_reducible repeat (first | refine blk_drewN ?_ _ | refine blk_drew ?_ | refine blk_alloc ?_ _)); exact BK108.out) hb); have n2_ := Aside0.mk (below_step (by repeat (first | (with_reducible first | exact HB.out | apply below_alloc | apply pw_below_drewN | apply below_drew1 | refine below_set ?_ GE108.out) | exact HB.out)) hb); clear BK108; clear HB; have HO111 := n0_; have BK108 := n1_; have HB := n2_; clear n0_ n1_ n2_; clear hb ho7; obtain ⟨Ao8, co8, eo8⟩ := Kd.R_slice HO111.out; subst eo8) | ((with_reducible refine gate_callee (f := 22) rfl ?_); refine goesL_ (some 9) rfl rfl Try.func22 (by kernel_rfl) rfl #[.slice Ao8 y109.length co8] rfl (by (try simp only [List.map_toArray, List.map_cons, List.map_nil]); first | done | rfl | (simp only [List.length_drop, List.length_take]; rfl)) ?_; (with_reducible refine (header_long.calls k _ _ y109 true _ ?side1 ?side2 A2.out).mono ?_); (case side1 => repeat (first | exact (Kd.R_reads' HO111.out).2.2 | (with_reducible refine Kd.C_alloc ?_ _) | (with_reducible refine Kd.C_drewN ?_ _) | (with_reducible refine Kd.C_drew ?_))); (case side2 => exact (Kd.R_reads' HO111.out).2.1); rintro e w' ⟨rfl, ⟨nd, rfl⟩⟩; refine ⟨_, rfl, ?_⟩))
    go_ret2
    exact ⟨by first | rfl | (simp [errW_none, errW_some] <;> rfl) | (simp [*, errW_none, errW_some] <;> rfl), by repeat (first | (with_reducible first | exact HB.out | apply below_alloc | apply pw_below_drewN | apply below_drew1 | refine below_set ?_ GE108.out) | exact HB.out)⟩
  · replace c3 := Bool.eq_false_iff.mpr c3
    subst c3
    have H1 : ((header_twos.f (([a0_0, a0_1, a0_2] : List Int))).bind fun t116 => (if 4 + t116.size ≤ 9223372036854775807 then ((header_fours.f (([a0_3, a0_4, a0_5, a0_6] : List Int))).bind fun t120 => (if 4 + t116.size + t120.size ≤ 9223372036854775807 then ((header_twos.f (([IntKind.u16.wrap ((a0_7.size : Int)), IntKind.u16.wrap ((a0_8.size : Int))] : List Int))).bind fun t124 => (if 4 + t116.size + t120.size + t124.size ≤ 9223372036854775807 then (if 4 + t116.size + t120.size + t124.size + a0_7.size ≤ 9223372036854775807 then (if 4 + t116.size + t120.size + t124.size + a0_7.size + a0_8.size ≤ 9223372036854775807 then (some ((((((⟨#[80, 75, 3, 4]⟩ : ByteArray) ++ t116) ++ t120) ++ t124) ++ a0_7) ++ a0_8, 0)) else (none)) else (none)) else (none))) else (none))) else (none))) = some (r1, r2) := by rw [if_neg (show ¬ (false = true) by decide)] at H; exact H
    clear H
    have H := H1
    clear H1
    obtain ⟨y113, hy113⟩ : ∃ y_ : List Int, y_ = (([a0_0, a0_1, a0_2] : List Int)) := ⟨_, rfl⟩
    replace H : ((header_twos.f y113).bind fun t116 => (if 4 + t116.size ≤ 9223372036854775807 then ((header_fours.f (([a0_3, a0_4, a0_5, a0_6] : List Int))).bind fun t120 => (if 4 + t116.size + t120.size ≤ 9223372036854775807 then ((header_twos.f (([IntKind.u16.wrap ((a0_7.size : Int)), IntKind.u16.wrap ((a0_8.size : Int))] : List Int))).bind fun t124 => (if 4 + t116.size + t120.size + t124.size ≤ 9223372036854775807 then (if 4 + t116.size + t120.size + t124.size + a0_7.size ≤ 9223372036854775807 then (if 4 + t116.size + t120.size + t124.size + a0_7.size + a0_8.size ≤ 9223372036854775807 then (some ((((((⟨#[80, 75, 3, 4]⟩ : ByteArray) ++ t116) ++ t120) ++ t124) ++ a0_7) ++ a0_8, 0)) else (none)) else (none)) else (none))) else (none))) else (none))) = some (r1, r2) := by first | (rw [hy113]; with_reducible exact H) | (have H2_ := (Option.bind_some _ _).symm.trans H; rw [hy113]; with_reducible exact H2_) | (have H2_ := (Option.bind_some _ _).symm.trans H; with_reducible exact H2_) | with_reducible exact H | (rw [hy113]; exact H) | exact H
    have Ny113 := Aside0.mk hy113
    clear hy113
    replace H := Option.bind_eq_some_iff.mp H
    obtain ⟨t116, A90, H⟩ := H
    replace H : (if 4 + t116.size ≤ 9223372036854775807 then ((header_fours.f (([a0_3, a0_4, a0_5, a0_6] : List Int))).bind fun t120 => (if 4 + t116.size + t120.size ≤ 9223372036854775807 then ((header_twos.f (([IntKind.u16.wrap ((a0_7.size : Int)), IntKind.u16.wrap ((a0_8.size : Int))] : List Int))).bind fun t124 => (if 4 + t116.size + t120.size + t124.size ≤ 9223372036854775807 then (if 4 + t116.size + t120.size + t124.size + a0_7.size ≤ 9223372036854775807 then (if 4 + t116.size + t120.size + t124.size + a0_7.size + a0_8.size ≤ 9223372036854775807 then (some ((((((⟨#[80, 75, 3, 4]⟩ : ByteArray) ++ t116) ++ t120) ++ t124) ++ a0_7) ++ a0_8, 0)) else (none)) else (none)) else (none))) else (none))) else (none)) = some (r1, r2) := H
    have A9 := Aside0.mk A90
    clear A90
    by_cases c10 : 4 + t116.size ≤ 9223372036854775807
    · rw [if_pos c10] at H
      have c10b0 := eq_true c10
      have c10b1 : decide (4 + t116.size ≤ 9223372036854775807) = true := decide_eq_true c10
      try have c10b2 : (9223372036854775807 < 4 + t116.size) = False := eq_false (Nat.not_lt.2 c10)
      obtain ⟨y117, hy117⟩ : ∃ y_ : List Int, y_ = (([a0_3, a0_4, a0_5, a0_6] : List Int)) := ⟨_, rfl⟩
      replace H : ((header_fours.f y117).bind fun t120 => (if 4 + t116.size + t120.size ≤ 9223372036854775807 then ((header_twos.f (([IntKind.u16.wrap ((a0_7.size : Int)), IntKind.u16.wrap ((a0_8.size : Int))] : List Int))).bind fun t124 => (if 4 + t116.size + t120.size + t124.size ≤ 9223372036854775807 then (if 4 + t116.size + t120.size + t124.size + a0_7.size ≤ 9223372036854775807 then (if 4 + t116.size + t120.size + t124.size + a0_7.size + a0_8.size ≤ 9223372036854775807 then (some ((((((⟨#[80, 75, 3, 4]⟩ : ByteArray) ++ t116) ++ t120) ++ t124) ++ a0_7) ++ a0_8, 0)) else (none)) else (none)) else (none))) else (none))) = some (r1, r2) := by first | (rw [hy117]; with_reducible exact H) | (have H2_ := (Option.bind_some _ _).symm.trans H; rw [hy117]; with_reducible exact H2_) | (have H2_ := (Option.bind_some _ _).symm.trans H; with_reducible exact H2_) | with_reducible exact H | (rw [hy117]; exact H) | exact H
      have Ny117 := Aside0.mk hy117
      clear hy117
      replace H := Option.bind_eq_some_iff.mp H
      obtain ⟨t120, A110, H⟩ := H
      replace H : (if 4 + t116.size + t120.size ≤ 9223372036854775807 then ((header_twos.f (([IntKind.u16.wrap ((a0_7.size : Int)), IntKind.u16.wrap ((a0_8.size : Int))] : List Int))).bind fun t124 => (if 4 + t116.size + t120.size + t124.size ≤ 9223372036854775807 then (if 4 + t116.size + t120.size + t124.size + a0_7.size ≤ 9223372036854775807 then (if 4 + t116.size + t120.size + t124.size + a0_7.size + a0_8.size ≤ 9223372036854775807 then (some ((((((⟨#[80, 75, 3, 4]⟩ : ByteArray) ++ t116) ++ t120) ++ t124) ++ a0_7) ++ a0_8, 0)) else (none)) else (none)) else (none))) else (none)) = some (r1, r2) := H
      have A11 := Aside0.mk A110
      clear A110
      by_cases c12 : 4 + t116.size + t120.size ≤ 9223372036854775807
      · rw [if_pos c12] at H
        have c12b0 := eq_true c12
        have c12b1 : decide (4 + t116.size + t120.size ≤ 9223372036854775807) = true := decide_eq_true c12
        try have c12b2 : (9223372036854775807 < 4 + t116.size + t120.size) = False := eq_false (Nat.not_lt.2 c12)
        obtain ⟨y121, hy121⟩ : ∃ y_ : List Int, y_ = (([IntKind.u16.wrap ((a0_7.size : Int)), IntKind.u16.wrap ((a0_8.size : Int))] : List Int)) := ⟨_, rfl⟩
        replace H : ((header_twos.f y121).bind fun t124 => (if 4 + t116.size + t120.size + t124.size ≤ 9223372036854775807 then (if 4 + t116.size + t120.size + t124.size + a0_7.size ≤ 9223372036854775807 then (if 4 + t116.size + t120.size + t124.size + a0_7.size + a0_8.size ≤ 9223372036854775807 then (some ((((((⟨#[80, 75, 3, 4]⟩ : ByteArray) ++ t116) ++ t120) ++ t124) ++ a0_7) ++ a0_8, 0)) else (none)) else (none)) else (none))) = some (r1, r2) := by first | (rw [hy121]; with_reducible exact H) | (have H2_ := (Option.bind_some _ _).symm.trans H; rw [hy121]; with_reducible exact H2_) | (have H2_ := (Option.bind_some _ _).symm.trans H; with_reducible exact H2_) | with_reducible exact H | (rw [hy121]; exact H) | exact H
        have Ny121 := Aside0.mk hy121
        clear hy121
        replace H := Option.bind_eq_some_iff.mp H
        obtain ⟨t124, A130, H⟩ := H
        replace H : (if 4 + t116.size + t120.size + t124.size ≤ 9223372036854775807 then (if 4 + t116.size + t120.size + t124.size + a0_7.size ≤ 9223372036854775807 then (if 4 + t116.size + t120.size + t124.size + a0_7.size + a0_8.size ≤ 9223372036854775807 then (some ((((((⟨#[80, 75, 3, 4]⟩ : ByteArray) ++ t116) ++ t120) ++ t124) ++ a0_7) ++ a0_8, 0)) else (none)) else (none)) else (none)) = some (r1, r2) := H
        have A13 := Aside0.mk A130
        clear A130
        by_cases c14 : 4 + t116.size + t120.size + t124.size ≤ 9223372036854775807
        · rw [if_pos c14] at H
          have c14b0 := eq_true c14
          have c14b1 : decide (4 + t116.size + t120.size + t124.size ≤ 9223372036854775807) = true := decide_eq_true c14
          try have c14b2 : (9223372036854775807 < 4 + t116.size + t120.size + t124.size) = False := eq_false (Nat.not_lt.2 c14)
          by_cases c15 : 4 + t116.size + t120.size + t124.size + a0_7.size ≤ 9223372036854775807
          · rw [if_pos c15] at H
            have c15b0 := eq_true c15
            have c15b1 : decide (4 + t116.size + t120.size + t124.size + a0_7.size ≤ 9223372036854775807) = true := decide_eq_true c15
            try have c15b2 : (9223372036854775807 < 4 + t116.size + t120.size + t124.size + a0_7.size) = False := eq_false (Nat.not_lt.2 c15)
            by_cases c16 : 4 + t116.size + t120.size + t124.size + a0_7.size + a0_8.size ≤ 9223372036854775807
            · rw [if_pos c16] at H
              have c16b0 := eq_true c16
              have c16b1 : decide (4 + t116.size + t120.size + t124.size + a0_7.size + a0_8.size ≤ 9223372036854775807) = true := decide_eq_true c16
              try have c16b2 : (9223372036854775807 < 4 + t116.size + t120.size + t124.size + a0_7.size + a0_8.size) = False := eq_false (Nat.not_lt.2 c16)
              simp only [Option.some.injEq, Prod.mk.injEq] at H
              obtain ⟨rfl, rfl⟩ := H
              go_enter Try.func7, Try.ntmps7
              try go_wp2_with (first | ((with_reducible refine gate_dst (N := 1) rfl ?_); refine box_event ?hg (N := 1) ?hd (cs := #[.int .u16 a0_0, .int .u16 a0_1, .int .u16 a0_2, .int .u32 a0_3, .int .u32 a0_4, .int .u32 a0_5, .int .u32 a0_6, .string a0_7, .string a0_8]) (t := 25) ?hr ?_; (case hd => rfl); (case hg => rfl); (case hr => first | (go_simp; done) | (go_simp; rfl)); intro gb108 hg w17 hbox hb; have n0_ := Aside0.mk (below_step (by repeat (first | (with_reducible first | exact HB.out | apply below_alloc | apply pw_below_drewN | apply below_drew1) | exact HB.out)) hb); have n1_ := Aside0.mk (hbox); have n2_ := Aside0.mk ((by rw [hg]; exact (below_size (by repeat (first | (with_reducible first | exact HB.out | apply below_alloc | apply pw_below_drewN | apply below_drew1) | exact HB.out))) : w.heap.size ≤ gb108)); have n3_ := Aside0.mk ((by rw [hg]; exact (below_size (by repeat (first | (with_reducible first | exact HB.out | apply below_alloc | apply pw_below_drewN | apply below_drew1) | exact HB.out))) : w.heap.size ≤ gb108)); clear HB; have HB := n0_; have BK108 := n1_; have GW108 := n2_; have GE108 := n3_; clear n0_ n1_ n2_ n3_; clear hb hbox hg; have hcz18_0 : w17.cell? ⟨gb108, 0, none⟩ = some (.int .u16 a0_0) := (blk_cell BK108.out 0).trans rfl; have hcz18_1 : w17.cell? ⟨gb108, 1, none⟩ = some (.int .u16 a0_1) := (blk_cell BK108.out 1).trans rfl; have hcz18_2 : w17.cell? ⟨gb108, 2, none⟩ = some (.int .u16 a0_2) := (blk_cell BK108.out 2).trans rfl; have hcz18_3 : w17.cell? ⟨gb108, 3, none⟩ = some (.int .u32 a0_3) := (blk_cell BK108.out 3).trans rfl; have hcz18_4 : w17.cell? ⟨gb108, 4, none⟩ = some (.int .u32 a0_4) := (blk_cell BK108.out 4).trans rfl; have hcz18_5 : w17.cell? ⟨gb108, 5, none⟩ = some (.int .u32 a0_5) := (blk_cell BK108.out 5).trans rfl; have hcz18_6 : w17.cell? ⟨gb108, 6, none⟩ = some (.int .u32 a0_6) := (blk_cell BK108.out 6).trans rfl; have hcz18_7 : w17.cell? ⟨gb108, 7, none⟩ = some (.string a0_7) := (blk_cell BK108.out 7).trans rfl; have hcz18_8 : w17.cell? ⟨gb108, 8, none⟩ = some (.string a0_8) := (blk_cell BK108.out 8).trans rfl; have hfz18_0 := blk_frozen BK108.out 0; have hfz18_1 := blk_frozen BK108.out 1; have hfz18_2 := blk_frozen BK108.out 2; have hfz18_3 := blk_frozen BK108.out 3; have hfz18_4 := blk_frozen BK108.out 4; have hfz18_5 := blk_frozen BK108.out 5; have hfz18_6 := blk_frozen BK108.out 6; have hfz18_7 := blk_frozen BK108.out 7; have hfz18_8 := blk_frozen BK108.out 8) | ((with_reducible refine gate_dst (N := 8) rfl ?_); refine Kd.R_lit Kd.string _ 9 ?hg (N := 8) ?hd (xs := ([a0_7, a0_8] : List ByteArray)) (inner := [.string a0_7, .string a0_8]) (ok := fun _ => True) (okp := fun _ => True) ?hr ?hp (fun _ hk => hk) trivial (Below.refl _ _) (Nat.le_refl _) (by simp) ?_; (case hd => rfl); (case hg => rfl); (case hr => first | (go_simp; done) | (go_simp; rfl)); (case hp => exact (Reps.one (show Kd.M Kd.string _ _ _ a0_7 [.string a0_7] from rfl) (Reps.one (show Kd.M Kd.string _ _ _ a0_8 [.string a0_8] from rfl) (Reps.none _ _)))); intro v110 w19 ho20 hb hg_ hnew_; clear hg_ hnew_; (first | rw [← Ny109.out] at ho20 | (simp only [Int.reduceToNat] at ho20; rw [← Ny109.out] at ho20)); have n0_ := Aside0.mk (Kd.R_lower ho20 (below_size (by repeat (first | (with_reducible first | exact HB.out | apply below_alloc | apply pw_below_drewN | apply below_drew1 | refine below_set ?_ GE108.out) | exact HB.out)))); have n1_ := Aside0.mk (blk_below (g := gb108) (o := .cells #[.int .u16 a0_0, .int .u16 a0_1, .int .u16 a0_2, .int .u32 a0_3, .int .u32 a0_4, .int .u32 a0_5, .int .u32 a0_6, .string a0_7, .string a0_8] 25 (0, 0)) (by (with_reducible repeat (first | refine blk_drewN ?_ _ | refine blk_drew ?_ | refine blk_alloc ?_ _)); exact BK108.out) hb); have n2_ := Aside0.mk (below_step (by repeat (first | (with_reducible first | exact HB.out | apply below_alloc | apply pw_below_drewN | apply below_drew1 | refine below_set ?_ GE108.out) | exact HB.out)) hb); clear BK108; clear HB; have HO111 := n0_; have BK108 := n1_; have HB := n2_; clear n0_ n1_ n2_; clear hb ho20; obtain ⟨Ao21, co21, eo21⟩ := Kd.R_slice HO111.out; subst eo21) | ((with_reducible refine gate_callee (f := 22) rfl ?_); refine goesL_ (some 9) rfl rfl Try.func22 (by kernel_rfl) rfl #[.slice Ao21 y109.length co21] rfl (by (try simp only [List.map_toArray, List.map_cons, List.map_nil]); first | done | rfl | (simp only [List.length_drop, List.length_take]; rfl)) ?_; (with_reducible refine (header_long.calls k _ _ y109 false _ ?side1 ?side2 A2.out).mono ?_); (case side1 => repeat (first | exact (Kd.R_reads' HO111.out).2.2 | (with_reducible refine Kd.C_alloc ?_ _) | (with_reducible refine Kd.C_drewN ?_ _) | (with_reducible refine Kd.C_drew ?_))); (case side2 => exact (Kd.R_reads' HO111.out).2.1); rintro e w' ⟨rfl, ⟨nd, rfl⟩⟩; refine ⟨_, rfl, ?_⟩))
              (try (rw [drewN_self w19]; generalize hq_ : World.drewN w19 _ = w19; have n0_ : Aside0 (Kd.R Kd.string 9 w19 w.heap.size (fun _ => True) (.slice Ao21 y109.length co21) y109) := ⟨by rw [← hq_]; exact (by (with_reducible repeat (first | apply Kd.R_alloc | apply Kd.R_drewN | apply Kd.R_drew)); exact HO111.out)⟩; have n1_ : Aside0 (w19.heap[gb108]? = some (.cells #[.int .u16 a0_0, .int .u16 a0_1, .int .u16 a0_2, .int .u32 a0_3, .int .u32 a0_4, .int .u32 a0_5, .int .u32 a0_6, .string a0_7, .string a0_8] 25 (0, 0))) := ⟨by rw [← hq_]; exact (by (with_reducible repeat (first | refine blk_drewN ?_ _ | refine blk_drew ?_ | refine blk_alloc ?_ _)); exact BK108.out)⟩; have n2_ : Aside0 (Below w.heap.size w w19) := ⟨by rw [← hq_]; exact (by repeat (first | (with_reducible first | exact HB.out | apply below_alloc | apply pw_below_drewN | apply below_drew1 | refine below_set ?_ GE108.out) | exact HB.out))⟩; clear HO111 BK108 HB hq_; have HO111 := n0_; have BK108 := n1_; have HB := n2_; clear n0_ n1_ n2_))
              have n0_ := Aside0.mk (Kd.R_drew HO111.out)
              have n1_ := Aside0.mk (blk_drew BK108.out)
              have n2_ := Aside0.mk (below_drew1 HB.out)
              clear HO111
              clear BK108
              clear HB
              have HO111 := n0_
              have BK108 := n1_
              have HB := n2_
              clear n0_ n1_ n2_
              refine start_ (n := 39) (S := fun w' => True) (ds := []) #[false, false, false, false, false, false, false, false, false, false, false, false, false, false, false, false, false, false, false, false, false, false, false, false, false, false, false, false, false, false, false, false, false, false, false, false, false, false, false] (by kernel_rfl) rfl rfl trivial (fun hHeld => ?_); refine with_tabW header_PrintLocal.tab3 header_PrintLocal.bits3 (fun HT_ HW_ => ?_)
              generalize w19.drew = w22 at HO111 BK108 HB hHeld ⊢
              refine pure_ (i := 0) (N := some 10) (v := ?_) (a' := ?_) #[true, false, false, false, false, false, false, false, false, false, false, false, false, false, false, false, false, false, false, false, false, false, false, false, false, false, false, false, false, false, false, false, false, false, false, false, false, false, false] rfl rfl (any_of HT_.out (by kernel_rfl)) (fun _ _ _ h => h) (Or.inl ⟨by rfl, ?_⟩) ?_ ?_
              rotate_left
              · intro w'
                go_simp
                with_reducible rfl
              rotate_left
              · simp only [Act.put, List.setIfInBounds_toArray, List.set_cons_zero, List.set_cons_succ, i64_w, i32_w]
                rfl
              refine pure_ (i := 2) (N := some 12) (v := ?_) (a' := ?_) #[true, false, true, false, false, false, false, false, false, false, false, false, false, false, false, false, false, false, false, false, false, false, false, false, false, false, false, false, false, false, false, false, false, false, false, false, false, false, false] rfl rfl (any_of HT_.out (by kernel_rfl)) (fun _ _ _ h => h) (Or.inl ⟨by rfl, ?_⟩) ?_ ?_
              rotate_left
              · intro w'
                go_simp
                with_reducible rfl
              rotate_left
              · simp only [Act.put, List.setIfInBounds_toArray, List.set_cons_zero, List.set_cons_succ, i64_w, i32_w]
                rfl
              refine pure_ (i := 4) (N := some 14) (v := ?_) (a' := ?_) #[true, false, true, false, true, false, false, false, false, false, false, false, false, false, false, false, false, false, false, false, false, false, false, false, false, false, false, false, false, false, false, false, false, false, false, false, false, false, false] rfl rfl (any_of HT_.out (by kernel_rfl)) (fun _ _ _ h => h) (Or.inl ⟨by rfl, ?_⟩) ?_ ?_
              rotate_left
              · intro w'
                go_simp
                with_reducible rfl
              rotate_left
              · simp only [Act.put, List.setIfInBounds_toArray, List.set_cons_zero, List.set_cons_succ, i64_w, i32_w]
                rfl
              refine pure_ (i := 9) (N := some 19) (v := ?_) (a' := ?_) #[true, false, true, false, true, false, false, false, false, true, false, false, false, false, false, false, false, false, false, false, false, false, false, false, false, false, false, false, false, false, false, false, false, false, false, false, false, false, false] rfl rfl (any_of HT_.out (by kernel_rfl)) (fun _ _ _ h => h) (Or.inl ⟨by rfl, ?_⟩) ?_ ?_
              rotate_left
              · intro w'
                go_simp
                with_reducible rfl
              rotate_left
              · simp only [Act.put, List.setIfInBounds_toArray, List.set_cons_zero, List.set_cons_succ, i64_w, i32_w]
                rfl
              refine pure_ (i := 11) (N := some 21) (v := ?_) (a' := ?_) #[true, false, true, false, true, false, false, false, false, true, false, true, false, false, false, false, false, false, false, false, false, false, false, false, false, false, false, false, false, false, false, false, false, false, false, false, false, false, false] rfl rfl (any_of HT_.out (by kernel_rfl)) (fun _ _ _ h => h) (Or.inl ⟨by rfl, ?_⟩) ?_ ?_
              rotate_left
              · intro w'
                go_simp
                with_reducible rfl
              rotate_left
              · simp only [Act.put, List.setIfInBounds_toArray, List.set_cons_zero, List.set_cons_succ, i64_w, i32_w]
                rfl
              refine pure_ (i := 13) (N := some 23) (v := ?_) (a' := ?_) #[true, false, true, false, true, false, false, false, false, true, false, true, false, true, false, false, false, false, false, false, false, false, false, false, false, false, false, false, false, false, false, false, false, false, false, false, false, false, false] rfl rfl (any_of HT_.out (by kernel_rfl)) (fun _ _ _ h => h) (Or.inl ⟨by rfl, ?_⟩) ?_ ?_
              rotate_left
              · intro w'
                go_simp
                with_reducible rfl
              rotate_left
              · simp only [Act.put, List.setIfInBounds_toArray, List.set_cons_zero, List.set_cons_succ, i64_w, i32_w]
                rfl
              refine pure_ (i := 15) (N := some 25) (v := ?_) (a' := ?_) #[true, false, true, false, true, false, false, false, false, true, false, true, false, true, false, true, false, false, false, false, false, false, false, false, false, false, false, false, false, false, false, false, false, false, false, false, false, false, false] rfl rfl (any_of HT_.out (by kernel_rfl)) (fun _ _ _ h => h) (Or.inl ⟨by rfl, ?_⟩) ?_ ?_
              rotate_left
              · intro w'
                go_simp
                with_reducible rfl
              rotate_left
              · simp only [Act.put, List.setIfInBounds_toArray, List.set_cons_zero, List.set_cons_succ, i64_w, i32_w]
                rfl
              refine pure_ (i := 20) (N := some 30) (v := ?_) (a' := ?_) #[true, false, true, false, true, false, false, false, false, true, false, true, false, true, false, true, false, false, false, false, true, false, false, false, false, false, false, false, false, false, false, false, false, false, false, false, false, false, false] rfl rfl (any_of HT_.out (by kernel_rfl)) (fun _ _ _ h => h) (Or.inl ⟨by rfl, ?_⟩) ?_ ?_
              rotate_left
              · intro w'
                go_simp
                with_reducible rfl
              rotate_left
              · simp only [Act.put, List.setIfInBounds_toArray, List.set_cons_zero, List.set_cons_succ, i64_w, i32_w]
                rfl
              refine pure_ (i := 24) (N := some 34) (v := ?_) (a' := ?_) #[true, false, true, false, true, false, false, false, false, true, false, true, false, true, false, true, false, false, false, false, true, false, false, false, true, false, false, false, false, false, false, false, false, false, false, false, false, false, false] rfl rfl (any_of HT_.out (by kernel_rfl)) (fun _ _ _ h => h) (Or.inl ⟨by rfl, ?_⟩) ?_ ?_
              rotate_left
              · intro w'
                go_simp
                with_reducible rfl
              rotate_left
              · simp only [Act.put, List.setIfInBounds_toArray, List.set_cons_zero, List.set_cons_succ, i64_w, i32_w]
                rfl
              refine pure_ (i := 31) (N := some 41) (v := ?_) (a' := ?_) #[true, false, true, false, true, false, false, false, false, true, false, true, false, true, false, true, false, false, false, false, true, false, false, false, true, false, false, false, false, false, false, true, false, false, false, false, false, false, false] rfl rfl (any_of HT_.out (by kernel_rfl)) (fun _ _ _ h => h) (Or.inl ⟨by rfl, ?_⟩) ?_ ?_
              rotate_left
              · intro w'
                go_simp
                with_reducible rfl
              rotate_left
              · simp only [Act.put, List.setIfInBounds_toArray, List.set_cons_zero, List.set_cons_succ, i64_w, i32_w]
                rfl
              refine pure_ (i := 34) (N := some 44) (v := ?_) (a' := ?_) #[true, false, true, false, true, false, false, false, false, true, false, true, false, true, false, true, false, false, false, false, true, false, false, false, true, false, false, false, false, false, false, true, false, false, true, false, false, false, false] rfl rfl (any_of HT_.out (by kernel_rfl)) (fun _ _ _ h => h) (Or.inl ⟨by rfl, ?_⟩) ?_ ?_
              rotate_left
              · intro w'
                go_simp
                with_reducible rfl
              rotate_left
              · simp only [Act.put, List.setIfInBounds_toArray, List.set_cons_zero, List.set_cons_succ, i64_w, i32_w]
                rfl
              refine inv_at [1, 3, 5, 6, 7, 8, 10, 12, 14, 16, 17, 18, 19, 21, 22, 23, 25, 26, 27, 28, 29, 30, 32, 33, 35, 36, 37, 38] (fun a0_ b a w' => ∃ (v114 : Value) (v118 : Value) (v122 : Value), a = putSel a0_ b [(1, 11, .int .u16 a0_0), (3, 13, .int .u16 a0_1), (5, 15, .int .u16 a0_2), (6, 16, v114), (7, 17, .string t116), (8, 18, .string ((⟨#[80, 75, 3, 4]⟩ : ByteArray) ++ t116)), (10, 20, .int .u32 a0_3), (12, 22, .int .u32 a0_4), (14, 24, .int .u32 a0_5), (16, 26, .int .u32 a0_6), (17, 27, v118), (18, 28, .string t120), (19, 29, .string (((⟨#[80, 75, 3, 4]⟩ : ByteArray) ++ t116) ++ t120)), (21, 31, .string a0_7), (22, 32, .int .i64 (a0_7.size : Int)), (23, 33, .int .u16 (IntKind.u16.wrap ((a0_7.size : Int)))), (25, 35, .string a0_8), (26, 36, .int .i64 (a0_8.size : Int)), (27, 37, .int .u16 (IntKind.u16.wrap ((a0_8.size : Int)))), (28, 38, v122), (29, 39, .string t124), (30, 40, .string ((((⟨#[80, 75, 3, 4]⟩ : ByteArray) ++ t116) ++ t120) ++ t124)), (32, 42, .string a0_7), (33, 43, .string (((((⟨#[80, 75, 3, 4]⟩ : ByteArray) ++ t116) ++ t120) ++ t124) ++ a0_7)), (35, 45, .string a0_8), (36, 46, .string ((((((⟨#[80, 75, 3, 4]⟩ : ByteArray) ++ t116) ++ t120) ++ t124) ++ a0_7) ++ a0_8)), (37, 2, .string ((((((⟨#[80, 75, 3, 4]⟩ : ByteArray) ++ t116) ++ t120) ++ t124) ++ a0_7) ++ a0_8)), (38, 3, .int .i64 0)] ∧ (Kd.R Kd.string 9 w' w.heap.size (fun _ => True) (.slice Ao21 y109.length co21) y109) ∧ (w'.heap[gb108]? = some (.cells #[.int .u16 a0_0, .int .u16 a0_1, .int .u16 a0_2, .int .u32 a0_3, .int .u32 a0_4, .int .u32 a0_5, .int .u32 a0_6, .string a0_7, .string a0_8] 25 (0, 0))) ∧ (Below w.heap.size w w') ∧ (b 6 = true → Kd.R (Kd.int .u16) 22 w' w.heap.size (fun _ => True) v114 y113) ∧ (b 17 = true → Kd.R (Kd.int .u32) 23 w' w.heap.size (fun _ => True) v118 y117) ∧ (b 28 = true → Kd.R (Kd.int .u16) 22 w' w.heap.size (fun _ => True) v122 y121)) HT_.out HW_.out (by kernel_rfl) (by kernel_rfl) ?_ ?_ ?_
              · exact ⟨.bool false, .bool false, .bool false, by simp only [putSel, Bool.false_eq_true, if_false], HO111.out, BK108.out, HB.out, fun h_ => absurd h_ (by decide), fun h_ => absurd h_ (by decide), fun h_ => absurd h_ (by decide)⟩
              · skip
                clear BK108 HB HO111
                refine steps_cons ?_ ?_
                · rintro b a w' ⟨v114, v118, v122, ha, Q_HO111, Q_BK108, Q_HB, Q_HO115, Q_HO119, Q_HO123⟩ hb_ hon hoff
                  refine ⟨_, rfl, fun K hK => ?_⟩
                  have e10 : a.tmps[10]? = some (.pointer (some ⟨gb108, 0, none⟩)) := by rw [ha]; exact (putSel_off rfl).trans rfl
                  replace ha := Aside0.mk ha
                  have HO111 := Aside0.mk Q_HO111
                  have BK108 := Aside0.mk Q_BK108
                  have HB := Aside0.mk Q_HB
                  have hc0_ : w'.cell? ⟨gb108, 0, none⟩ = some (.int .u16 a0_0) := (blk_cell BK108.out 0).trans rfl
                  have hc1_ : w'.cell? ⟨gb108, 1, none⟩ = some (.int .u16 a0_1) := (blk_cell BK108.out 1).trans rfl
                  have hc2_ : w'.cell? ⟨gb108, 2, none⟩ = some (.int .u16 a0_2) := (blk_cell BK108.out 2).trans rfl
                  have hc3_ : w'.cell? ⟨gb108, 3, none⟩ = some (.int .u32 a0_3) := (blk_cell BK108.out 3).trans rfl
                  have hc4_ : w'.cell? ⟨gb108, 4, none⟩ = some (.int .u32 a0_4) := (blk_cell BK108.out 4).trans rfl
                  have hc5_ : w'.cell? ⟨gb108, 5, none⟩ = some (.int .u32 a0_5) := (blk_cell BK108.out 5).trans rfl
                  have hc6_ : w'.cell? ⟨gb108, 6, none⟩ = some (.int .u32 a0_6) := (blk_cell BK108.out 6).trans rfl
                  have hc7_ : w'.cell? ⟨gb108, 7, none⟩ = some (.string a0_7) := (blk_cell BK108.out 7).trans rfl
                  have hc8_ : w'.cell? ⟨gb108, 8, none⟩ = some (.string a0_8) := (blk_cell BK108.out 8).trans rfl
                  refine value_ (w1 := w') (v := .int .u16 a0_0) (by rfl) rfl ?_ ?_
                  · go_simp
                    (try simp only [i64_w])
                    try rfl
                  refine hK.out _ _ ⟨v114, v118, v122, (by rw [ha.out]; exact putSel_upk 0 hb_ rfl rfl rfl), Q_HO111, Q_BK108, Q_HB, fun h0_ => absurd ((hoff 6 (by kernel_rfl)).symm.trans h0_) (by decide), Q_HO119, Q_HO123⟩
                refine steps_cons ?_ ?_
                · rintro b a w' ⟨v114, v118, v122, ha, Q_HO111, Q_BK108, Q_HB, Q_HO115, Q_HO119, Q_HO123⟩ hb_ hon hoff
                  refine ⟨_, rfl, fun K hK => ?_⟩
                  have e12 : a.tmps[12]? = some (.pointer (some ⟨gb108, 1, none⟩)) := by rw [ha]; exact (putSel_off rfl).trans rfl
                  replace ha := Aside0.mk ha
                  have HO111 := Aside0.mk Q_HO111
                  have BK108 := Aside0.mk Q_BK108
                  have HB := Aside0.mk Q_HB
                  have hc0_ : w'.cell? ⟨gb108, 0, none⟩ = some (.int .u16 a0_0) := (blk_cell BK108.out 0).trans rfl
                  have hc1_ : w'.cell? ⟨gb108, 1, none⟩ = some (.int .u16 a0_1) := (blk_cell BK108.out 1).trans rfl
                  have hc2_ : w'.cell? ⟨gb108, 2, none⟩ = some (.int .u16 a0_2) := (blk_cell BK108.out 2).trans rfl
                  have hc3_ : w'.cell? ⟨gb108, 3, none⟩ = some (.int .u32 a0_3) := (blk_cell BK108.out 3).trans rfl
                  have hc4_ : w'.cell? ⟨gb108, 4, none⟩ = some (.int .u32 a0_4) := (blk_cell BK108.out 4).trans rfl
                  have hc5_ : w'.cell? ⟨gb108, 5, none⟩ = some (.int .u32 a0_5) := (blk_cell BK108.out 5).trans rfl
                  have hc6_ : w'.cell? ⟨gb108, 6, none⟩ = some (.int .u32 a0_6) := (blk_cell BK108.out 6).trans rfl
                  have hc7_ : w'.cell? ⟨gb108, 7, none⟩ = some (.string a0_7) := (blk_cell BK108.out 7).trans rfl
                  have hc8_ : w'.cell? ⟨gb108, 8, none⟩ = some (.string a0_8) := (blk_cell BK108.out 8).trans rfl
                  refine value_ (w1 := w') (v := .int .u16 a0_1) (by rfl) rfl ?_ ?_
                  · go_simp
                    (try simp only [i64_w])
                    try rfl
                  refine hK.out _ _ ⟨v114, v118, v122, (by rw [ha.out]; exact putSel_upk 1 hb_ rfl rfl rfl), Q_HO111, Q_BK108, Q_HB, fun h0_ => absurd ((hoff 6 (by kernel_rfl)).symm.trans h0_) (by decide), Q_HO119, Q_HO123⟩
                refine steps_cons ?_ ?_
                · rintro b a w' ⟨v114, v118, v122, ha, Q_HO111, Q_BK108, Q_HB, Q_HO115, Q_HO119, Q_HO123⟩ hb_ hon hoff
                  refine ⟨_, rfl, fun K hK => ?_⟩
                  have e14 : a.tmps[14]? = some (.pointer (some ⟨gb108, 2, none⟩)) := by rw [ha]; exact (putSel_off rfl).trans rfl
                  replace ha := Aside0.mk ha
                  have HO111 := Aside0.mk Q_HO111
                  have BK108 := Aside0.mk Q_BK108
                  have HB := Aside0.mk Q_HB
                  have hc0_ : w'.cell? ⟨gb108, 0, none⟩ = some (.int .u16 a0_0) := (blk_cell BK108.out 0).trans rfl
                  have hc1_ : w'.cell? ⟨gb108, 1, none⟩ = some (.int .u16 a0_1) := (blk_cell BK108.out 1).trans rfl
                  have hc2_ : w'.cell? ⟨gb108, 2, none⟩ = some (.int .u16 a0_2) := (blk_cell BK108.out 2).trans rfl
                  have hc3_ : w'.cell? ⟨gb108, 3, none⟩ = some (.int .u32 a0_3) := (blk_cell BK108.out 3).trans rfl
                  have hc4_ : w'.cell? ⟨gb108, 4, none⟩ = some (.int .u32 a0_4) := (blk_cell BK108.out 4).trans rfl
                  have hc5_ : w'.cell? ⟨gb108, 5, none⟩ = some (.int .u32 a0_5) := (blk_cell BK108.out 5).trans rfl
                  have hc6_ : w'.cell? ⟨gb108, 6, none⟩ = some (.int .u32 a0_6) := (blk_cell BK108.out 6).trans rfl
                  have hc7_ : w'.cell? ⟨gb108, 7, none⟩ = some (.string a0_7) := (blk_cell BK108.out 7).trans rfl
                  have hc8_ : w'.cell? ⟨gb108, 8, none⟩ = some (.string a0_8) := (blk_cell BK108.out 8).trans rfl
                  refine value_ (w1 := w') (v := .int .u16 a0_2) (by rfl) rfl ?_ ?_
                  · go_simp
                    (try simp only [i64_w])
                    try rfl
                  refine hK.out _ _ ⟨v114, v118, v122, (by rw [ha.out]; exact putSel_upk 2 hb_ rfl rfl rfl), Q_HO111, Q_BK108, Q_HB, fun h0_ => absurd ((hoff 6 (by kernel_rfl)).symm.trans h0_) (by decide), Q_HO119, Q_HO123⟩
                refine steps_cons ?_ ?_
                · rintro b a w' ⟨v114, v118, v122, ha, Q_HO111, Q_BK108, Q_HB, Q_HO115, Q_HO119, Q_HO123⟩ hb_ hon hoff
                  refine ⟨_, rfl, fun K hK => ?_⟩
                  have e11 : a.tmps[11]? = some (.int .u16 a0_0) := by rw [ha]; exact putSel_on (e := (1, 11, .int .u16 a0_0)) 0 rfl rfl (hon 1 (by kernel_rfl)) rfl
                  have e13 : a.tmps[13]? = some (.int .u16 a0_1) := by rw [ha]; exact putSel_on (e := (3, 13, .int .u16 a0_1)) 1 rfl rfl (hon 3 (by kernel_rfl)) rfl
                  have e15 : a.tmps[15]? = some (.int .u16 a0_2) := by rw [ha]; exact putSel_on (e := (5, 15, .int .u16 a0_2)) 2 rfl rfl (hon 5 (by kernel_rfl)) rfl
                  replace ha := Aside0.mk ha
                  have HO111 := Aside0.mk Q_HO111
                  have BK108 := Aside0.mk Q_BK108
                  have HB := Aside0.mk Q_HB
                  refine Kd.R_lit_step (Kd.int .u16) _ 22 ?hg (N := 16) ?hd (xs := ([a0_0, a0_1, a0_2] : List Int)) (inner := [.int .u16 a0_0, .int .u16 a0_1, .int .u16 a0_2]) (ok := fun _ => True) (okp := fun _ => True) ?hr ?hp (fun _ hk => hk) trivial (Below.refl _ _) (Nat.le_refl _) (by simp) ?_; (case hd => rfl); (case hg => rfl); (case hr => first | (go_simp; done) | (go_simp; rfl)); (case hp => exact (Reps.one (show Kd.M (Kd.int .u16) _ _ _ a0_0 [.int .u16 a0_0] from rfl) (Reps.one (show Kd.M (Kd.int .u16) _ _ _ a0_1 [.int .u16 a0_1] from rfl) (Reps.one (show Kd.M (Kd.int .u16) _ _ _ a0_2 [.int .u16 a0_2] from rfl) (Reps.none _ _)))))
                  intro v114 w23 ho24 hb hg_ hnew_
                  clear hg_ hnew_
                  (first | rw [← Ny113.out] at ho24 | (simp only [Int.reduceToNat] at ho24; rw [← Ny113.out] at ho24))
                  have n0_ := Aside0.mk (Kd.R_below (by (with_reducible repeat (first | apply Kd.R_alloc | apply Kd.R_drewN | apply Kd.R_drew)); exact HO111.out) hb)
                  have n1_ := Aside0.mk (Kd.R_lower ho24 (below_size (by repeat (first | (with_reducible first | exact HB.out | apply below_alloc | apply pw_below_drewN | apply below_drew1 | refine below_set ?_ GE108.out) | exact HB.out))))
                  have n2_ := Aside0.mk (blk_below (g := gb108) (o := .cells #[.int .u16 a0_0, .int .u16 a0_1, .int .u16 a0_2, .int .u32 a0_3, .int .u32 a0_4, .int .u32 a0_5, .int .u32 a0_6, .string a0_7, .string a0_8] 25 (0, 0)) (by (with_reducible repeat (first | refine blk_drewN ?_ _ | refine blk_drew ?_ | refine blk_alloc ?_ _)); exact BK108.out) hb)
                  have n3_ := Aside0.mk (below_step (by repeat (first | (with_reducible first | exact HB.out | apply below_alloc | apply pw_below_drewN | apply below_drew1 | refine below_set ?_ GE108.out) | exact HB.out)) hb)
                  have z_HO119 := fun (h0_ : b 17 = true) => (show Kd.R (Kd.int .u32) 23 w23 w.heap.size (fun _ => True) v118 y117 from by first | exact (Kd.R_below (by (with_reducible repeat (first | apply Kd.R_alloc | apply Kd.R_drewN | apply Kd.R_drew)); exact (Q_HO119 h0_)) hb) | exact Kd.R_mono (Kd.R_below (by (with_reducible repeat (first | apply Kd.R_alloc | apply Kd.R_drewN | apply Kd.R_drew)); exact (Q_HO119 h0_)) hb) (fun _ h_ => by first | trivial | exact h_ | exact h_.1))
                  have z_HO123 := fun (h0_ : b 28 = true) => (show Kd.R (Kd.int .u16) 22 w23 w.heap.size (fun _ => True) v122 y121 from by first | exact (Kd.R_elder' (by (with_reducible repeat (first | apply Kd.R_alloc | apply Kd.R_drewN | apply Kd.R_drew)); exact (Q_HO123 h0_)) (Kd.R_base ho24) hb) | exact Kd.R_mono (Kd.R_elder' (by (with_reducible repeat (first | apply Kd.R_alloc | apply Kd.R_drewN | apply Kd.R_drew)); exact (Q_HO123 h0_)) (Kd.R_base ho24) hb) (fun _ h_ => by first | trivial | exact h_ | exact h_.1))
                  clear HO111
                  clear BK108
                  clear HB
                  have HO111 := n0_
                  have HO115 := n1_
                  have BK108 := n2_
                  have HB := n3_
                  clear n0_ n1_ n2_ n3_
                  clear hb ho24
                  refine hK.out _ _ ⟨v114, v118, v122, (by rw [ha.out]; exact putSel_upk 3 hb_ rfl rfl rfl), (by (with_reducible repeat (first | apply Kd.R_alloc | apply Kd.R_drewN | apply Kd.R_drew)); exact HO111.out), (by (with_reducible repeat (first | refine blk_drewN ?_ _ | refine blk_drew ?_ | refine blk_alloc ?_ _)); exact BK108.out), (by repeat (first | (with_reducible first | exact HB.out | apply below_alloc | apply pw_below_drewN | apply below_drew1 | refine below_set ?_ GE108.out) | exact HB.out)), fun _ => (by (with_reducible repeat (first | apply Kd.R_alloc | apply Kd.R_drewN | apply Kd.R_drew)); exact HO115.out), z_HO119, z_HO123⟩
                refine steps_cons ?_ ?_
                · rintro b a w' ⟨v114, v118, v122, ha, Q_HO111, Q_BK108, Q_HB, Q_HO115, Q_HO119, Q_HO123⟩ hb_ hon hoff
                  refine ⟨_, rfl, fun K hK => ?_⟩
                  have e16 : a.tmps[16]? = some (v114) := by rw [ha]; exact putSel_on (e := (6, 16, v114)) 3 rfl rfl (hon 6 (by kernel_rfl)) rfl
                  replace ha := Aside0.mk ha
                  have HO111 := Aside0.mk Q_HO111
                  have BK108 := Aside0.mk Q_BK108
                  have HB := Aside0.mk Q_HB
                  have HO115 := Aside0.mk (Q_HO115 (hon 6 (by kernel_rfl)))
                  obtain ⟨Ao26, co26, eo26⟩ := Kd.R_slice HO115.out
                  (first | subst eo26 | (injection eo26 with f1_ f2_ f3_; have f4_ := f1_.symm; have f5_ := f3_.symm; clear f1_ f2_ f3_; subst f4_; subst f5_))
                  refine goes_ Try.func23 (by kernel_rfl) rfl #[.slice Ao26 y113.length co26] (by rfl) rfl rfl (by first | (simp only [List.map_toArray, List.map_cons, List.map_nil, Act.eval, Array.getD_eq_getD_getElem?, Option.getD_some, e16]; done) | (simp only [List.map_toArray, List.map_cons, List.map_nil, Act.eval, Array.getD_eq_getD_getElem?, Option.getD_some, e16]; rfl)) ?_
                  with_reducible refine (header_twos.calls _ _ y113 t116 _ ?side1 ?side2 A9.out).mono ?_
                  (case side1 => repeat (first | exact (Kd.R_reads' HO115.out).2.2 | (with_reducible refine Kd.C_alloc ?_ _) | (with_reducible refine Kd.C_drewN ?_ _) | (with_reducible refine Kd.C_drew ?_)))
                  (case side2 => exact (Kd.R_reads' HO115.out).2.1)
                  rintro e w27 ⟨rfl, hb⟩
                  refine ⟨_, rfl, ?_⟩
                  have n0_ := Aside0.mk (Kd.R_below (by (with_reducible repeat (first | apply Kd.R_alloc | apply Kd.R_drewN | apply Kd.R_drew)); exact HO111.out) hb)
                  have n1_ := Aside0.mk (Kd.R_below (by (with_reducible repeat (first | apply Kd.R_alloc | apply Kd.R_drewN | apply Kd.R_drew)); exact HO115.out) hb)
                  have n2_ := Aside0.mk (blk_below (g := gb108) (o := .cells #[.int .u16 a0_0, .int .u16 a0_1, .int .u16 a0_2, .int .u32 a0_3, .int .u32 a0_4, .int .u32 a0_5, .int .u32 a0_6, .string a0_7, .string a0_8] 25 (0, 0)) (by (with_reducible repeat (first | refine blk_drewN ?_ _ | refine blk_drew ?_ | refine blk_alloc ?_ _)); exact BK108.out) hb)
                  have n3_ := Aside0.mk (below_step (by repeat (first | (with_reducible first | exact HB.out | apply below_alloc | apply pw_below_drewN | apply below_drew1 | refine below_set ?_ GE108.out) | exact HB.out)) hb)
                  have z_HO119 := fun (h0_ : b 17 = true) => (show Kd.R (Kd.int .u32) 23 w27 w.heap.size (fun _ => True) v118 y117 from by first | exact (Kd.R_below (by (with_reducible repeat (first | apply Kd.R_alloc | apply Kd.R_drewN | apply Kd.R_drew)); exact (Q_HO119 h0_)) hb) | exact Kd.R_mono (Kd.R_below (by (with_reducible repeat (first | apply Kd.R_alloc | apply Kd.R_drewN | apply Kd.R_drew)); exact (Q_HO119 h0_)) hb) (fun _ h_ => by first | trivial | exact h_ | exact h_.1))
                  have z_HO123 := fun (h0_ : b 28 = true) => (show Kd.R (Kd.int .u16) 22 w27 w.heap.size (fun _ => True) v122 y121 from by first | exact (Kd.R_below (by (with_reducible repeat (first | apply Kd.R_alloc | apply Kd.R_drewN | apply Kd.R_drew)); exact (Q_HO123 h0_)) hb) | exact Kd.R_mono (Kd.R_below (by (with_reducible repeat (first | apply Kd.R_alloc | apply Kd.R_drewN | apply Kd.R_drew)); exact (Q_HO123 h0_)) hb) (fun _ h_ => by first | trivial | exact h_ | exact h_.1))
                  clear HO111
                  clear HO115
                  clear BK108
                  clear HB
                  have HO111 := n0_
                  have HO115 := n1_
                  have BK108 := n2_
                  have HB := n3_
                  clear n0_ n1_ n2_ n3_
                  (try clear hb)
                  (try clear hb2)
                  (try clear hk)
                  (try clear hi)
                  refine hK.out _ _ ⟨.slice Ao26 y113.length co26, v118, v122, (by rw [ha.out]; exact putSel_upk 4 hb_ rfl rfl rfl), (by (with_reducible repeat (first | apply Kd.R_alloc | apply Kd.R_drewN | apply Kd.R_drew)); exact HO111.out), (by (with_reducible repeat (first | refine blk_drewN ?_ _ | refine blk_drew ?_ | refine blk_alloc ?_ _)); exact BK108.out), (by repeat (first | (with_reducible first | exact HB.out | apply below_alloc | apply pw_below_drewN | apply below_drew1 | refine below_set ?_ GE108.out) | exact HB.out)), fun _ => (by (with_reducible repeat (first | apply Kd.R_alloc | apply Kd.R_drewN | apply Kd.R_drew)); exact HO115.out), z_HO119, z_HO123⟩
                refine steps_cons ?_ ?_
                · rintro b a w' ⟨v114, v118, v122, ha, Q_HO111, Q_BK108, Q_HB, Q_HO115, Q_HO119, Q_HO123⟩ hb_ hon hoff
                  refine ⟨_, rfl, fun K hK => ?_⟩
                  have e17 : a.tmps[17]? = some (.string t116) := by rw [ha]; exact putSel_on (e := (7, 17, .string t116)) 4 rfl rfl (hon 7 (by kernel_rfl)) rfl
                  replace ha := Aside0.mk ha
                  have HO111 := Aside0.mk Q_HO111
                  have BK108 := Aside0.mk Q_BK108
                  have HB := Aside0.mk Q_HB
                  have HO115 := Aside0.mk (Q_HO115 (hon 6 (by kernel_rfl)))
                  refine value_ (w1 := w') (v := .string ((⟨#[80, 75, 3, 4]⟩ : ByteArray) ++ t116)) (by rfl) rfl ?_ ?_
                  · go_simp
                    (try simp only [i64_w])
                    try rfl
                  refine hK.out _ _ ⟨v114, v118, v122, (by rw [ha.out]; exact putSel_upk 5 hb_ rfl rfl rfl), Q_HO111, Q_BK108, Q_HB, Q_HO115, Q_HO119, Q_HO123⟩
                refine steps_cons ?_ ?_
                · rintro b a w' ⟨v114, v118, v122, ha, Q_HO111, Q_BK108, Q_HB, Q_HO115, Q_HO119, Q_HO123⟩ hb_ hon hoff
                  refine ⟨_, rfl, fun K hK => ?_⟩
                  have e19 : a.tmps[19]? = some (.pointer (some ⟨gb108, 3, none⟩)) := by rw [ha]; exact (putSel_off rfl).trans rfl
                  replace ha := Aside0.mk ha
                  have HO111 := Aside0.mk Q_HO111
                  have BK108 := Aside0.mk Q_BK108
                  have HB := Aside0.mk Q_HB
                  have hc0_ : w'.cell? ⟨gb108, 0, none⟩ = some (.int .u16 a0_0) := (blk_cell BK108.out 0).trans rfl
                  have hc1_ : w'.cell? ⟨gb108, 1, none⟩ = some (.int .u16 a0_1) := (blk_cell BK108.out 1).trans rfl
                  have hc2_ : w'.cell? ⟨gb108, 2, none⟩ = some (.int .u16 a0_2) := (blk_cell BK108.out 2).trans rfl
                  have hc3_ : w'.cell? ⟨gb108, 3, none⟩ = some (.int .u32 a0_3) := (blk_cell BK108.out 3).trans rfl
                  have hc4_ : w'.cell? ⟨gb108, 4, none⟩ = some (.int .u32 a0_4) := (blk_cell BK108.out 4).trans rfl
                  have hc5_ : w'.cell? ⟨gb108, 5, none⟩ = some (.int .u32 a0_5) := (blk_cell BK108.out 5).trans rfl
                  have hc6_ : w'.cell? ⟨gb108, 6, none⟩ = some (.int .u32 a0_6) := (blk_cell BK108.out 6).trans rfl
                  have hc7_ : w'.cell? ⟨gb108, 7, none⟩ = some (.string a0_7) := (blk_cell BK108.out 7).trans rfl
                  have hc8_ : w'.cell? ⟨gb108, 8, none⟩ = some (.string a0_8) := (blk_cell BK108.out 8).trans rfl
                  refine value_ (w1 := w') (v := .int .u32 a0_3) (by rfl) rfl ?_ ?_
                  · go_simp
                    (try simp only [i64_w])
                    try rfl
                  refine hK.out _ _ ⟨v114, v118, v122, (by rw [ha.out]; exact putSel_upk 6 hb_ rfl rfl rfl), Q_HO111, Q_BK108, Q_HB, Q_HO115, fun h0_ => absurd ((hoff 17 (by kernel_rfl)).symm.trans h0_) (by decide), Q_HO123⟩
                refine steps_cons ?_ ?_
                · rintro b a w' ⟨v114, v118, v122, ha, Q_HO111, Q_BK108, Q_HB, Q_HO115, Q_HO119, Q_HO123⟩ hb_ hon hoff
                  refine ⟨_, rfl, fun K hK => ?_⟩
                  have e21 : a.tmps[21]? = some (.pointer (some ⟨gb108, 4, none⟩)) := by rw [ha]; exact (putSel_off rfl).trans rfl
                  replace ha := Aside0.mk ha
                  have HO111 := Aside0.mk Q_HO111
                  have BK108 := Aside0.mk Q_BK108
                  have HB := Aside0.mk Q_HB
                  have hc0_ : w'.cell? ⟨gb108, 0, none⟩ = some (.int .u16 a0_0) := (blk_cell BK108.out 0).trans rfl
                  have hc1_ : w'.cell? ⟨gb108, 1, none⟩ = some (.int .u16 a0_1) := (blk_cell BK108.out 1).trans rfl
                  have hc2_ : w'.cell? ⟨gb108, 2, none⟩ = some (.int .u16 a0_2) := (blk_cell BK108.out 2).trans rfl
                  have hc3_ : w'.cell? ⟨gb108, 3, none⟩ = some (.int .u32 a0_3) := (blk_cell BK108.out 3).trans rfl
                  have hc4_ : w'.cell? ⟨gb108, 4, none⟩ = some (.int .u32 a0_4) := (blk_cell BK108.out 4).trans rfl
                  have hc5_ : w'.cell? ⟨gb108, 5, none⟩ = some (.int .u32 a0_5) := (blk_cell BK108.out 5).trans rfl
                  have hc6_ : w'.cell? ⟨gb108, 6, none⟩ = some (.int .u32 a0_6) := (blk_cell BK108.out 6).trans rfl
                  have hc7_ : w'.cell? ⟨gb108, 7, none⟩ = some (.string a0_7) := (blk_cell BK108.out 7).trans rfl
                  have hc8_ : w'.cell? ⟨gb108, 8, none⟩ = some (.string a0_8) := (blk_cell BK108.out 8).trans rfl
                  refine value_ (w1 := w') (v := .int .u32 a0_4) (by rfl) rfl ?_ ?_
                  · go_simp
                    (try simp only [i64_w])
                    try rfl
                  refine hK.out _ _ ⟨v114, v118, v122, (by rw [ha.out]; exact putSel_upk 7 hb_ rfl rfl rfl), Q_HO111, Q_BK108, Q_HB, Q_HO115, fun h0_ => absurd ((hoff 17 (by kernel_rfl)).symm.trans h0_) (by decide), Q_HO123⟩
                refine steps_cons ?_ ?_
                · rintro b a w' ⟨v114, v118, v122, ha, Q_HO111, Q_BK108, Q_HB, Q_HO115, Q_HO119, Q_HO123⟩ hb_ hon hoff
                  refine ⟨_, rfl, fun K hK => ?_⟩
                  have e23 : a.tmps[23]? = some (.pointer (some ⟨gb108, 5, none⟩)) := by rw [ha]; exact (putSel_off rfl).trans rfl
                  replace ha := Aside0.mk ha
                  have HO111 := Aside0.mk Q_HO111
                  have BK108 := Aside0.mk Q_BK108
                  have HB := Aside0.mk Q_HB
                  have hc0_ : w'.cell? ⟨gb108, 0, none⟩ = some (.int .u16 a0_0) := (blk_cell BK108.out 0).trans rfl
                  have hc1_ : w'.cell? ⟨gb108, 1, none⟩ = some (.int .u16 a0_1) := (blk_cell BK108.out 1).trans rfl
                  have hc2_ : w'.cell? ⟨gb108, 2, none⟩ = some (.int .u16 a0_2) := (blk_cell BK108.out 2).trans rfl
                  have hc3_ : w'.cell? ⟨gb108, 3, none⟩ = some (.int .u32 a0_3) := (blk_cell BK108.out 3).trans rfl
                  have hc4_ : w'.cell? ⟨gb108, 4, none⟩ = some (.int .u32 a0_4) := (blk_cell BK108.out 4).trans rfl
                  have hc5_ : w'.cell? ⟨gb108, 5, none⟩ = some (.int .u32 a0_5) := (blk_cell BK108.out 5).trans rfl
                  have hc6_ : w'.cell? ⟨gb108, 6, none⟩ = some (.int .u32 a0_6) := (blk_cell BK108.out 6).trans rfl
                  have hc7_ : w'.cell? ⟨gb108, 7, none⟩ = some (.string a0_7) := (blk_cell BK108.out 7).trans rfl
                  have hc8_ : w'.cell? ⟨gb108, 8, none⟩ = some (.string a0_8) := (blk_cell BK108.out 8).trans rfl
                  refine value_ (w1 := w') (v := .int .u32 a0_5) (by rfl) rfl ?_ ?_
                  · go_simp
                    (try simp only [i64_w])
                    try rfl
                  refine hK.out _ _ ⟨v114, v118, v122, (by rw [ha.out]; exact putSel_upk 8 hb_ rfl rfl rfl), Q_HO111, Q_BK108, Q_HB, Q_HO115, fun h0_ => absurd ((hoff 17 (by kernel_rfl)).symm.trans h0_) (by decide), Q_HO123⟩
                refine steps_cons ?_ ?_
                · rintro b a w' ⟨v114, v118, v122, ha, Q_HO111, Q_BK108, Q_HB, Q_HO115, Q_HO119, Q_HO123⟩ hb_ hon hoff
                  refine ⟨_, rfl, fun K hK => ?_⟩
                  have e25 : a.tmps[25]? = some (.pointer (some ⟨gb108, 6, none⟩)) := by rw [ha]; exact (putSel_off rfl).trans rfl
                  replace ha := Aside0.mk ha
                  have HO111 := Aside0.mk Q_HO111
                  have BK108 := Aside0.mk Q_BK108
                  have HB := Aside0.mk Q_HB
                  have hc0_ : w'.cell? ⟨gb108, 0, none⟩ = some (.int .u16 a0_0) := (blk_cell BK108.out 0).trans rfl
                  have hc1_ : w'.cell? ⟨gb108, 1, none⟩ = some (.int .u16 a0_1) := (blk_cell BK108.out 1).trans rfl
                  have hc2_ : w'.cell? ⟨gb108, 2, none⟩ = some (.int .u16 a0_2) := (blk_cell BK108.out 2).trans rfl
                  have hc3_ : w'.cell? ⟨gb108, 3, none⟩ = some (.int .u32 a0_3) := (blk_cell BK108.out 3).trans rfl
                  have hc4_ : w'.cell? ⟨gb108, 4, none⟩ = some (.int .u32 a0_4) := (blk_cell BK108.out 4).trans rfl
                  have hc5_ : w'.cell? ⟨gb108, 5, none⟩ = some (.int .u32 a0_5) := (blk_cell BK108.out 5).trans rfl
                  have hc6_ : w'.cell? ⟨gb108, 6, none⟩ = some (.int .u32 a0_6) := (blk_cell BK108.out 6).trans rfl
                  have hc7_ : w'.cell? ⟨gb108, 7, none⟩ = some (.string a0_7) := (blk_cell BK108.out 7).trans rfl
                  have hc8_ : w'.cell? ⟨gb108, 8, none⟩ = some (.string a0_8) := (blk_cell BK108.out 8).trans rfl
                  refine value_ (w1 := w') (v := .int .u32 a0_6) (by rfl) rfl ?_ ?_
                  · go_simp
                    (try simp only [i64_w])
                    try rfl
                  refine hK.out _ _ ⟨v114, v118, v122, (by rw [ha.out]; exact putSel_upk 9 hb_ rfl rfl rfl), Q_HO111, Q_BK108, Q_HB, Q_HO115, fun h0_ => absurd ((hoff 17 (by kernel_rfl)).symm.trans h0_) (by decide), Q_HO123⟩
                refine steps_cons ?_ ?_
                · rintro b a w' ⟨v114, v118, v122, ha, Q_HO111, Q_BK108, Q_HB, Q_HO115, Q_HO119, Q_HO123⟩ hb_ hon hoff
                  refine ⟨_, rfl, fun K hK => ?_⟩
                  have e20 : a.tmps[20]? = some (.int .u32 a0_3) := by rw [ha]; exact putSel_on (e := (10, 20, .int .u32 a0_3)) 6 rfl rfl (hon 10 (by kernel_rfl)) rfl
                  have e22 : a.tmps[22]? = some (.int .u32 a0_4) := by rw [ha]; exact putSel_on (e := (12, 22, .int .u32 a0_4)) 7 rfl rfl (hon 12 (by kernel_rfl)) rfl
                  have e24 : a.tmps[24]? = some (.int .u32 a0_5) := by rw [ha]; exact putSel_on (e := (14, 24, .int .u32 a0_5)) 8 rfl rfl (hon 14 (by kernel_rfl)) rfl
                  have e26 : a.tmps[26]? = some (.int .u32 a0_6) := by rw [ha]; exact putSel_on (e := (16, 26, .int .u32 a0_6)) 9 rfl rfl (hon 16 (by kernel_rfl)) rfl
                  replace ha := Aside0.mk ha
                  have HO111 := Aside0.mk Q_HO111
                  have BK108 := Aside0.mk Q_BK108
                  have HB := Aside0.mk Q_HB
                  refine Kd.R_lit_step (Kd.int .u32) _ 23 ?hg (N := 27) ?hd (xs := ([a0_3, a0_4, a0_5, a0_6] : List Int)) (inner := [.int .u32 a0_3, .int .u32 a0_4, .int .u32 a0_5, .int .u32 a0_6]) (ok := fun _ => True) (okp := fun _ => True) ?hr ?hp (fun _ hk => hk) trivial (Below.refl _ _) (Nat.le_refl _) (by simp) ?_; (case hd => rfl); (case hg => rfl); (case hr => first | (go_simp; done) | (go_simp; rfl)); (case hp => exact (Reps.one (show Kd.M (Kd.int .u32) _ _ _ a0_3 [.int .u32 a0_3] from rfl) (Reps.one (show Kd.M (Kd.int .u32) _ _ _ a0_4 [.int .u32 a0_4] from rfl) (Reps.one (show Kd.M (Kd.int .u32) _ _ _ a0_5 [.int .u32 a0_5] from rfl) (Reps.one (show Kd.M (Kd.int .u32) _ _ _ a0_6 [.int .u32 a0_6] from rfl) (Reps.none _ _))))))
                  intro v118 w23 ho24 hb hg_ hnew_
                  clear hg_ hnew_
                  (first | rw [← Ny117.out] at ho24 | (simp only [Int.reduceToNat] at ho24; rw [← Ny117.out] at ho24))
                  have n0_ := Aside0.mk (Kd.R_below (by (with_reducible repeat (first | apply Kd.R_alloc | apply Kd.R_drewN | apply Kd.R_drew)); exact HO111.out) hb)
                  have n1_ := Aside0.mk (Kd.R_lower ho24 (below_size (by repeat (first | (with_reducible first | exact HB.out | apply below_alloc | apply pw_below_drewN | apply below_drew1 | refine below_set ?_ GE108.out) | exact HB.out))))
                  have n2_ := Aside0.mk (blk_below (g := gb108) (o := .cells #[.int .u16 a0_0, .int .u16 a0_1, .int .u16 a0_2, .int .u32 a0_3, .int .u32 a0_4, .int .u32 a0_5, .int .u32 a0_6, .string a0_7, .string a0_8] 25 (0, 0)) (by (with_reducible repeat (first | refine blk_drewN ?_ _ | refine blk_drew ?_ | refine blk_alloc ?_ _)); exact BK108.out) hb)
                  have n3_ := Aside0.mk (below_step (by repeat (first | (with_reducible first | exact HB.out | apply below_alloc | apply pw_below_drewN | apply below_drew1 | refine below_set ?_ GE108.out) | exact HB.out)) hb)
                  have z_HO115 := fun (h0_ : b 6 = true) => (show Kd.R (Kd.int .u16) 22 w23 w.heap.size (fun _ => True) v114 y113 from by first | exact (Kd.R_below (by (with_reducible repeat (first | apply Kd.R_alloc | apply Kd.R_drewN | apply Kd.R_drew)); exact (Q_HO115 h0_)) hb) | exact Kd.R_mono (Kd.R_below (by (with_reducible repeat (first | apply Kd.R_alloc | apply Kd.R_drewN | apply Kd.R_drew)); exact (Q_HO115 h0_)) hb) (fun _ h_ => by first | trivial | exact h_ | exact h_.1))
                  have z_HO123 := fun (h0_ : b 28 = true) => (show Kd.R (Kd.int .u16) 22 w23 w.heap.size (fun _ => True) v122 y121 from by first | exact (Kd.R_below (by (with_reducible repeat (first | apply Kd.R_alloc | apply Kd.R_drewN | apply Kd.R_drew)); exact (Q_HO123 h0_)) hb) | exact Kd.R_mono (Kd.R_below (by (with_reducible repeat (first | apply Kd.R_alloc | apply Kd.R_drewN | apply Kd.R_drew)); exact (Q_HO123 h0_)) hb) (fun _ h_ => by first | trivial | exact h_ | exact h_.1))
                  clear HO111
                  clear BK108
                  clear HB
                  have HO111 := n0_
                  have HO119 := n1_
                  have BK108 := n2_
                  have HB := n3_
                  clear n0_ n1_ n2_ n3_
                  clear hb ho24
                  refine hK.out _ _ ⟨v114, v118, v122, (by rw [ha.out]; exact putSel_upk 10 hb_ rfl rfl rfl), (by (with_reducible repeat (first | apply Kd.R_alloc | apply Kd.R_drewN | apply Kd.R_drew)); exact HO111.out), (by (with_reducible repeat (first | refine blk_drewN ?_ _ | refine blk_drew ?_ | refine blk_alloc ?_ _)); exact BK108.out), (by repeat (first | (with_reducible first | exact HB.out | apply below_alloc | apply pw_below_drewN | apply below_drew1 | refine below_set ?_ GE108.out) | exact HB.out)), z_HO115, fun _ => (by (with_reducible repeat (first | apply Kd.R_alloc | apply Kd.R_drewN | apply Kd.R_drew)); exact HO119.out), z_HO123⟩
                refine steps_cons ?_ ?_
                · rintro b a w' ⟨v114, v118, v122, ha, Q_HO111, Q_BK108, Q_HB, Q_HO115, Q_HO119, Q_HO123⟩ hb_ hon hoff
                  refine ⟨_, rfl, fun K hK => ?_⟩
                  have e27 : a.tmps[27]? = some (v118) := by rw [ha]; exact putSel_on (e := (17, 27, v118)) 10 rfl rfl (hon 17 (by kernel_rfl)) rfl
                  replace ha := Aside0.mk ha
                  have HO111 := Aside0.mk Q_HO111
                  have BK108 := Aside0.mk Q_BK108
                  have HB := Aside0.mk Q_HB
                  have HO115 := Aside0.mk (Q_HO115 (hon 6 (by kernel_rfl)))
                  have HO119 := Aside0.mk (Q_HO119 (hon 17 (by kernel_rfl)))
                  obtain ⟨Ao30, co30, eo30⟩ := Kd.R_slice HO119.out
                  (first | subst eo30 | (injection eo30 with f1_ f2_ f3_; have f4_ := f1_.symm; have f5_ := f3_.symm; clear f1_ f2_ f3_; subst f4_; subst f5_))
                  refine goes_ Try.func24 (by kernel_rfl) rfl #[.slice Ao30 y117.length co30] (by rfl) rfl rfl (by first | (simp only [List.map_toArray, List.map_cons, List.map_nil, Act.eval, Array.getD_eq_getD_getElem?, Option.getD_some, e27]; done) | (simp only [List.map_toArray, List.map_cons, List.map_nil, Act.eval, Array.getD_eq_getD_getElem?, Option.getD_some, e27]; rfl)) ?_
                  with_reducible refine (header_fours.calls _ _ y117 t120 _ ?side1 ?side2 A11.out).mono ?_
                  (case side1 => repeat (first | exact (Kd.R_reads' HO119.out).2.2 | (with_reducible refine Kd.C_alloc ?_ _) | (with_reducible refine Kd.C_drewN ?_ _) | (with_reducible refine Kd.C_drew ?_)))
                  (case side2 => exact (Kd.R_reads' HO119.out).2.1)
                  rintro e w31 ⟨rfl, hb⟩
                  refine ⟨_, rfl, ?_⟩
                  have n0_ := Aside0.mk (Kd.R_below (by (with_reducible repeat (first | apply Kd.R_alloc | apply Kd.R_drewN | apply Kd.R_drew)); exact HO111.out) hb)
                  have n1_ := Aside0.mk (Kd.R_below (by (with_reducible repeat (first | apply Kd.R_alloc | apply Kd.R_drewN | apply Kd.R_drew)); exact HO115.out) hb)
                  have n2_ := Aside0.mk (Kd.R_below (by (with_reducible repeat (first | apply Kd.R_alloc | apply Kd.R_drewN | apply Kd.R_drew)); exact HO119.out) hb)
                  have n3_ := Aside0.mk (blk_below (g := gb108) (o := .cells #[.int .u16 a0_0, .int .u16 a0_1, .int .u16 a0_2, .int .u32 a0_3, .int .u32 a0_4, .int .u32 a0_5, .int .u32 a0_6, .string a0_7, .string a0_8] 25 (0, 0)) (by (with_reducible repeat (first | refine blk_drewN ?_ _ | refine blk_drew ?_ | refine blk_alloc ?_ _)); exact BK108.out) hb)
                  have n4_ := Aside0.mk (below_step (by repeat (first | (with_reducible first | exact HB.out | apply below_alloc | apply pw_below_drewN | apply below_drew1 | refine below_set ?_ GE108.out) | exact HB.out)) hb)
                  have z_HO123 := fun (h0_ : b 28 = true) => (show Kd.R (Kd.int .u16) 22 w31 w.heap.size (fun _ => True) v122 y121 from by first | exact (Kd.R_below (by (with_reducible repeat (first | apply Kd.R_alloc | apply Kd.R_drewN | apply Kd.R_drew)); exact (Q_HO123 h0_)) hb) | exact Kd.R_mono (Kd.R_below (by (with_reducible repeat (first | apply Kd.R_alloc | apply Kd.R_drewN | apply Kd.R_drew)); exact (Q_HO123 h0_)) hb) (fun _ h_ => by first | trivial | exact h_ | exact h_.1))
                  clear HO111
                  clear HO115
                  clear HO119
                  clear BK108
                  clear HB
                  have HO111 := n0_
                  have HO115 := n1_
                  have HO119 := n2_
                  have BK108 := n3_
                  have HB := n4_
                  clear n0_ n1_ n2_ n3_ n4_
                  (try clear hb)
                  (try clear hb2)
                  (try clear hk)
                  (try clear hi)
                  refine hK.out _ _ ⟨v114, .slice Ao30 y117.length co30, v122, (by rw [ha.out]; exact putSel_upk 11 hb_ rfl rfl rfl), (by (with_reducible repeat (first | apply Kd.R_alloc | apply Kd.R_drewN | apply Kd.R_drew)); exact HO111.out), (by (with_reducible repeat (first | refine blk_drewN ?_ _ | refine blk_drew ?_ | refine blk_alloc ?_ _)); exact BK108.out), (by repeat (first | (with_reducible first | exact HB.out | apply below_alloc | apply pw_below_drewN | apply below_drew1 | refine below_set ?_ GE108.out) | exact HB.out)), fun _ => (by (with_reducible repeat (first | apply Kd.R_alloc | apply Kd.R_drewN | apply Kd.R_drew)); exact HO115.out), fun _ => (by (with_reducible repeat (first | apply Kd.R_alloc | apply Kd.R_drewN | apply Kd.R_drew)); exact HO119.out), z_HO123⟩
                refine steps_cons ?_ ?_
                · rintro b a w' ⟨v114, v118, v122, ha, Q_HO111, Q_BK108, Q_HB, Q_HO115, Q_HO119, Q_HO123⟩ hb_ hon hoff
                  refine ⟨_, rfl, fun K hK => ?_⟩
                  have e18 : a.tmps[18]? = some (.string ((⟨#[80, 75, 3, 4]⟩ : ByteArray) ++ t116)) := by rw [ha]; exact putSel_on (e := (8, 18, .string ((⟨#[80, 75, 3, 4]⟩ : ByteArray) ++ t116))) 5 rfl rfl (hon 8 (by kernel_rfl)) rfl
                  have e28 : a.tmps[28]? = some (.string t120) := by rw [ha]; exact putSel_on (e := (18, 28, .string t120)) 11 rfl rfl (hon 18 (by kernel_rfl)) rfl
                  replace ha := Aside0.mk ha
                  have HO111 := Aside0.mk Q_HO111
                  have BK108 := Aside0.mk Q_BK108
                  have HB := Aside0.mk Q_HB
                  have HO115 := Aside0.mk (Q_HO115 (hon 6 (by kernel_rfl)))
                  have HO119 := Aside0.mk (Q_HO119 (hon 17 (by kernel_rfl)))
                  refine value_ (w1 := w') (v := .string (((⟨#[80, 75, 3, 4]⟩ : ByteArray) ++ t116) ++ t120)) (by rfl) rfl ?_ ?_
                  · go_simp
                    (try simp only [i64_w])
                    try rfl
                  refine hK.out _ _ ⟨v114, v118, v122, (by rw [ha.out]; exact putSel_upk 12 hb_ rfl rfl rfl), Q_HO111, Q_BK108, Q_HB, Q_HO115, Q_HO119, Q_HO123⟩
                refine steps_cons ?_ ?_
                · rintro b a w' ⟨v114, v118, v122, ha, Q_HO111, Q_BK108, Q_HB, Q_HO115, Q_HO119, Q_HO123⟩ hb_ hon hoff
                  refine ⟨_, rfl, fun K hK => ?_⟩
                  have e30 : a.tmps[30]? = some (.pointer (some ⟨gb108, 7, none⟩)) := by rw [ha]; exact (putSel_off rfl).trans rfl
                  replace ha := Aside0.mk ha
                  have HO111 := Aside0.mk Q_HO111
                  have BK108 := Aside0.mk Q_BK108
                  have HB := Aside0.mk Q_HB
                  have hc0_ : w'.cell? ⟨gb108, 0, none⟩ = some (.int .u16 a0_0) := (blk_cell BK108.out 0).trans rfl
                  have hc1_ : w'.cell? ⟨gb108, 1, none⟩ = some (.int .u16 a0_1) := (blk_cell BK108.out 1).trans rfl
                  have hc2_ : w'.cell? ⟨gb108, 2, none⟩ = some (.int .u16 a0_2) := (blk_cell BK108.out 2).trans rfl
                  have hc3_ : w'.cell? ⟨gb108, 3, none⟩ = some (.int .u32 a0_3) := (blk_cell BK108.out 3).trans rfl
                  have hc4_ : w'.cell? ⟨gb108, 4, none⟩ = some (.int .u32 a0_4) := (blk_cell BK108.out 4).trans rfl
                  have hc5_ : w'.cell? ⟨gb108, 5, none⟩ = some (.int .u32 a0_5) := (blk_cell BK108.out 5).trans rfl
                  have hc6_ : w'.cell? ⟨gb108, 6, none⟩ = some (.int .u32 a0_6) := (blk_cell BK108.out 6).trans rfl
                  have hc7_ : w'.cell? ⟨gb108, 7, none⟩ = some (.string a0_7) := (blk_cell BK108.out 7).trans rfl
                  have hc8_ : w'.cell? ⟨gb108, 8, none⟩ = some (.string a0_8) := (blk_cell BK108.out 8).trans rfl
                  refine value_ (w1 := w') (v := .string a0_7) (by rfl) rfl ?_ ?_
                  · go_simp
                    (try simp only [i64_w])
                    try rfl
                  refine hK.out _ _ ⟨v114, v118, v122, (by rw [ha.out]; exact putSel_upk 13 hb_ rfl rfl rfl), Q_HO111, Q_BK108, Q_HB, Q_HO115, Q_HO119, fun h0_ => absurd ((hoff 28 (by kernel_rfl)).symm.trans h0_) (by decide)⟩
                refine steps_cons ?_ ?_
                · rintro b a w' ⟨v114, v118, v122, ha, Q_HO111, Q_BK108, Q_HB, Q_HO115, Q_HO119, Q_HO123⟩ hb_ hon hoff
                  refine ⟨_, rfl, fun K hK => ?_⟩
                  have e31 : a.tmps[31]? = some (.string a0_7) := by rw [ha]; exact putSel_on (e := (21, 31, .string a0_7)) 13 rfl rfl (hon 21 (by kernel_rfl)) rfl
                  replace ha := Aside0.mk ha
                  have HO111 := Aside0.mk Q_HO111
                  have BK108 := Aside0.mk Q_BK108
                  have HB := Aside0.mk Q_HB
                  refine value_ (w1 := w') (v := .int .i64 (a0_7.size : Int)) (by rfl) rfl ?_ ?_
                  · go_simp
                    (try simp only [i64_w])
                    try rfl
                  refine hK.out _ _ ⟨v114, v118, v122, (by rw [ha.out]; exact putSel_upk 14 hb_ rfl rfl rfl), Q_HO111, Q_BK108, Q_HB, Q_HO115, Q_HO119, fun h0_ => absurd ((hoff 28 (by kernel_rfl)).symm.trans h0_) (by decide)⟩
                refine steps_cons ?_ ?_
                · rintro b a w' ⟨v114, v118, v122, ha, Q_HO111, Q_BK108, Q_HB, Q_HO115, Q_HO119, Q_HO123⟩ hb_ hon hoff
                  refine ⟨_, rfl, fun K hK => ?_⟩
                  have e32 : a.tmps[32]? = some (.int .i64 (a0_7.size : Int)) := by rw [ha]; exact putSel_on (e := (22, 32, .int .i64 (a0_7.size : Int))) 14 rfl rfl (hon 22 (by kernel_rfl)) rfl
                  replace ha := Aside0.mk ha
                  have HO111 := Aside0.mk Q_HO111
                  have BK108 := Aside0.mk Q_BK108
                  have HB := Aside0.mk Q_HB
                  refine value_ (w1 := w') (v := .int .u16 (IntKind.u16.wrap ((a0_7.size : Int)))) (by rfl) rfl ?_ ?_
                  · go_simp
                    (try simp only [i64_w])
                    try rfl
                  refine hK.out _ _ ⟨v114, v118, v122, (by rw [ha.out]; exact putSel_upk 15 hb_ rfl rfl rfl), Q_HO111, Q_BK108, Q_HB, Q_HO115, Q_HO119, fun h0_ => absurd ((hoff 28 (by kernel_rfl)).symm.trans h0_) (by decide)⟩
                refine steps_cons ?_ ?_
                · rintro b a w' ⟨v114, v118, v122, ha, Q_HO111, Q_BK108, Q_HB, Q_HO115, Q_HO119, Q_HO123⟩ hb_ hon hoff
                  refine ⟨_, rfl, fun K hK => ?_⟩
                  have e34 : a.tmps[34]? = some (.pointer (some ⟨gb108, 8, none⟩)) := by rw [ha]; exact (putSel_off rfl).trans rfl
                  replace ha := Aside0.mk ha
                  have HO111 := Aside0.mk Q_HO111
                  have BK108 := Aside0.mk Q_BK108
                  have HB := Aside0.mk Q_HB
                  have hc0_ : w'.cell? ⟨gb108, 0, none⟩ = some (.int .u16 a0_0) := (blk_cell BK108.out 0).trans rfl
                  have hc1_ : w'.cell? ⟨gb108, 1, none⟩ = some (.int .u16 a0_1) := (blk_cell BK108.out 1).trans rfl
                  have hc2_ : w'.cell? ⟨gb108, 2, none⟩ = some (.int .u16 a0_2) := (blk_cell BK108.out 2).trans rfl
                  have hc3_ : w'.cell? ⟨gb108, 3, none⟩ = some (.int .u32 a0_3) := (blk_cell BK108.out 3).trans rfl
                  have hc4_ : w'.cell? ⟨gb108, 4, none⟩ = some (.int .u32 a0_4) := (blk_cell BK108.out 4).trans rfl
                  have hc5_ : w'.cell? ⟨gb108, 5, none⟩ = some (.int .u32 a0_5) := (blk_cell BK108.out 5).trans rfl
                  have hc6_ : w'.cell? ⟨gb108, 6, none⟩ = some (.int .u32 a0_6) := (blk_cell BK108.out 6).trans rfl
                  have hc7_ : w'.cell? ⟨gb108, 7, none⟩ = some (.string a0_7) := (blk_cell BK108.out 7).trans rfl
                  have hc8_ : w'.cell? ⟨gb108, 8, none⟩ = some (.string a0_8) := (blk_cell BK108.out 8).trans rfl
                  refine value_ (w1 := w') (v := .string a0_8) (by rfl) rfl ?_ ?_
                  · go_simp
                    (try simp only [i64_w])
                    try rfl
                  refine hK.out _ _ ⟨v114, v118, v122, (by rw [ha.out]; exact putSel_upk 16 hb_ rfl rfl rfl), Q_HO111, Q_BK108, Q_HB, Q_HO115, Q_HO119, fun h0_ => absurd ((hoff 28 (by kernel_rfl)).symm.trans h0_) (by decide)⟩
                refine steps_cons ?_ ?_
                · rintro b a w' ⟨v114, v118, v122, ha, Q_HO111, Q_BK108, Q_HB, Q_HO115, Q_HO119, Q_HO123⟩ hb_ hon hoff
                  refine ⟨_, rfl, fun K hK => ?_⟩
                  have e35 : a.tmps[35]? = some (.string a0_8) := by rw [ha]; exact putSel_on (e := (25, 35, .string a0_8)) 16 rfl rfl (hon 25 (by kernel_rfl)) rfl
                  replace ha := Aside0.mk ha
                  have HO111 := Aside0.mk Q_HO111
                  have BK108 := Aside0.mk Q_BK108
                  have HB := Aside0.mk Q_HB
                  refine value_ (w1 := w') (v := .int .i64 (a0_8.size : Int)) (by rfl) rfl ?_ ?_
                  · go_simp
                    (try simp only [i64_w])
                    try rfl
                  refine hK.out _ _ ⟨v114, v118, v122, (by rw [ha.out]; exact putSel_upk 17 hb_ rfl rfl rfl), Q_HO111, Q_BK108, Q_HB, Q_HO115, Q_HO119, fun h0_ => absurd ((hoff 28 (by kernel_rfl)).symm.trans h0_) (by decide)⟩
                refine steps_cons ?_ ?_
                · rintro b a w' ⟨v114, v118, v122, ha, Q_HO111, Q_BK108, Q_HB, Q_HO115, Q_HO119, Q_HO123⟩ hb_ hon hoff
                  refine ⟨_, rfl, fun K hK => ?_⟩
                  have e36 : a.tmps[36]? = some (.int .i64 (a0_8.size : Int)) := by rw [ha]; exact putSel_on (e := (26, 36, .int .i64 (a0_8.size : Int))) 17 rfl rfl (hon 26 (by kernel_rfl)) rfl
                  replace ha := Aside0.mk ha
                  have HO111 := Aside0.mk Q_HO111
                  have BK108 := Aside0.mk Q_BK108
                  have HB := Aside0.mk Q_HB
                  refine value_ (w1 := w') (v := .int .u16 (IntKind.u16.wrap ((a0_8.size : Int)))) (by rfl) rfl ?_ ?_
                  · go_simp
                    (try simp only [i64_w])
                    try rfl
                  refine hK.out _ _ ⟨v114, v118, v122, (by rw [ha.out]; exact putSel_upk 18 hb_ rfl rfl rfl), Q_HO111, Q_BK108, Q_HB, Q_HO115, Q_HO119, fun h0_ => absurd ((hoff 28 (by kernel_rfl)).symm.trans h0_) (by decide)⟩
                refine steps_cons ?_ ?_
                · rintro b a w' ⟨v114, v118, v122, ha, Q_HO111, Q_BK108, Q_HB, Q_HO115, Q_HO119, Q_HO123⟩ hb_ hon hoff
                  refine ⟨_, rfl, fun K hK => ?_⟩
                  have e33 : a.tmps[33]? = some (.int .u16 (IntKind.u16.wrap ((a0_7.size : Int)))) := by rw [ha]; exact putSel_on (e := (23, 33, .int .u16 (IntKind.u16.wrap ((a0_7.size : Int))))) 15 rfl rfl (hon 23 (by kernel_rfl)) rfl
                  have e37 : a.tmps[37]? = some (.int .u16 (IntKind.u16.wrap ((a0_8.size : Int)))) := by rw [ha]; exact putSel_on (e := (27, 37, .int .u16 (IntKind.u16.wrap ((a0_8.size : Int))))) 18 rfl rfl (hon 27 (by kernel_rfl)) rfl
                  replace ha := Aside0.mk ha
                  have HO111 := Aside0.mk Q_HO111
                  have BK108 := Aside0.mk Q_BK108
                  have HB := Aside0.mk Q_HB
                  refine Kd.R_lit_step (Kd.int .u16) _ 22 ?hg (N := 38) ?hd (xs := ([IntKind.u16.wrap ((a0_7.size : Int)), IntKind.u16.wrap ((a0_8.size : Int))] : List Int)) (inner := [.int .u16 (IntKind.u16.wrap ((a0_7.size : Int))), .int .u16 (IntKind.u16.wrap ((a0_8.size : Int)))]) (ok := fun _ => True) (okp := fun _ => True) ?hr ?hp (fun _ hk => hk) trivial (Below.refl _ _) (Nat.le_refl _) (by simp) ?_; (case hd => rfl); (case hg => rfl); (case hr => first | (go_simp; done) | (go_simp; rfl)); (case hp => exact (Reps.one (show Kd.M (Kd.int .u16) _ _ _ (IntKind.u16.wrap ((a0_7.size : Int))) [.int .u16 (IntKind.u16.wrap ((a0_7.size : Int)))] from rfl) (Reps.one (show Kd.M (Kd.int .u16) _ _ _ (IntKind.u16.wrap ((a0_8.size : Int))) [.int .u16 (IntKind.u16.wrap ((a0_8.size : Int)))] from rfl) (Reps.none _ _))))
                  intro v122 w23 ho24 hb hg_ hnew_
                  clear hg_ hnew_
                  (first | rw [← Ny121.out] at ho24 | (simp only [Int.reduceToNat] at ho24; rw [← Ny121.out] at ho24))
                  have n0_ := Aside0.mk (Kd.R_below (by (with_reducible repeat (first | apply Kd.R_alloc | apply Kd.R_drewN | apply Kd.R_drew)); exact HO111.out) hb)
                  have n1_ := Aside0.mk (Kd.R_lower ho24 (below_size (by repeat (first | (with_reducible first | exact HB.out | apply below_alloc | apply pw_below_drewN | apply below_drew1 | refine below_set ?_ GE108.out) | exact HB.out))))
                  have n2_ := Aside0.mk (blk_below (g := gb108) (o := .cells #[.int .u16 a0_0, .int .u16 a0_1, .int .u16 a0_2, .int .u32 a0_3, .int .u32 a0_4, .int .u32 a0_5, .int .u32 a0_6, .string a0_7, .string a0_8] 25 (0, 0)) (by (with_reducible repeat (first | refine blk_drewN ?_ _ | refine blk_drew ?_ | refine blk_alloc ?_ _)); exact BK108.out) hb)
                  have n3_ := Aside0.mk (below_step (by repeat (first | (with_reducible first | exact HB.out | apply below_alloc | apply pw_below_drewN | apply below_drew1 | refine below_set ?_ GE108.out) | exact HB.out)) hb)
                  have z_HO115 := fun (h0_ : b 6 = true) => (show Kd.R (Kd.int .u16) 22 w23 w.heap.size (fun _ => True) v114 y113 from by first | exact (Kd.R_elder' (by (with_reducible repeat (first | apply Kd.R_alloc | apply Kd.R_drewN | apply Kd.R_drew)); exact (Q_HO115 h0_)) (Kd.R_base ho24) hb) | exact Kd.R_mono (Kd.R_elder' (by (with_reducible repeat (first | apply Kd.R_alloc | apply Kd.R_drewN | apply Kd.R_drew)); exact (Q_HO115 h0_)) (Kd.R_base ho24) hb) (fun _ h_ => by first | trivial | exact h_ | exact h_.1))
                  have z_HO119 := fun (h0_ : b 17 = true) => (show Kd.R (Kd.int .u32) 23 w23 w.heap.size (fun _ => True) v118 y117 from by first | exact (Kd.R_below (by (with_reducible repeat (first | apply Kd.R_alloc | apply Kd.R_drewN | apply Kd.R_drew)); exact (Q_HO119 h0_)) hb) | exact Kd.R_mono (Kd.R_below (by (with_reducible repeat (first | apply Kd.R_alloc | apply Kd.R_drewN | apply Kd.R_drew)); exact (Q_HO119 h0_)) hb) (fun _ h_ => by first | trivial | exact h_ | exact h_.1))
                  clear HO111
                  clear BK108
                  clear HB
                  have HO111 := n0_
                  have HO123 := n1_
                  have BK108 := n2_
                  have HB := n3_
                  clear n0_ n1_ n2_ n3_
                  clear hb ho24
                  refine hK.out _ _ ⟨v114, v118, v122, (by rw [ha.out]; exact putSel_upk 19 hb_ rfl rfl rfl), (by (with_reducible repeat (first | apply Kd.R_alloc | apply Kd.R_drewN | apply Kd.R_drew)); exact HO111.out), (by (with_reducible repeat (first | refine blk_drewN ?_ _ | refine blk_drew ?_ | refine blk_alloc ?_ _)); exact BK108.out), (by repeat (first | (with_reducible first | exact HB.out | apply below_alloc | apply pw_below_drewN | apply below_drew1 | refine below_set ?_ GE108.out) | exact HB.out)), z_HO115, z_HO119, fun _ => (by (with_reducible repeat (first | apply Kd.R_alloc | apply Kd.R_drewN | apply Kd.R_drew)); exact HO123.out)⟩
                refine steps_cons ?_ ?_
                · rintro b a w' ⟨v114, v118, v122, ha, Q_HO111, Q_BK108, Q_HB, Q_HO115, Q_HO119, Q_HO123⟩ hb_ hon hoff
                  refine ⟨_, rfl, fun K hK => ?_⟩
                  have e38 : a.tmps[38]? = some (v122) := by rw [ha]; exact putSel_on (e := (28, 38, v122)) 19 rfl rfl (hon 28 (by kernel_rfl)) rfl
                  replace ha := Aside0.mk ha
                  have HO111 := Aside0.mk Q_HO111
                  have BK108 := Aside0.mk Q_BK108
                  have HB := Aside0.mk Q_HB
                  have HO115 := Aside0.mk (Q_HO115 (hon 6 (by kernel_rfl)))
                  have HO119 := Aside0.mk (Q_HO119 (hon 17 (by kernel_rfl)))
                  have HO123 := Aside0.mk (Q_HO123 (hon 28 (by kernel_rfl)))
                  obtain ⟨Ao34, co34, eo34⟩ := Kd.R_slice HO123.out
                  (first | subst eo34 | (injection eo34 with f1_ f2_ f3_; have f4_ := f1_.symm; have f5_ := f3_.symm; clear f1_ f2_ f3_; subst f4_; subst f5_))
                  refine goes_ Try.func23 (by kernel_rfl) rfl #[.slice Ao34 y121.length co34] (by rfl) rfl rfl (by first | (simp only [List.map_toArray, List.map_cons, List.map_nil, Act.eval, Array.getD_eq_getD_getElem?, Option.getD_some, e38]; done) | (simp only [List.map_toArray, List.map_cons, List.map_nil, Act.eval, Array.getD_eq_getD_getElem?, Option.getD_some, e38]; rfl)) ?_
                  with_reducible refine (header_twos.calls _ _ y121 t124 _ ?side1 ?side2 A13.out).mono ?_
                  (case side1 => repeat (first | exact (Kd.R_reads' HO123.out).2.2 | (with_reducible refine Kd.C_alloc ?_ _) | (with_reducible refine Kd.C_drewN ?_ _) | (with_reducible refine Kd.C_drew ?_)))
                  (case side2 => exact (Kd.R_reads' HO123.out).2.1)
                  rintro e w35 ⟨rfl, hb⟩
                  refine ⟨_, rfl, ?_⟩
                  have n0_ := Aside0.mk (Kd.R_below (by (with_reducible repeat (first | apply Kd.R_alloc | apply Kd.R_drewN | apply Kd.R_drew)); exact HO111.out) hb)
                  have n1_ := Aside0.mk (Kd.R_below (by (with_reducible repeat (first | apply Kd.R_alloc | apply Kd.R_drewN | apply Kd.R_drew)); exact HO115.out) hb)
                  have n2_ := Aside0.mk (Kd.R_below (by (with_reducible repeat (first | apply Kd.R_alloc | apply Kd.R_drewN | apply Kd.R_drew)); exact HO119.out) hb)
                  have n3_ := Aside0.mk (Kd.R_below (by (with_reducible repeat (first | apply Kd.R_alloc | apply Kd.R_drewN | apply Kd.R_drew)); exact HO123.out) hb)
                  have n4_ := Aside0.mk (blk_below (g := gb108) (o := .cells #[.int .u16 a0_0, .int .u16 a0_1, .int .u16 a0_2, .int .u32 a0_3, .int .u32 a0_4, .int .u32 a0_5, .int .u32 a0_6, .string a0_7, .string a0_8] 25 (0, 0)) (by (with_reducible repeat (first | refine blk_drewN ?_ _ | refine blk_drew ?_ | refine blk_alloc ?_ _)); exact BK108.out) hb)
                  have n5_ := Aside0.mk (below_step (by repeat (first | (with_reducible first | exact HB.out | apply below_alloc | apply pw_below_drewN | apply below_drew1 | refine below_set ?_ GE108.out) | exact HB.out)) hb)
                  clear HO111
                  clear HO115
                  clear HO119
                  clear HO123
                  clear BK108
                  clear HB
                  have HO111 := n0_
                  have HO115 := n1_
                  have HO119 := n2_
                  have HO123 := n3_
                  have BK108 := n4_
                  have HB := n5_
                  clear n0_ n1_ n2_ n3_ n4_ n5_
                  (try clear hb)
                  (try clear hb2)
                  (try clear hk)
                  (try clear hi)
                  refine hK.out _ _ ⟨v114, v118, .slice Ao34 y121.length co34, (by rw [ha.out]; exact putSel_upk 20 hb_ rfl rfl rfl), (by (with_reducible repeat (first | apply Kd.R_alloc | apply Kd.R_drewN | apply Kd.R_drew)); exact HO111.out), (by (with_reducible repeat (first | refine blk_drewN ?_ _ | refine blk_drew ?_ | refine blk_alloc ?_ _)); exact BK108.out), (by repeat (first | (with_reducible first | exact HB.out | apply below_alloc | apply pw_below_drewN | apply below_drew1 | refine below_set ?_ GE108.out) | exact HB.out)), fun _ => (by (with_reducible repeat (first | apply Kd.R_alloc | apply Kd.R_drewN | apply Kd.R_drew)); exact HO115.out), fun _ => (by (with_reducible repeat (first | apply Kd.R_alloc | apply Kd.R_drewN | apply Kd.R_drew)); exact HO119.out), fun _ => (by (with_reducible repeat (first | apply Kd.R_alloc | apply Kd.R_drewN | apply Kd.R_drew)); exact HO123.out)⟩
                refine steps_cons ?_ ?_
                · rintro b a w' ⟨v114, v118, v122, ha, Q_HO111, Q_BK108, Q_HB, Q_HO115, Q_HO119, Q_HO123⟩ hb_ hon hoff
                  refine ⟨_, rfl, fun K hK => ?_⟩
                  have e29 : a.tmps[29]? = some (.string (((⟨#[80, 75, 3, 4]⟩ : ByteArray) ++ t116) ++ t120)) := by rw [ha]; exact putSel_on (e := (19, 29, .string (((⟨#[80, 75, 3, 4]⟩ : ByteArray) ++ t116) ++ t120))) 12 rfl rfl (hon 19 (by kernel_rfl)) rfl
                  have e39 : a.tmps[39]? = some (.string t124) := by rw [ha]; exact putSel_on (e := (29, 39, .string t124)) 20 rfl rfl (hon 29 (by kernel_rfl)) rfl
                  replace ha := Aside0.mk ha
                  have HO111 := Aside0.mk Q_HO111
                  have BK108 := Aside0.mk Q_BK108
                  have HB := Aside0.mk Q_HB
                  have HO115 := Aside0.mk (Q_HO115 (hon 6 (by kernel_rfl)))
                  have HO119 := Aside0.mk (Q_HO119 (hon 17 (by kernel_rfl)))
                  have HO123 := Aside0.mk (Q_HO123 (hon 28 (by kernel_rfl)))
                  refine value_ (w1 := w') (v := .string ((((⟨#[80, 75, 3, 4]⟩ : ByteArray) ++ t116) ++ t120) ++ t124)) (by rfl) rfl ?_ ?_
                  · go_simp
                    (try simp only [i64_w])
                    try rfl
                  refine hK.out _ _ ⟨v114, v118, v122, (by rw [ha.out]; exact putSel_upk 21 hb_ rfl rfl rfl), Q_HO111, Q_BK108, Q_HB, Q_HO115, Q_HO119, Q_HO123⟩
                refine steps_cons ?_ ?_
                · rintro b a w' ⟨v114, v118, v122, ha, Q_HO111, Q_BK108, Q_HB, Q_HO115, Q_HO119, Q_HO123⟩ hb_ hon hoff
                  refine ⟨_, rfl, fun K hK => ?_⟩
                  have e41 : a.tmps[41]? = some (.pointer (some ⟨gb108, 7, none⟩)) := by rw [ha]; exact (putSel_off rfl).trans rfl
                  replace ha := Aside0.mk ha
                  have HO111 := Aside0.mk Q_HO111
                  have BK108 := Aside0.mk Q_BK108
                  have HB := Aside0.mk Q_HB
                  have hc0_ : w'.cell? ⟨gb108, 0, none⟩ = some (.int .u16 a0_0) := (blk_cell BK108.out 0).trans rfl
                  have hc1_ : w'.cell? ⟨gb108, 1, none⟩ = some (.int .u16 a0_1) := (blk_cell BK108.out 1).trans rfl
                  have hc2_ : w'.cell? ⟨gb108, 2, none⟩ = some (.int .u16 a0_2) := (blk_cell BK108.out 2).trans rfl
                  have hc3_ : w'.cell? ⟨gb108, 3, none⟩ = some (.int .u32 a0_3) := (blk_cell BK108.out 3).trans rfl
                  have hc4_ : w'.cell? ⟨gb108, 4, none⟩ = some (.int .u32 a0_4) := (blk_cell BK108.out 4).trans rfl
                  have hc5_ : w'.cell? ⟨gb108, 5, none⟩ = some (.int .u32 a0_5) := (blk_cell BK108.out 5).trans rfl
                  have hc6_ : w'.cell? ⟨gb108, 6, none⟩ = some (.int .u32 a0_6) := (blk_cell BK108.out 6).trans rfl
                  have hc7_ : w'.cell? ⟨gb108, 7, none⟩ = some (.string a0_7) := (blk_cell BK108.out 7).trans rfl
                  have hc8_ : w'.cell? ⟨gb108, 8, none⟩ = some (.string a0_8) := (blk_cell BK108.out 8).trans rfl
                  refine value_ (w1 := w') (v := .string a0_7) (by rfl) rfl ?_ ?_
                  · go_simp
                    (try simp only [i64_w])
                    try rfl
                  refine hK.out _ _ ⟨v114, v118, v122, (by rw [ha.out]; exact putSel_upk 22 hb_ rfl rfl rfl), Q_HO111, Q_BK108, Q_HB, Q_HO115, Q_HO119, Q_HO123⟩
                refine steps_cons ?_ ?_
                · rintro b a w' ⟨v114, v118, v122, ha, Q_HO111, Q_BK108, Q_HB, Q_HO115, Q_HO119, Q_HO123⟩ hb_ hon hoff
                  refine ⟨_, rfl, fun K hK => ?_⟩
                  have e40 : a.tmps[40]? = some (.string ((((⟨#[80, 75, 3, 4]⟩ : ByteArray) ++ t116) ++ t120) ++ t124)) := by rw [ha]; exact putSel_on (e := (30, 40, .string ((((⟨#[80, 75, 3, 4]⟩ : ByteArray) ++ t116) ++ t120) ++ t124))) 21 rfl rfl (hon 30 (by kernel_rfl)) rfl
                  have e42 : a.tmps[42]? = some (.string a0_7) := by rw [ha]; exact putSel_on (e := (32, 42, .string a0_7)) 22 rfl rfl (hon 32 (by kernel_rfl)) rfl
                  replace ha := Aside0.mk ha
                  have HO111 := Aside0.mk Q_HO111
                  have BK108 := Aside0.mk Q_BK108
                  have HB := Aside0.mk Q_HB
                  have HO115 := Aside0.mk (Q_HO115 (hon 6 (by kernel_rfl)))
                  have HO119 := Aside0.mk (Q_HO119 (hon 17 (by kernel_rfl)))
                  have HO123 := Aside0.mk (Q_HO123 (hon 28 (by kernel_rfl)))
                  refine value_ (w1 := w') (v := .string (((((⟨#[80, 75, 3, 4]⟩ : ByteArray) ++ t116) ++ t120) ++ t124) ++ a0_7)) (by rfl) rfl ?_ ?_
                  · go_simp
                    (try simp only [i64_w])
                    try rfl
                  refine hK.out _ _ ⟨v114, v118, v122, (by rw [ha.out]; exact putSel_upk 23 hb_ rfl rfl rfl), Q_HO111, Q_BK108, Q_HB, Q_HO115, Q_HO119, Q_HO123⟩
                refine steps_cons ?_ ?_
                · rintro b a w' ⟨v114, v118, v122, ha, Q_HO111, Q_BK108, Q_HB, Q_HO115, Q_HO119, Q_HO123⟩ hb_ hon hoff
                  refine ⟨_, rfl, fun K hK => ?_⟩
                  have e44 : a.tmps[44]? = some (.pointer (some ⟨gb108, 8, none⟩)) := by rw [ha]; exact (putSel_off rfl).trans rfl
                  replace ha := Aside0.mk ha
                  have HO111 := Aside0.mk Q_HO111
                  have BK108 := Aside0.mk Q_BK108
                  have HB := Aside0.mk Q_HB
                  have hc0_ : w'.cell? ⟨gb108, 0, none⟩ = some (.int .u16 a0_0) := (blk_cell BK108.out 0).trans rfl
                  have hc1_ : w'.cell? ⟨gb108, 1, none⟩ = some (.int .u16 a0_1) := (blk_cell BK108.out 1).trans rfl
                  have hc2_ : w'.cell? ⟨gb108, 2, none⟩ = some (.int .u16 a0_2) := (blk_cell BK108.out 2).trans rfl
                  have hc3_ : w'.cell? ⟨gb108, 3, none⟩ = some (.int .u32 a0_3) := (blk_cell BK108.out 3).trans rfl
                  have hc4_ : w'.cell? ⟨gb108, 4, none⟩ = some (.int .u32 a0_4) := (blk_cell BK108.out 4).trans rfl
                  have hc5_ : w'.cell? ⟨gb108, 5, none⟩ = some (.int .u32 a0_5) := (blk_cell BK108.out 5).trans rfl
                  have hc6_ : w'.cell? ⟨gb108, 6, none⟩ = some (.int .u32 a0_6) := (blk_cell BK108.out 6).trans rfl
                  have hc7_ : w'.cell? ⟨gb108, 7, none⟩ = some (.string a0_7) := (blk_cell BK108.out 7).trans rfl
                  have hc8_ : w'.cell? ⟨gb108, 8, none⟩ = some (.string a0_8) := (blk_cell BK108.out 8).trans rfl
                  refine value_ (w1 := w') (v := .string a0_8) (by rfl) rfl ?_ ?_
                  · go_simp
                    (try simp only [i64_w])
                    try rfl
                  refine hK.out _ _ ⟨v114, v118, v122, (by rw [ha.out]; exact putSel_upk 24 hb_ rfl rfl rfl), Q_HO111, Q_BK108, Q_HB, Q_HO115, Q_HO119, Q_HO123⟩
                refine steps_cons ?_ ?_
                · rintro b a w' ⟨v114, v118, v122, ha, Q_HO111, Q_BK108, Q_HB, Q_HO115, Q_HO119, Q_HO123⟩ hb_ hon hoff
                  refine ⟨_, rfl, fun K hK => ?_⟩
                  have e43 : a.tmps[43]? = some (.string (((((⟨#[80, 75, 3, 4]⟩ : ByteArray) ++ t116) ++ t120) ++ t124) ++ a0_7)) := by rw [ha]; exact putSel_on (e := (33, 43, .string (((((⟨#[80, 75, 3, 4]⟩ : ByteArray) ++ t116) ++ t120) ++ t124) ++ a0_7))) 23 rfl rfl (hon 33 (by kernel_rfl)) rfl
                  have e45 : a.tmps[45]? = some (.string a0_8) := by rw [ha]; exact putSel_on (e := (35, 45, .string a0_8)) 24 rfl rfl (hon 35 (by kernel_rfl)) rfl
                  replace ha := Aside0.mk ha
                  have HO111 := Aside0.mk Q_HO111
                  have BK108 := Aside0.mk Q_BK108
                  have HB := Aside0.mk Q_HB
                  have HO115 := Aside0.mk (Q_HO115 (hon 6 (by kernel_rfl)))
                  have HO119 := Aside0.mk (Q_HO119 (hon 17 (by kernel_rfl)))
                  have HO123 := Aside0.mk (Q_HO123 (hon 28 (by kernel_rfl)))
                  refine value_ (w1 := w') (v := .string ((((((⟨#[80, 75, 3, 4]⟩ : ByteArray) ++ t116) ++ t120) ++ t124) ++ a0_7) ++ a0_8)) (by rfl) rfl ?_ ?_
                  · go_simp
                    (try simp only [i64_w])
                    try rfl
                  refine hK.out _ _ ⟨v114, v118, v122, (by rw [ha.out]; exact putSel_upk 25 hb_ rfl rfl rfl), Q_HO111, Q_BK108, Q_HB, Q_HO115, Q_HO119, Q_HO123⟩
                refine steps_cons ?_ ?_
                · rintro b a w' ⟨v114, v118, v122, ha, Q_HO111, Q_BK108, Q_HB, Q_HO115, Q_HO119, Q_HO123⟩ hb_ hon hoff
                  refine ⟨_, rfl, fun K hK => ?_⟩
                  have e46 : a.tmps[46]? = some (.string ((((((⟨#[80, 75, 3, 4]⟩ : ByteArray) ++ t116) ++ t120) ++ t124) ++ a0_7) ++ a0_8)) := by rw [ha]; exact putSel_on (e := (36, 46, .string ((((((⟨#[80, 75, 3, 4]⟩ : ByteArray) ++ t116) ++ t120) ++ t124) ++ a0_7) ++ a0_8))) 25 rfl rfl (hon 36 (by kernel_rfl)) rfl
                  replace ha := Aside0.mk ha
                  have HO111 := Aside0.mk Q_HO111
                  have BK108 := Aside0.mk Q_BK108
                  have HB := Aside0.mk Q_HB
                  have HO115 := Aside0.mk (Q_HO115 (hon 6 (by kernel_rfl)))
                  have HO119 := Aside0.mk (Q_HO119 (hon 17 (by kernel_rfl)))
                  have HO123 := Aside0.mk (Q_HO123 (hon 28 (by kernel_rfl)))
                  refine value_ (w1 := w') (v := .string ((((((⟨#[80, 75, 3, 4]⟩ : ByteArray) ++ t116) ++ t120) ++ t124) ++ a0_7) ++ a0_8)) (by rfl) rfl ?_ ?_
                  · go_simp
                    (try simp only [i64_w])
                    try rfl
                  refine hK.out _ _ ⟨v114, v118, v122, (by rw [ha.out]; exact putSel_upk 26 hb_ rfl rfl rfl), Q_HO111, Q_BK108, Q_HB, Q_HO115, Q_HO119, Q_HO123⟩
                refine steps_cons ?_ ?_
                · rintro b a w' ⟨v114, v118, v122, ha, Q_HO111, Q_BK108, Q_HB, Q_HO115, Q_HO119, Q_HO123⟩ hb_ hon hoff
                  refine ⟨_, rfl, fun K hK => ?_⟩
                  replace ha := Aside0.mk ha
                  have HO111 := Aside0.mk Q_HO111
                  have BK108 := Aside0.mk Q_BK108
                  have HB := Aside0.mk Q_HB
                  have HO115 := Aside0.mk (Q_HO115 (hon 6 (by kernel_rfl)))
                  have HO119 := Aside0.mk (Q_HO119 (hon 17 (by kernel_rfl)))
                  have HO123 := Aside0.mk (Q_HO123 (hon 28 (by kernel_rfl)))
                  refine value_ (w1 := w') (v := .int .i64 0) (by rfl) rfl ?_ ?_
                  · go_simp
                    (try simp only [i64_w])
                    try rfl
                  refine hK.out _ _ ⟨v114, v118, v122, (by rw [ha.out]; exact putSel_upk 27 hb_ rfl rfl rfl), Q_HO111, Q_BK108, Q_HB, Q_HO115, Q_HO119, Q_HO123⟩
                exact steps_nil
              rintro b a w35 hall ⟨v114, v118, v122, ha, Q_HO111, Q_BK108, Q_HB, Q_HO115, Q_HO119, Q_HO123⟩
              clear BK108 HB HO111
              have hb1_ := hall 1 (by kernel_rfl)
              have hb3_ := hall 3 (by kernel_rfl)
              have hb5_ := hall 5 (by kernel_rfl)
              have hb6_ := hall 6 (by kernel_rfl)
              have hb7_ := hall 7 (by kernel_rfl)
              have hb8_ := hall 8 (by kernel_rfl)
              have hb10_ := hall 10 (by kernel_rfl)
              have hb12_ := hall 12 (by kernel_rfl)
              have hb14_ := hall 14 (by kernel_rfl)
              have hb16_ := hall 16 (by kernel_rfl)
              have hb17_ := hall 17 (by kernel_rfl)
              have hb18_ := hall 18 (by kernel_rfl)
              have hb19_ := hall 19 (by kernel_rfl)
              have hb21_ := hall 21 (by kernel_rfl)
              have hb22_ := hall 22 (by kernel_rfl)
              have hb23_ := hall 23 (by kernel_rfl)
              have hb25_ := hall 25 (by kernel_rfl)
              have hb26_ := hall 26 (by kernel_rfl)
              have hb27_ := hall 27 (by kernel_rfl)
              have hb28_ := hall 28 (by kernel_rfl)
              have hb29_ := hall 29 (by kernel_rfl)
              have hb30_ := hall 30 (by kernel_rfl)
              have hb32_ := hall 32 (by kernel_rfl)
              have hb33_ := hall 33 (by kernel_rfl)
              have hb35_ := hall 35 (by kernel_rfl)
              have hb36_ := hall 36 (by kernel_rfl)
              have hb37_ := hall 37 (by kernel_rfl)
              have hb38_ := hall 38 (by kernel_rfl)
              subst ha
              simp only [putSel, hb1_, hb3_, hb5_, hb6_, hb7_, hb8_, hb10_, hb12_, hb14_, hb16_, hb17_, hb18_, hb19_, hb21_, hb22_, hb23_, hb25_, hb26_, hb27_, hb28_, hb29_, hb30_, hb32_, hb33_, hb35_, hb36_, hb37_, hb38_, if_true, Act.put, List.setIfInBounds_toArray, List.set_cons_zero, List.set_cons_succ]
              have HO111 := Aside0.mk Q_HO111
              clear Q_HO111
              have BK108 := Aside0.mk Q_BK108
              clear Q_BK108
              have HB := Aside0.mk Q_HB
              clear Q_HB
              have HO115 := Aside0.mk (Q_HO115 hb6_)
              clear Q_HO115
              have HO119 := Aside0.mk (Q_HO119 hb17_)
              clear Q_HO119
              have HO123 := Aside0.mk (Q_HO123 hb28_)
              clear Q_HO123
              clear hall hb1_ hb3_ hb5_ hb6_ hb7_ hb8_ hb10_ hb12_ hb14_ hb16_ hb17_ hb18_ hb19_ hb21_ hb22_ hb23_ hb25_ hb26_ hb27_ hb28_ hb29_ hb30_ hb32_ hb33_ hb35_ hb36_ hb37_ hb38_
              try go_wp2
              go_ret2
              exact ⟨by first | rfl | (simp [errW_none, errW_some] <;> rfl) | (simp [*, errW_none, errW_some] <;> rfl), by repeat (first | (with_reducible first | exact HB.out | apply below_alloc | apply pw_below_drewN | apply below_drew1 | refine below_set ?_ GE108.out) | exact HB.out)⟩
            · rw [if_neg c16] at H
              exact absurd H (by simp)
          · rw [if_neg c15] at H
            exact absurd H (by simp)
        · rw [if_neg c14] at H
          exact absurd H (by simp)
      · rw [if_neg c12] at H
        exact absurd H (by simp)
    · rw [if_neg c10] at H
      exact absurd H (by simp)
end Go.Proofs.Ytnjfddmajiihjaa.P
