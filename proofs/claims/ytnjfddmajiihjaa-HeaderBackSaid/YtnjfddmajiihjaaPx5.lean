import Derived.Test.YtnjfddmajiihjaaPx0
import Derived.Test.YtnjfddmajiihjaaPx1
import Derived.Test.YtnjfddmajiihjaaMg2
import Derived.Test.YtnjfddmajiihjaaMg3
namespace Go.Proofs.Ytnjfddmajiihjaa.P
open Go.RowKit Go.Proofs.YtnjfddmajiihjaaW.PrintWords Go.Proofs.YtnjfddmajiihjaaW.PrintLast Go.Proofs.YtnjfddmajiihjaaW.PrintMore
attribute [local go_sem] max2_int min2_int max_two min_two max_three min_three max_four min_four
attribute [local go_sem] Go.Proofs.Ytnjfddmajiihjaa.Mx.max_five Go.Proofs.Ytnjfddmajiihjaa.Mx.max_six Go.Proofs.Ytnjfddmajiihjaa.Mx.max_seven
set_option linter.unusedVariables false
set_option linter.unusedSimpArgs false
def header_PrintCentral.f (k : Nat) (a0_0 : Int) (a0_1 : Int) (a0_2 : Int) (a0_3 : Int) (a0_4 : Int) (a0_5 : Int) (a0_6 : Int) (a0_7 : Int) (a0_8 : Int) (a0_9 : Int) (a0_10 : Int) (a0_11 : Int) (a0_12 : ByteArray) (a0_13 : ByteArray) (a0_14 : ByteArray) : Option (ByteArray × Int) := (header_long.f k (([a0_12, a0_13, a0_14] : List ByteArray))).bind fun t129 => (if t129 = true then (some ((⟨#[]⟩ : ByteArray), 5)) else ((header_twos.f (([a0_0, a0_1, a0_2, a0_3] : List Int))).bind fun t133 => (if 4 + t133.size ≤ 9223372036854775807 then ((header_fours.f (([a0_4, a0_5, a0_6, a0_7] : List Int))).bind fun t137 => (if 4 + t133.size + t137.size ≤ 9223372036854775807 then ((header_twos.f (([IntKind.u16.wrap ((a0_12.size : Int)), IntKind.u16.wrap ((a0_13.size : Int)), IntKind.u16.wrap ((a0_14.size : Int)), a0_8, a0_9] : List Int))).bind fun t141 => (if 4 + t133.size + t137.size + t141.size ≤ 9223372036854775807 then ((header_fours.f (([a0_10, a0_11] : List Int))).bind fun t145 => (if 4 + t133.size + t137.size + t141.size + t145.size ≤ 9223372036854775807 then (if 4 + t133.size + t137.size + t141.size + t145.size + a0_12.size ≤ 9223372036854775807 then (if 4 + t133.size + t137.size + t141.size + t145.size + a0_12.size + a0_13.size ≤ 9223372036854775807 then (if 4 + t133.size + t137.size + t141.size + t145.size + a0_12.size + a0_13.size + a0_14.size ≤ 9223372036854775807 then (some ((((((((⟨#[80, 75, 1, 2]⟩ : ByteArray) ++ t133) ++ t137) ++ t141) ++ t145) ++ a0_12) ++ a0_13) ++ a0_14, 0)) else (none)) else (none)) else (none)) else (none))) else (none))) else (none))) else (none))))
def header_PrintCentral.T3 : Bool × List (List Nat × List Nat) := (true, [([], []), ([0], [0]), ([], []), ([2], [2]), ([], []), ([4], [4]), ([], []), ([6], [6]), ([1, 3, 5, 7], [1, 3, 5, 7]), ([8], [8]), ([9], [9]), ([], []), ([11], [11]), ([], []), ([13], [13]), ([], []), ([15], [15]), ([], []), ([17], [17]), ([12, 14, 16, 18], [12, 14, 16, 18]), ([19, 9], [19]), ([10, 20], [10, 20]), ([], []), ([22], [22]), ([23], [23]), ([24], [24]), ([], []), ([26], [26]), ([27], [27]), ([28], [28]), ([], []), ([30], [30]), ([31], [31]), ([32], [32]), ([], []), ([34], [34]), ([], []), ([36], [36]), ([25, 29, 33, 35, 37], [25, 29, 33, 35, 37]), ([38, 20], [38]), ([21, 39], [21, 39]), ([], []), ([41], [41]), ([], []), ([43], [43]), ([42, 44], [42, 44]), ([45, 39], [45]), ([40, 46], [40, 46]), ([], []), ([48], [48]), ([47, 49], [47, 49]), ([], []), ([51], [51]), ([50, 52], [50, 52]), ([], []), ([54], [54]), ([53, 55], [53, 55]), ([56, 46, 0, 1, 2, 3, 4, 5, 6, 7, 8, 9, 10, 11, 12, 13, 14, 15, 16, 17, 18, 19, 20, 21, 22, 23, 24, 25, 26, 27, 28, 29, 30, 31, 32, 33, 34, 35, 36, 37, 38, 39, 40, 41, 42, 43, 44, 45, 46, 47, 48, 49, 50, 51, 52, 53, 54, 55, 56], [56]), ([57, 0, 1, 2, 3, 4, 5, 6, 7, 8, 9, 10, 11, 12, 13, 14, 15, 16, 17, 18, 19, 20, 21, 22, 23, 24, 25, 26, 27, 28, 29, 30, 31, 32, 33, 34, 35, 36, 37, 38, 39, 40, 41, 42, 43, 44, 45, 46, 47, 48, 49, 50, 51, 52, 53, 54, 55, 56, 57], [])])
def header_PrintCentral.B3 : List Nat := [0, 1, 0, 4, 0, 16, 0, 64, 255, 511, 1023, 0, 2048, 0, 8192, 0, 32768, 0, 131072, 522240, 1047551, 2097151, 0, 4194304, 12582912, 29360128, 0, 67108864, 201326592, 469762048, 0, 1073741824, 3221225472, 7516192768, 0, 17179869184, 0, 68719476736, 274873712640, 549753715711, 1099511627775, 0, 2199023255552, 0, 8796093022208, 32985348833280, 69269230451711, 140737488355327, 0, 281474976710656, 1125899906842623, 0, 2251799813685248, 9007199254740991, 0, 18014398509481984, 72057594037927935, 144115188075855871, 288230376151711743]
theorem header_PrintCentral.tab3 : rtab .any (opsOf Try.f8 3) = header_PrintCentral.T3 := by kernel_rfl
theorem header_PrintCentral.bits3 : waitsOk header_PrintCentral.T3.2 header_PrintCentral.B3 = true := by kernel_rfl
set_option maxHeartbeats 8000000 in
set_option maxRecDepth 100000 in
theorem header_PrintCentral.calls (k : Nat) (a0_0 : Int) (a0_1 : Int) (a0_2 : Int) (a0_3 : Int) (a0_4 : Int) (a0_5 : Int) (a0_6 : Int) (a0_7 : Int) (a0_8 : Int) (a0_9 : Int) (a0_10 : Int) (a0_11 : Int) (a0_12 : ByteArray) (a0_13 : ByteArray) (a0_14 : ByteArray) (r1 : ByteArray) (r2 : Int) (w : World) (h : header_PrintCentral.f k a0_0 a0_1 a0_2 a0_3 a0_4 a0_5 a0_6 a0_7 a0_8 a0_9 a0_10 a0_11 a0_12 a0_13 a0_14 = some (r1, r2)) :
    Calls Try.prog 8 #[.agg #[.int .u16 a0_0, .int .u16 a0_1, .int .u16 a0_2, .int .u16 a0_3, .int .u32 a0_4, .int .u32 a0_5, .int .u32 a0_6, .int .u32 a0_7, .int .u16 a0_8, .int .u16 a0_9, .int .u32 a0_10, .int .u32 a0_11, .string a0_12, .string a0_13, .string a0_14]] w fun e w' => e = .returned (.tuple #[.string r1, .int .i64 r2]) ∧ Below w.heap.size w w' := by
  have hu27 := Try.underlying27
  have HB := Aside0.mk (Below.refl w.heap.size w)
  have H : ((header_long.f k (([a0_12, a0_13, a0_14] : List ByteArray))).bind fun t129 => (if t129 = true then (some ((⟨#[]⟩ : ByteArray), 5)) else ((header_twos.f (([a0_0, a0_1, a0_2, a0_3] : List Int))).bind fun t133 => (if 4 + t133.size ≤ 9223372036854775807 then ((header_fours.f (([a0_4, a0_5, a0_6, a0_7] : List Int))).bind fun t137 => (if 4 + t133.size + t137.size ≤ 9223372036854775807 then ((header_twos.f (([IntKind.u16.wrap ((a0_12.size : Int)), IntKind.u16.wrap ((a0_13.size : Int)), IntKind.u16.wrap ((a0_14.size : Int)), a0_8, a0_9] : List Int))).bind fun t141 => (if 4 + t133.size + t137.size + t141.size ≤ 9223372036854775807 then ((header_fours.f (([a0_10, a0_11] : List Int))).bind fun t145 => (if 4 + t133.size + t137.size + t141.size + t145.size ≤ 9223372036854775807 then (if 4 + t133.size + t137.size + t141.size + t145.size + a0_12.size ≤ 9223372036854775807 then (if 4 + t133.size + t137.size + t141.size + t145.size + a0_12.size + a0_13.size ≤ 9223372036854775807 then (if 4 + t133.size + t137.size + t141.size + t145.size + a0_12.size + a0_13.size + a0_14.size ≤ 9223372036854775807 then (some ((((((((⟨#[80, 75, 1, 2]⟩ : ByteArray) ++ t133) ++ t137) ++ t141) ++ t145) ++ a0_12) ++ a0_13) ++ a0_14, 0)) else (none)) else (none)) else (none)) else (none))) else (none))) else (none))) else (none))))) = some (r1, r2) := h
  clear h
  obtain ⟨y126, hy126⟩ : ∃ y_ : List ByteArray, y_ = (([a0_12, a0_13, a0_14] : List ByteArray)) := ⟨_, rfl⟩
  replace H : ((header_long.f k y126).bind fun t129 => (if t129 = true then (some ((⟨#[]⟩ : ByteArray), 5)) else ((header_twos.f (([a0_0, a0_1, a0_2, a0_3] : List Int))).bind fun t133 => (if 4 + t133.size ≤ 9223372036854775807 then ((header_fours.f (([a0_4, a0_5, a0_6, a0_7] : List Int))).bind fun t137 => (if 4 + t133.size + t137.size ≤ 9223372036854775807 then ((header_twos.f (([IntKind.u16.wrap ((a0_12.size : Int)), IntKind.u16.wrap ((a0_13.size : Int)), IntKind.u16.wrap ((a0_14.size : Int)), a0_8, a0_9] : List Int))).bind fun t141 => (if 4 + t133.size + t137.size + t141.size ≤ 9223372036854775807 then ((header_fours.f (([a0_10, a0_11] : List Int))).bind fun t145 => (if 4 + t133.size + t137.size + t141.size + t145.size ≤ 9223372036854775807 then (if 4 + t133.size + t137.size + t141.size + t145.size + a0_12.size ≤ 9223372036854775807 then (if 4 + t133.size + t137.size + t141.size + t145.size + a0_12.size + a0_13.size ≤ 9223372036854775807 then (if 4 + t133.size + t137.size + t141.size + t145.size + a0_12.size + a0_13.size + a0_14.size ≤ 9223372036854775807 then (some ((((((((⟨#[80, 75, 1, 2]⟩ : ByteArray) ++ t133) ++ t137) ++ t141) ++ t145) ++ a0_12) ++ a0_13) ++ a0_14, 0)) else (none)) else (none)) else (none)) else (none))) else (none))) else (none))) else (none))))) = some (r1, r2) := by first | (rw [hy126]; with_reducible exact H) | (have H2_ := (Option.bind_some _ _).symm.trans H; rw [hy126]; with_reducible exact H2_) | (have H2_ := (Option.bind_some _ _).symm.trans H; with_reducible exact H2_) | with_reducible exact H | (rw [hy126]; exact H) | exact H
  have Ny126 := Aside0.mk hy126
  clear hy126
  replace H := Option.bind_eq_some_iff.mp H
  obtain ⟨t129, A20, H⟩ := H
  replace H : (if t129 = true then (some ((⟨#[]⟩ : ByteArray), 5)) else ((header_twos.f (([a0_0, a0_1, a0_2, a0_3] : List Int))).bind fun t133 => (if 4 + t133.size ≤ 9223372036854775807 then ((header_fours.f (([a0_4, a0_5, a0_6, a0_7] : List Int))).bind fun t137 => (if 4 + t133.size + t137.size ≤ 9223372036854775807 then ((header_twos.f (([IntKind.u16.wrap ((a0_12.size : Int)), IntKind.u16.wrap ((a0_13.size : Int)), IntKind.u16.wrap ((a0_14.size : Int)), a0_8, a0_9] : List Int))).bind fun t141 => (if 4 + t133.size + t137.size + t141.size ≤ 9223372036854775807 then ((header_fours.f (([a0_10, a0_11] : List Int))).bind fun t145 => (if 4 + t133.size + t137.size + t141.size + t145.size ≤ 9223372036854775807 then (if 4 + t133.size + t137.size + t141.size + t145.size + a0_12.size ≤ 9223372036854775807 then (if 4 + t133.size + t137.size + t141.size + t145.size + a0_12.size + a0_13.size ≤ 9223372036854775807 then (if 4 + t133.size + t137.size + t141.size + t145.size + a0_12.size + a0_13.size + a0_14.size ≤ 9223372036854775807 then (some ((((((((⟨#[80, 75, 1, 2]⟩ : ByteArray) ++ t133) ++ t137) ++ t141) ++ t145) ++ a0_12) ++ a0_13) ++ a0_14, 0)) else (none)) else (none)) else (none)) else (none))) else (none))) else (none))) else (none)))) = some (r1, r2) := H
  have A2 := Aside0.mk A20
  clear A20
  by_cases c3 : t129 = true
  · subst c3
    have H1 : (some ((⟨#[]⟩ : ByteArray), 5)) = some (r1, r2) := by rw [if_pos rfl] at H; exact H
    clear H
    have H := H1
    clear H1
    simp only [Option.some.injEq, Prod.mk.injEq] at H
    obtain ⟨rfl, rfl⟩ := H
    go_enter Try.func8, Try.ntmps8
    go_wp2_with (first | ((with_reducible refine gate_dst (N := 1) rfl ?_); refine box_event ?hg (N := 1) ?hd (cs := #[.int .u16 a0_0, .int .u16 a0_1, .int .u16 a0_2, .int .u16 a0_3, .int .u32 a0_4, .int .u32 a0_5, .int .u32 a0_6, .int .u32 a0_7, .int .u16 a0_8, .int .u16 a0_9, .int .u32 a0_10, .int .u32 a0_11, .string a0_12, .string a0_13, .string a0_14]) (t := 27) ?hr ?_; (case hd => rfl); (case hg => rfl); (case hr => first | (go_simp; done) | (go_simp; rfl)); intro gb125 hg w4 hbox hb; have n0_ := Aside0.mk (below_step (by repeat (first | (with_reducible first | exact HB.out | apply below_alloc | apply pw_below_drewN | apply below_drew1) | exact HB.out)) hb); have n1_ := Aside0.mk (hbox); have n2_ := Aside0.mk ((by rw [hg]; exact (below_size (by repeat (first | (with_reducible first | exact HB.out | apply below_alloc | apply pw_below_drewN | apply below_drew1) | exact HB.out))) : w.heap.size ≤ gb125)); have n3_ := Aside0.mk ((by rw [hg]; exact (below_size (by repeat (first | (with_reducible first | exact HB.out | apply below_alloc | apply pw_below_drewN | apply below_drew1) | exact HB.out))) : w.heap.size ≤ gb125)); clear HB; have HB := n0_; have BK125 := n1_; have GW125 := n2_; have GE125 := n3_; clear n0_ n1_ n2_ n3_; clear hb hbox hg; have hcz5_0 : w4.cell? ⟨gb125, 0, none⟩ = some (.int .u16 a0_0) := (blk_cell BK125.out 0).trans rfl; have hcz5_1 : w4.cell? ⟨gb125, 1, none⟩ = some (.int .u16 a0_1) := (blk_cell BK125.out 1).trans rfl; have hcz5_2 : w4.cell? ⟨gb125, 2, none⟩ = some (.int .u16 a0_2) := (blk_cell BK125.out 2).trans rfl; have hcz5_3 : w4.cell? ⟨gb125, 3, none⟩ = some (.int .u16 a0_3) := (blk_cell BK125.out 3).trans rfl; have hcz5_4 : w4.cell? ⟨gb125, 4, none⟩ = some (.int .u32 a0_4) := (blk_cell BK125.out 4).trans rfl; have hcz5_5 : w4.cell? ⟨gb125, 5, none⟩ = some (.int .u32 a0_5) := (blk_cell BK125.out 5).trans rfl; have hcz5_6 : w4.cell? ⟨gb125, 6, none⟩ = some (.int .u32 a0_6) := (blk_cell BK125.out 6).trans rfl; have hcz5_7 : w4.cell? ⟨gb125, 7, none⟩ = some (.int .u32 a0_7) := (blk_cell BK125.out 7).trans rfl; have hcz5_8 : w4.cell? ⟨gb125, 8, none⟩ = some (.int .u16 a0_8) := (blk_cell BK125.out 8).trans rfl; have hcz5_9 : w4.cell? ⟨gb125, 9, none⟩ = some (.int .u16 a0_9) := (blk_cell BK125.out 9).trans rfl; have hcz5_10 : w4.cell? ⟨gb125, 10, none⟩ = some (.int .u32 a0_10) := (blk_cell BK125.out 10).trans rfl; have hcz5_11 : w4.cell? ⟨gb125, 11, none⟩ = some (.int .u32 a0_11) := (blk_cell BK125.out 11).trans rfl; have hcz5_12 : w4.cell? ⟨gb125, 12, none⟩ = some (.string a0_12) := (blk_cell BK125.out 12).trans rfl; have hcz5_13 : w4.cell? ⟨gb125, 13, none⟩ = some (.string a0_13) := (blk_cell BK125.out 13).trans rfl; have hcz5_14 : w4.cell? ⟨gb125, 14, none⟩ = some (.string a0_14) := (blk_cell BK125.out 14).trans rfl; have hfz5_0 := blk_frozen BK125.out 0; have hfz5_1 := blk_frozen BK125.out 1; have hfz5_2 := blk_frozen BK125.out 2; have hfz5_3 := blk_frozen BK125.out 3; have hfz5_4 := blk_frozen BK125.out 4; have hfz5_5 := blk_frozen BK125.out 5; have hfz5_6 := blk_frozen BK125.out 6; have hfz5_7 := blk_frozen BK125.out 7; have hfz5_8 := blk_frozen BK125.out 8; have hfz5_9 := blk_frozen BK125.out 9; have hfz5_10 := blk_frozen BK125.out 10; have hfz5_11 := blk_frozen BK125.out 11; have hfz5_12 := blk_frozen BK125.out 12; have hfz5_13 := blk_frozen BK125.out 13; have hfz5_14 := blk_frozen BK125.out 14) | ((with_reducible refine gate_dst (N := 10) rfl ?_); refine Kd.R_lit Kd.string _ 9 ?hg (N := 10) ?hd (xs := ([a0_12, a0_13, a0_14] : List ByteArray)) (inner := [.string a0_12, .string a0_13, .string a0_14]) (ok := fun _ => True) (okp := fun _ => True) ?hr ?hp (fun _ hk => hk) trivial (Below.refl _ _) (Nat.le_refl _) (by simp) ?_; (case hd => rfl); (case hg => rfl); (case hr => first | (go_simp; done) | (go_simp; rfl)); (case hp => exact (Reps.one (show Kd.M Kd.string _ _ _ a0_12 [.string a0_12] from rfl) (Reps.one (show Kd.M Kd.string _ _ _ a0_13 [.string a0_13] from rfl) (Reps.one (show Kd.M Kd.string _ _ _ a0_14 [.string a0_14] from rfl) (Reps.none _ _))))); intro v127 w6 ho7 hb hg_ hnew_; clear hg_ hnew_; (first | rw [← Ny126.out] at ho7 | (simp only [Int.reduceToNat] at ho7; rw [← Ny126.out] at ho7)); have n0_ := Aside0.mk (Kd.R_lower ho7 (below_size (by repeat (first | (with_reducible first | exact HB.out | apply below_alloc | apply pw_below_drewN | apply below_drew1 | refine below_set ?_ GE125.out) | exact HB.out)))); have n1_ := Aside0.mk (blk_below (g := gb125) (o := .cells #[.int .u16 a0_0, .int .u16 a0_1, .int .u16 a0_2, .int .u16 a0_3, .int .u32 a0_4, .int .u32 a0_5, .int .u32 a0_6, .int .u32 a0_7, .int .u16 a0_8, .int .u16 a0_9, .int .u32 a0_10, .int .u32 a0_11, .string a0_12, .string a0_13, .string a0_14] 27 (0, 0)) (by (with_reducible repeat (first | refine blk_drewN ?_ _ | refine blk_drew ?_ | refine blk_alloc ?_ _)); exact BK125.out) hb); have n2_ := Aside0.mk (below_step (by repeat (first | (with_reducible first | exact HB.out | apply below_alloc | apply pw_below_drewN | apply below_drew1 | refine below_set ?_ GE125.out) | exact HB.out)) hb); clear BK125; clear HB; have HO128 := n0_; have BK125 := n1_; have HB := n2_; clear n0_ n1_ n2_; clear hb ho7; obtain ⟨Ao8, co8, eo8⟩ := Kd.R_slice HO128.out; subst eo8) | ((with_reducible refine gate_callee (f := 22) rfl ?_); refine goesL_ (some 11) rfl rfl Try.func22 (by kernel_rfl) rfl #[.slice Ao8 y126.length co8] rfl (by (try simp only [List.map_toArray, List.map_cons, List.map_nil]); first | done | rfl | (simp only [List.length_drop, List.length_take]; rfl)) ?_; (with_reducible refine (header_long.calls k _ _ y126 true _ ?side1 ?side2 A2.out).mono ?_); (case side1 => repeat (first | exact (Kd.R_reads' HO128.out).2.2 | (with_reducible refine Kd.C_alloc ?_ _) | (with_reducible refine Kd.C_drewN ?_ _) | (with_reducible refine Kd.C_drew ?_))); (case side2 => exact (Kd.R_reads' HO128.out).2.1); rintro e w' ⟨rfl, ⟨nd, rfl⟩⟩; refine ⟨_, rfl, ?_⟩))
    go_ret2
    exact ⟨by first | rfl | (simp [errW_none, errW_some] <;> rfl) | (simp [*, errW_none, errW_some] <;> rfl), by repeat (first | (with_reducible first | exact HB.out | apply below_alloc | apply pw_below_drewN | apply below_drew1 | refine below_set ?_ GE125.out) | exact HB.out)⟩
  · replace c3 := Bool.eq_false_iff.mpr c3
    subst c3
    have H1 : ((header_twos.f (([a0_0, a0_1, a0_2, a0_3] : List Int))).bind fun t133 => (if 4 + t133.size ≤ 9223372036854775807 then ((header_fours.f (([a0_4, a0_5, a0_6, a0_7] : List Int))).bind fun t137 => (if 4 + t133.size + t137.size ≤ 9223372036854775807 then ((header_twos.f (([IntKind.u16.wrap ((a0_12.size : Int)), IntKind.u16.wrap ((a0_13.size : Int)), IntKind.u16.wrap ((a0_14.size : Int)), a0_8, a0_9] : List Int))).bind fun t141 => (if 4 + t133.size + t137.size + t141.size ≤ 9223372036854775807 then ((header_fours.f (([a0_10, a0_11] : List Int))).bind fun t145 => (if 4 + t133.size + t137.size + t141.size + t145.size ≤ 9223372036854775807 then (if 4 + t133.size + t137.size + t141.size + t145.size + a0_12.size ≤ 9223372036854775807 then (if 4 + t133.size + t137.size + t141.size + t145.size + a0_12.size + a0_13.size ≤ 9223372036854775807 then (if 4 + t133.size + t137.size + t141.size + t145.size + a0_12.size + a0_13.size + a0_14.size ≤ 9223372036854775807 then (some ((((((((⟨#[80, 75, 1, 2]⟩ : ByteArray) ++ t133) ++ t137) ++ t141) ++ t145) ++ a0_12) ++ a0_13) ++ a0_14, 0)) else (none)) else (none)) else (none)) else (none))) else (none))) else (none))) else (none))) = some (r1, r2) := by rw [if_neg (show ¬ (false = true) by decide)] at H; exact H
    clear H
    have H := H1
    clear H1
    obtain ⟨y130, hy130⟩ : ∃ y_ : List Int, y_ = (([a0_0, a0_1, a0_2, a0_3] : List Int)) := ⟨_, rfl⟩
    replace H : ((header_twos.f y130).bind fun t133 => (if 4 + t133.size ≤ 9223372036854775807 then ((header_fours.f (([a0_4, a0_5, a0_6, a0_7] : List Int))).bind fun t137 => (if 4 + t133.size + t137.size ≤ 9223372036854775807 then ((header_twos.f (([IntKind.u16.wrap ((a0_12.size : Int)), IntKind.u16.wrap ((a0_13.size : Int)), IntKind.u16.wrap ((a0_14.size : Int)), a0_8, a0_9] : List Int))).bind fun t141 => (if 4 + t133.size + t137.size + t141.size ≤ 9223372036854775807 then ((header_fours.f (([a0_10, a0_11] : List Int))).bind fun t145 => (if 4 + t133.size + t137.size + t141.size + t145.size ≤ 9223372036854775807 then (if 4 + t133.size + t137.size + t141.size + t145.size + a0_12.size ≤ 9223372036854775807 then (if 4 + t133.size + t137.size + t141.size + t145.size + a0_12.size + a0_13.size ≤ 9223372036854775807 then (if 4 + t133.size + t137.size + t141.size + t145.size + a0_12.size + a0_13.size + a0_14.size ≤ 9223372036854775807 then (some ((((((((⟨#[80, 75, 1, 2]⟩ : ByteArray) ++ t133) ++ t137) ++ t141) ++ t145) ++ a0_12) ++ a0_13) ++ a0_14, 0)) else (none)) else (none)) else (none)) else (none))) else (none))) else (none))) else (none))) = some (r1, r2) := by first | (rw [hy130]; with_reducible exact H) | (have H2_ := (Option.bind_some _ _).symm.trans H; rw [hy130]; with_reducible exact H2_) | (have H2_ := (Option.bind_some _ _).symm.trans H; with_reducible exact H2_) | with_reducible exact H | (rw [hy130]; exact H) | exact H
    have Ny130 := Aside0.mk hy130
    clear hy130
    replace H := Option.bind_eq_some_iff.mp H
    obtain ⟨t133, A90, H⟩ := H
    replace H : (if 4 + t133.size ≤ 9223372036854775807 then ((header_fours.f (([a0_4, a0_5, a0_6, a0_7] : List Int))).bind fun t137 => (if 4 + t133.size + t137.size ≤ 9223372036854775807 then ((header_twos.f (([IntKind.u16.wrap ((a0_12.size : Int)), IntKind.u16.wrap ((a0_13.size : Int)), IntKind.u16.wrap ((a0_14.size : Int)), a0_8, a0_9] : List Int))).bind fun t141 => (if 4 + t133.size + t137.size + t141.size ≤ 9223372036854775807 then ((header_fours.f (([a0_10, a0_11] : List Int))).bind fun t145 => (if 4 + t133.size + t137.size + t141.size + t145.size ≤ 9223372036854775807 then (if 4 + t133.size + t137.size + t141.size + t145.size + a0_12.size ≤ 9223372036854775807 then (if 4 + t133.size + t137.size + t141.size + t145.size + a0_12.size + a0_13.size ≤ 9223372036854775807 then (if 4 + t133.size + t137.size + t141.size + t145.size + a0_12.size + a0_13.size + a0_14.size ≤ 9223372036854775807 then (some ((((((((⟨#[80, 75, 1, 2]⟩ : ByteArray) ++ t133) ++ t137) ++ t141) ++ t145) ++ a0_12) ++ a0_13) ++ a0_14, 0)) else (none)) else (none)) else (none)) else (none))) else (none))) else (none))) else (none)) = some (r1, r2) := H
    have A9 := Aside0.mk A90
    clear A90
    by_cases c10 : 4 + t133.size ≤ 9223372036854775807
    · rw [if_pos c10] at H
      have c10b0 := eq_true c10
      have c10b1 : decide (4 + t133.size ≤ 9223372036854775807) = true := decide_eq_true c10
      try have c10b2 : (9223372036854775807 < 4 + t133.size) = False := eq_false (Nat.not_lt.2 c10)
      obtain ⟨y134, hy134⟩ : ∃ y_ : List Int, y_ = (([a0_4, a0_5, a0_6, a0_7] : List Int)) := ⟨_, rfl⟩
      replace H : ((header_fours.f y134).bind fun t137 => (if 4 + t133.size + t137.size ≤ 9223372036854775807 then ((header_twos.f (([IntKind.u16.wrap ((a0_12.size : Int)), IntKind.u16.wrap ((a0_13.size : Int)), IntKind.u16.wrap ((a0_14.size : Int)), a0_8, a0_9] : List Int))).bind fun t141 => (if 4 + t133.size + t137.size + t141.size ≤ 9223372036854775807 then ((header_fours.f (([a0_10, a0_11] : List Int))).bind fun t145 => (if 4 + t133.size + t137.size + t141.size + t145.size ≤ 9223372036854775807 then (if 4 + t133.size + t137.size + t141.size + t145.size + a0_12.size ≤ 9223372036854775807 then (if 4 + t133.size + t137.size + t141.size + t145.size + a0_12.size + a0_13.size ≤ 9223372036854775807 then (if 4 + t133.size + t137.size + t141.size + t145.size + a0_12.size + a0_13.size + a0_14.size ≤ 9223372036854775807 then (some ((((((((⟨#[80, 75, 1, 2]⟩ : ByteArray) ++ t133) ++ t137) ++ t141) ++ t145) ++ a0_12) ++ a0_13) ++ a0_14, 0)) else (none)) else (none)) else (none)) else (none))) else (none))) else (none))) = some (r1, r2) := by first | (rw [hy134]; with_reducible exact H) | (have H2_ := (Option.bind_some _ _).symm.trans H; rw [hy134]; with_reducible exact H2_) | (have H2_ := (Option.bind_some _ _).symm.trans H; with_reducible exact H2_) | with_reducible exact H | (rw [hy134]; exact H) | exact H
      have Ny134 := Aside0.mk hy134
      clear hy134
      replace H := Option.bind_eq_some_iff.mp H
      obtain ⟨t137, A110, H⟩ := H
      replace H : (if 4 + t133.size + t137.size ≤ 9223372036854775807 then ((header_twos.f (([IntKind.u16.wrap ((a0_12.size : Int)), IntKind.u16.wrap ((a0_13.size : Int)), IntKind.u16.wrap ((a0_14.size : Int)), a0_8, a0_9] : List Int))).bind fun t141 => (if 4 + t133.size + t137.size + t141.size ≤ 9223372036854775807 then ((header_fours.f (([a0_10, a0_11] : List Int))).bind fun t145 => (if 4 + t133.size + t137.size + t141.size + t145.size ≤ 9223372036854775807 then (if 4 + t133.size + t137.size + t141.size + t145.size + a0_12.size ≤ 9223372036854775807 then (if 4 + t133.size + t137.size + t141.size + t145.size + a0_12.size + a0_13.size ≤ 9223372036854775807 then (if 4 + t133.size + t137.size + t141.size + t145.size + a0_12.size + a0_13.size + a0_14.size ≤ 9223372036854775807 then (some ((((((((⟨#[80, 75, 1, 2]⟩ : ByteArray) ++ t133) ++ t137) ++ t141) ++ t145) ++ a0_12) ++ a0_13) ++ a0_14, 0)) else (none)) else (none)) else (none)) else (none))) else (none))) else (none)) = some (r1, r2) := H
      have A11 := Aside0.mk A110
      clear A110
      by_cases c12 : 4 + t133.size + t137.size ≤ 9223372036854775807
      · rw [if_pos c12] at H
        have c12b0 := eq_true c12
        have c12b1 : decide (4 + t133.size + t137.size ≤ 9223372036854775807) = true := decide_eq_true c12
        try have c12b2 : (9223372036854775807 < 4 + t133.size + t137.size) = False := eq_false (Nat.not_lt.2 c12)
        obtain ⟨y138, hy138⟩ : ∃ y_ : List Int, y_ = (([IntKind.u16.wrap ((a0_12.size : Int)), IntKind.u16.wrap ((a0_13.size : Int)), IntKind.u16.wrap ((a0_14.size : Int)), a0_8, a0_9] : List Int)) := ⟨_, rfl⟩
        replace H : ((header_twos.f y138).bind fun t141 => (if 4 + t133.size + t137.size + t141.size ≤ 9223372036854775807 then ((header_fours.f (([a0_10, a0_11] : List Int))).bind fun t145 => (if 4 + t133.size + t137.size + t141.size + t145.size ≤ 9223372036854775807 then (if 4 + t133.size + t137.size + t141.size + t145.size + a0_12.size ≤ 9223372036854775807 then (if 4 + t133.size + t137.size + t141.size + t145.size + a0_12.size + a0_13.size ≤ 9223372036854775807 then (if 4 + t133.size + t137.size + t141.size + t145.size + a0_12.size + a0_13.size + a0_14.size ≤ 9223372036854775807 then (some ((((((((⟨#[80, 75, 1, 2]⟩ : ByteArray) ++ t133) ++ t137) ++ t141) ++ t145) ++ a0_12) ++ a0_13) ++ a0_14, 0)) else (none)) else (none)) else (none)) else (none))) else (none))) = some (r1, r2) := by first | (rw [hy138]; with_reducible exact H) | (have H2_ := (Option.bind_some _ _).symm.trans H; rw [hy138]; with_reducible exact H2_) | (have H2_ := (Option.bind_some _ _).symm.trans H; with_reducible exact H2_) | with_reducible exact H | (rw [hy138]; exact H) | exact H
        have Ny138 := Aside0.mk hy138
        clear hy138
        replace H := Option.bind_eq_some_iff.mp H
        obtain ⟨t141, A130, H⟩ := H
        replace H : (if 4 + t133.size + t137.size + t141.size ≤ 9223372036854775807 then ((header_fours.f (([a0_10, a0_11] : List Int))).bind fun t145 => (if 4 + t133.size + t137.size + t141.size + t145.size ≤ 9223372036854775807 then (if 4 + t133.size + t137.size + t141.size + t145.size + a0_12.size ≤ 9223372036854775807 then (if 4 + t133.size + t137.size + t141.size + t145.size + a0_12.size + a0_13.size ≤ 9223372036854775807 then (if 4 + t133.size + t137.size + t141.size + t145.size + a0_12.size + a0_13.size + a0_14.size ≤ 9223372036854775807 then (some ((((((((⟨#[80, 75, 1, 2]⟩ : ByteArray) ++ t133) ++ t137) ++ t141) ++ t145) ++ a0_12) ++ a0_13) ++ a0_14, 0)) else (none)) else (none)) else (none)) else (none))) else (none)) = some (r1, r2) := H
        have A13 := Aside0.mk A130
        clear A130
        by_cases c14 : 4 + t133.size + t137.size + t141.size ≤ 9223372036854775807
        · rw [if_pos c14] at H
          have c14b0 := eq_true c14
          have c14b1 : decide (4 + t133.size + t137.size + t141.size ≤ 9223372036854775807) = true := decide_eq_true c14
          try have c14b2 : (9223372036854775807 < 4 + t133.size + t137.size + t141.size) = False := eq_false (Nat.not_lt.2 c14)
          obtain ⟨y142, hy142⟩ : ∃ y_ : List Int, y_ = (([a0_10, a0_11] : List Int)) := ⟨_, rfl⟩
          replace H : ((header_fours.f y142).bind fun t145 => (if 4 + t133.size + t137.size + t141.size + t145.size ≤ 9223372036854775807 then (if 4 + t133.size + t137.size + t141.size + t145.size + a0_12.size ≤ 9223372036854775807 then (if 4 + t133.size + t137.size + t141.size + t145.size + a0_12.size + a0_13.size ≤ 9223372036854775807 then (if 4 + t133.size + t137.size + t141.size + t145.size + a0_12.size + a0_13.size + a0_14.size ≤ 9223372036854775807 then (some ((((((((⟨#[80, 75, 1, 2]⟩ : ByteArray) ++ t133) ++ t137) ++ t141) ++ t145) ++ a0_12) ++ a0_13) ++ a0_14, 0)) else (none)) else (none)) else (none)) else (none))) = some (r1, r2) := by first | (rw [hy142]; with_reducible exact H) | (have H2_ := (Option.bind_some _ _).symm.trans H; rw [hy142]; with_reducible exact H2_) | (have H2_ := (Option.bind_some _ _).symm.trans H; with_reducible exact H2_) | with_reducible exact H | (rw [hy142]; exact H) | exact H
          have Ny142 := Aside0.mk hy142
          clear hy142
          replace H := Option.bind_eq_some_iff.mp H
          obtain ⟨t145, A150, H⟩ := H
          replace H : (if 4 + t133.size + t137.size + t141.size + t145.size ≤ 9223372036854775807 then (if 4 + t133.size + t137.size + t141.size + t145.size + a0_12.size ≤ 9223372036854775807 then (if 4 + t133.size + t137.size + t141.size + t145.size + a0_12.size + a0_13.size ≤ 9223372036854775807 then (if 4 + t133.size + t137.size + t141.size + t145.size + a0_12.size + a0_13.size + a0_14.size ≤ 9223372036854775807 then (some ((((((((⟨#[80, 75, 1, 2]⟩ : ByteArray) ++ t133) ++ t137) ++ t141) ++ t145) ++ a0_12) ++ a0_13) ++ a0_14, 0)) else (none)) else (none)) else (none)) else (none)) = some (r1, r2) := H
          have A15 := Aside0.mk A150
          clear A150
          by_cases c16 : 4 + t133.size + t137.size + t141.size + t145.size ≤ 9223372036854775807
          · rw [if_pos c16] at H
            have c16b0 := eq_true c16
            have c16b1 : decide (4 + t133.size + t137.size + t141.size + t145.size ≤ 9223372036854775807) = true := decide_eq_true c16
            try have c16b2 : (9223372036854775807 < 4 + t133.size + t137.size + t141.size + t145.size) = False := eq_false (Nat.not_lt.2 c16)
            by_cases c17 : 4 + t133.size + t137.size + t141.size + t145.size + a0_12.size ≤ 9223372036854775807
            · rw [if_pos c17] at H
              have c17b0 := eq_true c17
              have c17b1 : decide (4 + t133.size + t137.size + t141.size + t145.size + a0_12.size ≤ 9223372036854775807) = true := decide_eq_true c17
              try have c17b2 : (9223372036854775807 < 4 + t133.size + t137.size + t141.size + t145.size + a0_12.size) = False := eq_false (Nat.not_lt.2 c17)
              by_cases c18 : 4 + t133.size + t137.size + t141.size + t145.size + a0_12.size + a0_13.size ≤ 9223372036854775807
              · rw [if_pos c18] at H
                have c18b0 := eq_true c18
                have c18b1 : decide (4 + t133.size + t137.size + t141.size + t145.size + a0_12.size + a0_13.size ≤ 9223372036854775807) = true := decide_eq_true c18
                try have c18b2 : (9223372036854775807 < 4 + t133.size + t137.size + t141.size + t145.size + a0_12.size + a0_13.size) = False := eq_false (Nat.not_lt.2 c18)
                by_cases c19 : 4 + t133.size + t137.size + t141.size + t145.size + a0_12.size + a0_13.size + a0_14.size ≤ 9223372036854775807
                · rw [if_pos c19] at H
                  have c19b0 := eq_true c19
                  have c19b1 : decide (4 + t133.size + t137.size + t141.size + t145.size + a0_12.size + a0_13.size + a0_14.size ≤ 9223372036854775807) = true := decide_eq_true c19
                  try have c19b2 : (9223372036854775807 < 4 + t133.size + t137.size + t141.size + t145.size + a0_12.size + a0_13.size + a0_14.size) = False := eq_false (Nat.not_lt.2 c19)
                  simp only [Option.some.injEq, Prod.mk.injEq] at H
                  obtain ⟨rfl, rfl⟩ := H
                  go_enter Try.func8, Try.ntmps8
                  try go_wp2_with (first | ((with_reducible refine gate_dst (N := 1) rfl ?_); refine box_event ?hg (N := 1) ?hd (cs := #[.int .u16 a0_0, .int .u16 a0_1, .int .u16 a0_2, .int .u16 a0_3, .int .u32 a0_4, .int .u32 a0_5, .int .u32 a0_6, .int .u32 a0_7, .int .u16 a0_8, .int .u16 a0_9, .int .u32 a0_10, .int .u32 a0_11, .string a0_12, .string a0_13, .string a0_14]) (t := 27) ?hr ?_; (case hd => rfl); (case hg => rfl); (case hr => first | (go_simp; done) | (go_simp; rfl)); intro gb125 hg w20 hbox hb; have n0_ := Aside0.mk (below_step (by repeat (first | (with_reducible first | exact HB.out | apply below_alloc | apply pw_below_drewN | apply below_drew1) | exact HB.out)) hb); have n1_ := Aside0.mk (hbox); have n2_ := Aside0.mk ((by rw [hg]; exact (below_size (by repeat (first | (with_reducible first | exact HB.out | apply below_alloc | apply pw_below_drewN | apply below_drew1) | exact HB.out))) : w.heap.size ≤ gb125)); have n3_ := Aside0.mk ((by rw [hg]; exact (below_size (by repeat (first | (with_reducible first | exact HB.out | apply below_alloc | apply pw_below_drewN | apply below_drew1) | exact HB.out))) : w.heap.size ≤ gb125)); clear HB; have HB := n0_; have BK125 := n1_; have GW125 := n2_; have GE125 := n3_; clear n0_ n1_ n2_ n3_; clear hb hbox hg; have hcz21_0 : w20.cell? ⟨gb125, 0, none⟩ = some (.int .u16 a0_0) := (blk_cell BK125.out 0).trans rfl; have hcz21_1 : w20.cell? ⟨gb125, 1, none⟩ = some (.int .u16 a0_1) := (blk_cell BK125.out 1).trans rfl; have hcz21_2 : w20.cell? ⟨gb125, 2, none⟩ = some (.int .u16 a0_2) := (blk_cell BK125.out 2).trans rfl; have hcz21_3 : w20.cell? ⟨gb125, 3, none⟩ = some (.int .u16 a0_3) := (blk_cell BK125.out 3).trans rfl; have hcz21_4 : w20.cell? ⟨gb125, 4, none⟩ = some (.int .u32 a0_4) := (blk_cell BK125.out 4).trans rfl; have hcz21_5 : w20.cell? ⟨gb125, 5, none⟩ = some (.int .u32 a0_5) := (blk_cell BK125.out 5).trans rfl; have hcz21_6 : w20.cell? ⟨gb125, 6, none⟩ = some (.int .u32 a0_6) := (blk_cell BK125.out 6).trans rfl; have hcz21_7 : w20.cell? ⟨gb125, 7, none⟩ = some (.int .u32 a0_7) := (blk_cell BK125.out 7).trans rfl; have hcz21_8 : w20.cell? ⟨gb125, 8, none⟩ = some (.int .u16 a0_8) := (blk_cell BK125.out 8).trans rfl; have hcz21_9 : w20.cell? ⟨gb125, 9, none⟩ = some (.int .u16 a0_9) := (blk_cell BK125.out 9).trans rfl; have hcz21_10 : w20.cell? ⟨gb125, 10, none⟩ = some (.int .u32 a0_10) := (blk_cell BK125.out 10).trans rfl; have hcz21_11 : w20.cell? ⟨gb125, 11, none⟩ = some (.int .u32 a0_11) := (blk_cell BK125.out 11).trans rfl; have hcz21_12 : w20.cell? ⟨gb125, 12, none⟩ = some (.string a0_12) := (blk_cell BK125.out 12).trans rfl; have hcz21_13 : w20.cell? ⟨gb125, 13, none⟩ = some (.string a0_13) := (blk_cell BK125.out 13).trans rfl; have hcz21_14 : w20.cell? ⟨gb125, 14, none⟩ = some (.string a0_14) := (blk_cell BK125.out 14).trans rfl; have hfz21_0 := blk_frozen BK125.out 0; have hfz21_1 := blk_frozen BK125.out 1; have hfz21_2 := blk_frozen BK125.out 2; have hfz21_3 := blk_frozen BK125.out 3; have hfz21_4 := blk_frozen BK125.out 4; have hfz21_5 := blk_frozen BK125.out 5; have hfz21_6 := blk_frozen BK125.out 6; have hfz21_7 := blk_frozen BK125.out 7; have hfz21_8 := blk_frozen BK125.out 8; have hfz21_9 := blk_frozen BK125.out 9; have hfz21_10 := blk_frozen BK125.out 10; have hfz21_11 := blk_frozen BK125.out 11; have hfz21_12 := blk_frozen BK125.out 12; have hfz21_13 := blk_frozen BK125.out 13; have hfz21_14 := blk_frozen BK125.out 14) | ((with_reducible refine gate_dst (N := 10) rfl ?_); refine Kd.R_lit Kd.string _ 9 ?hg (N := 10) ?hd (xs := ([a0_12, a0_13, a0_14] : List ByteArray)) (inner := [.string a0_12, .string a0_13, .string a0_14]) (ok := fun _ => True) (okp := fun _ => True) ?hr ?hp (fun _ hk => hk) trivial (Below.refl _ _) (Nat.le_refl _) (by simp) ?_; (case hd => rfl); (case hg => rfl); (case hr => first | (go_simp; done) | (go_simp; rfl)); (case hp => exact (Reps.one (show Kd.M Kd.string _ _ _ a0_12 [.string a0_12] from rfl) (Reps.one (show Kd.M Kd.string _ _ _ a0_13 [.string a0_13] from rfl) (Reps.one (show Kd.M Kd.string _ _ _ a0_14 [.string a0_14] from rfl) (Reps.none _ _))))); intro v127 w22 ho23 hb hg_ hnew_; clear hg_ hnew_; (first | rw [← Ny126.out] at ho23 | (simp only [Int.reduceToNat] at ho23; rw [← Ny126.out] at ho23)); have n0_ := Aside0.mk (Kd.R_lower ho23 (below_size (by repeat (first | (with_reducible first | exact HB.out | apply below_alloc | apply pw_below_drewN | apply below_drew1 | refine below_set ?_ GE125.out) | exact HB.out)))); have n1_ := Aside0.mk (blk_below (g := gb125) (o := .cells #[.int .u16 a0_0, .int .u16 a0_1, .int .u16 a0_2, .int .u16 a0_3, .int .u32 a0_4, .int .u32 a0_5, .int .u32 a0_6, .int .u32 a0_7, .int .u16 a0_8, .int .u16 a0_9, .int .u32 a0_10, .int .u32 a0_11, .string a0_12, .string a0_13, .string a0_14] 27 (0, 0)) (by (with_reducible repeat (first | refine blk_drewN ?_ _ | refine blk_drew ?_ | refine blk_alloc ?_ _)); exact BK125.out) hb); have n2_ := Aside0.mk (below_step (by repeat (first | (with_reducible first | exact HB.out | apply below_alloc | apply pw_below_drewN | apply below_drew1 | refine below_set ?_ GE125.out) | exact HB.out)) hb); clear BK125; clear HB; have HO128 := n0_; have BK125 := n1_; have HB := n2_; clear n0_ n1_ n2_; clear hb ho23; obtain ⟨Ao24, co24, eo24⟩ := Kd.R_slice HO128.out; subst eo24) | ((with_reducible refine gate_callee (f := 22) rfl ?_); refine goesL_ (some 11) rfl rfl Try.func22 (by kernel_rfl) rfl #[.slice Ao24 y126.length co24] rfl (by (try simp only [List.map_toArray, List.map_cons, List.map_nil]); first | done | rfl | (simp only [List.length_drop, List.length_take]; rfl)) ?_; (with_reducible refine (header_long.calls k _ _ y126 false _ ?side1 ?side2 A2.out).mono ?_); (case side1 => repeat (first | exact (Kd.R_reads' HO128.out).2.2 | (with_reducible refine Kd.C_alloc ?_ _) | (with_reducible refine Kd.C_drewN ?_ _) | (with_reducible refine Kd.C_drew ?_))); (case side2 => exact (Kd.R_reads' HO128.out).2.1); rintro e w' ⟨rfl, ⟨nd, rfl⟩⟩; refine ⟨_, rfl, ?_⟩))
                  (try (rw [drewN_self w22]; generalize hq_ : World.drewN w22 _ = w22; have n0_ : Aside0 (Kd.R Kd.string 9 w22 w.heap.size (fun _ => True) (.slice Ao24 y126.length co24) y126) := ⟨by rw [← hq_]; exact (by (with_reducible repeat (first | apply Kd.R_alloc | apply Kd.R_drewN | apply Kd.R_drew)); exact HO128.out)⟩; have n1_ : Aside0 (w22.heap[gb125]? = some (.cells #[.int .u16 a0_0, .int .u16 a0_1, .int .u16 a0_2, .int .u16 a0_3, .int .u32 a0_4, .int .u32 a0_5, .int .u32 a0_6, .int .u32 a0_7, .int .u16 a0_8, .int .u16 a0_9, .int .u32 a0_10, .int .u32 a0_11, .string a0_12, .string a0_13, .string a0_14] 27 (0, 0))) := ⟨by rw [← hq_]; exact (by (with_reducible repeat (first | refine blk_drewN ?_ _ | refine blk_drew ?_ | refine blk_alloc ?_ _)); exact BK125.out)⟩; have n2_ : Aside0 (Below w.heap.size w w22) := ⟨by rw [← hq_]; exact (by repeat (first | (with_reducible first | exact HB.out | apply below_alloc | apply pw_below_drewN | apply below_drew1 | refine below_set ?_ GE125.out) | exact HB.out))⟩; clear HO128 BK125 HB hq_; have HO128 := n0_; have BK125 := n1_; have HB := n2_; clear n0_ n1_ n2_))
                  have n0_ := Aside0.mk (Kd.R_drew HO128.out)
                  have n1_ := Aside0.mk (blk_drew BK125.out)
                  have n2_ := Aside0.mk (below_drew1 HB.out)
                  clear HO128
                  clear BK125
                  clear HB
                  have HO128 := n0_
                  have BK125 := n1_
                  have HB := n2_
                  clear n0_ n1_ n2_
                  refine start_ (n := 59) (S := fun w' => True) (ds := []) #[false, false, false, false, false, false, false, false, false, false, false, false, false, false, false, false, false, false, false, false, false, false, false, false, false, false, false, false, false, false, false, false, false, false, false, false, false, false, false, false, false, false, false, false, false, false, false, false, false, false, false, false, false, false, false, false, false, false, false] (by kernel_rfl) rfl rfl trivial (fun hHeld => ?_); refine with_tabW header_PrintCentral.tab3 header_PrintCentral.bits3 (fun HT_ HW_ => ?_)
                  generalize w22.drew = w25 at HO128 BK125 HB hHeld ⊢
                  refine pure_ (i := 0) (N := some 12) (v := ?_) (a' := ?_) #[true, false, false, false, false, false, false, false, false, false, false, false, false, false, false, false, false, false, false, false, false, false, false, false, false, false, false, false, false, false, false, false, false, false, false, false, false, false, false, false, false, false, false, false, false, false, false, false, false, false, false, false, false, false, false, false, false, false, false] rfl rfl (any_of HT_.out (by kernel_rfl)) (fun _ _ _ h => h) (Or.inl ⟨by rfl, ?_⟩) ?_ ?_
                  rotate_left
                  · intro w'
                    go_simp
                    with_reducible rfl
                  rotate_left
                  · simp only [Act.put, List.setIfInBounds_toArray, List.set_cons_zero, List.set_cons_succ, i64_w, i32_w]
                    rfl
                  refine pure_ (i := 2) (N := some 14) (v := ?_) (a' := ?_) #[true, false, true, false, false, false, false, false, false, false, false, false, false, false, false, false, false, false, false, false, false, false, false, false, false, false, false, false, false, false, false, false, false, false, false, false, false, false, false, false, false, false, false, false, false, false, false, false, false, false, false, false, false, false, false, false, false, false, false] rfl rfl (any_of HT_.out (by kernel_rfl)) (fun _ _ _ h => h) (Or.inl ⟨by rfl, ?_⟩) ?_ ?_
                  rotate_left
                  · intro w'
                    go_simp
                    with_reducible rfl
                  rotate_left
                  · simp only [Act.put, List.setIfInBounds_toArray, List.set_cons_zero, List.set_cons_succ, i64_w, i32_w]
                    rfl
                  refine pure_ (i := 4) (N := some 16) (v := ?_) (a' := ?_) #[true, false, true, false, true, false, false, false, false, false, false, false, false, false, false, false, false, false, false, false, false, false, false, false, false, false, false, false, false, false, false, false, false, false, false, false, false, false, false, false, false, false, false, false, false, false, false, false, false, false, false, false, false, false, false, false, false, false, false] rfl rfl (any_of HT_.out (by kernel_rfl)) (fun _ _ _ h => h) (Or.inl ⟨by rfl, ?_⟩) ?_ ?_
                  rotate_left
                  · intro w'
                    go_simp
                    with_reducible rfl
                  rotate_left
                  · simp only [Act.put, List.setIfInBounds_toArray, List.set_cons_zero, List.set_cons_succ, i64_w, i32_w]
                    rfl
                  refine pure_ (i := 6) (N := some 18) (v := ?_) (a' := ?_) #[true, false, true, false, true, false, true, false, false, false, false, false, false, false, false, false, false, false, false, false, false, false, false, false, false, false, false, false, false, false, false, false, false, false, false, false, false, false, false, false, false, false, false, false, false, false, false, false, false, false, false, false, false, false, false, false, false, false, false] rfl rfl (any_of HT_.out (by kernel_rfl)) (fun _ _ _ h => h) (Or.inl ⟨by rfl, ?_⟩) ?_ ?_
                  rotate_left
                  · intro w'
                    go_simp
                    with_reducible rfl
                  rotate_left
                  · simp only [Act.put, List.setIfInBounds_toArray, List.set_cons_zero, List.set_cons_succ, i64_w, i32_w]
                    rfl
                  refine pure_ (i := 11) (N := some 23) (v := ?_) (a' := ?_) #[true, false, true, false, true, false, true, false, false, false, false, true, false, false, false, false, false, false, false, false, false, false, false, false, false, false, false, false, false, false, false, false, false, false, false, false, false, false, false, false, false, false, false, false, false, false, false, false, false, false, false, false, false, false, false, false, false, false, false] rfl rfl (any_of HT_.out (by kernel_rfl)) (fun _ _ _ h => h) (Or.inl ⟨by rfl, ?_⟩) ?_ ?_
                  rotate_left
                  · intro w'
                    go_simp
                    with_reducible rfl
                  rotate_left
                  · simp only [Act.put, List.setIfInBounds_toArray, List.set_cons_zero, List.set_cons_succ, i64_w, i32_w]
                    rfl
                  refine pure_ (i := 13) (N := some 25) (v := ?_) (a' := ?_) #[true, false, true, false, true, false, true, false, false, false, false, true, false, true, false, false, false, false, false, false, false, false, false, false, false, false, false, false, false, false, false, false, false, false, false, false, false, false, false, false, false, false, false, false, false, false, false, false, false, false, false, false, false, false, false, false, false, false, false] rfl rfl (any_of HT_.out (by kernel_rfl)) (fun _ _ _ h => h) (Or.inl ⟨by rfl, ?_⟩) ?_ ?_
                  rotate_left
                  · intro w'
                    go_simp
                    with_reducible rfl
                  rotate_left
                  · simp only [Act.put, List.setIfInBounds_toArray, List.set_cons_zero, List.set_cons_succ, i64_w, i32_w]
                    rfl
                  refine pure_ (i := 15) (N := some 27) (v := ?_) (a' := ?_) #[true, false, true, false, true, false, true, false, false, false, false, true, false, true, false, true, false, false, false, false, false, false, false, false, false, false, false, false, false, false, false, false, false, false, false, false, false, false, false, false, false, false, false, false, false, false, false, false, false, false, false, false, false, false, false, false, false, false, false] rfl rfl (any_of HT_.out (by kernel_rfl)) (fun _ _ _ h => h) (Or.inl ⟨by rfl, ?_⟩) ?_ ?_
                  rotate_left
                  · intro w'
                    go_simp
                    with_reducible rfl
                  rotate_left
                  · simp only [Act.put, List.setIfInBounds_toArray, List.set_cons_zero, List.set_cons_succ, i64_w, i32_w]
                    rfl
                  refine pure_ (i := 17) (N := some 29) (v := ?_) (a' := ?_) #[true, false, true, false, true, false, true, false, false, false, false, true, false, true, false, true, false, true, false, false, false, false, false, false, false, false, false, false, false, false, false, false, false, false, false, false, false, false, false, false, false, false, false, false, false, false, false, false, false, false, false, false, false, false, false, false, false, false, false] rfl rfl (any_of HT_.out (by kernel_rfl)) (fun _ _ _ h => h) (Or.inl ⟨by rfl, ?_⟩) ?_ ?_
                  rotate_left
                  · intro w'
                    go_simp
                    with_reducible rfl
                  rotate_left
                  · simp only [Act.put, List.setIfInBounds_toArray, List.set_cons_zero, List.set_cons_succ, i64_w, i32_w]
                    rfl
                  refine pure_ (i := 22) (N := some 34) (v := ?_) (a' := ?_) #[true, false, true, false, true, false, true, false, false, false, false, true, false, true, false, true, false, true, false, false, false, false, true, false, false, false, false, false, false, false, false, false, false, false, false, false, false, false, false, false, false, false, false, false, false, false, false, false, false, false, false, false, false, false, false, false, false, false, false] rfl rfl (any_of HT_.out (by kernel_rfl)) (fun _ _ _ h => h) (Or.inl ⟨by rfl, ?_⟩) ?_ ?_
                  rotate_left
                  · intro w'
                    go_simp
                    with_reducible rfl
                  rotate_left
                  · simp only [Act.put, List.setIfInBounds_toArray, List.set_cons_zero, List.set_cons_succ, i64_w, i32_w]
                    rfl
                  refine pure_ (i := 26) (N := some 38) (v := ?_) (a' := ?_) #[true, false, true, false, true, false, true, false, false, false, false, true, false, true, false, true, false, true, false, false, false, false, true, false, false, false, true, false, false, false, false, false, false, false, false, false, false, false, false, false, false, false, false, false, false, false, false, false, false, false, false, false, false, false, false, false, false, false, false] rfl rfl (any_of HT_.out (by kernel_rfl)) (fun _ _ _ h => h) (Or.inl ⟨by rfl, ?_⟩) ?_ ?_
                  rotate_left
                  · intro w'
                    go_simp
                    with_reducible rfl
                  rotate_left
                  · simp only [Act.put, List.setIfInBounds_toArray, List.set_cons_zero, List.set_cons_succ, i64_w, i32_w]
                    rfl
                  refine pure_ (i := 30) (N := some 42) (v := ?_) (a' := ?_) #[true, false, true, false, true, false, true, false, false, false, false, true, false, true, false, true, false, true, false, false, false, false, true, false, false, false, true, false, false, false, true, false, false, false, false, false, false, false, false, false, false, false, false, false, false, false, false, false, false, false, false, false, false, false, false, false, false, false, false] rfl rfl (any_of HT_.out (by kernel_rfl)) (fun _ _ _ h => h) (Or.inl ⟨by rfl, ?_⟩) ?_ ?_
                  rotate_left
                  · intro w'
                    go_simp
                    with_reducible rfl
                  rotate_left
                  · simp only [Act.put, List.setIfInBounds_toArray, List.set_cons_zero, List.set_cons_succ, i64_w, i32_w]
                    rfl
                  refine pure_ (i := 34) (N := some 46) (v := ?_) (a' := ?_) #[true, false, true, false, true, false, true, false, false, false, false, true, false, true, false, true, false, true, false, false, false, false, true, false, false, false, true, false, false, false, true, false, false, false, true, false, false, false, false, false, false, false, false, false, false, false, false, false, false, false, false, false, false, false, false, false, false, false, false] rfl rfl (any_of HT_.out (by kernel_rfl)) (fun _ _ _ h => h) (Or.inl ⟨by rfl, ?_⟩) ?_ ?_
                  rotate_left
                  · intro w'
                    go_simp
                    with_reducible rfl
                  rotate_left
                  · simp only [Act.put, List.setIfInBounds_toArray, List.set_cons_zero, List.set_cons_succ, i64_w, i32_w]
                    rfl
                  refine pure_ (i := 36) (N := some 48) (v := ?_) (a' := ?_) #[true, false, true, false, true, false, true, false, false, false, false, true, false, true, false, true, false, true, false, false, false, false, true, false, false, false, true, false, false, false, true, false, false, false, true, false, true, false, false, false, false, false, false, false, false, false, false, false, false, false, false, false, false, false, false, false, false, false, false] rfl rfl (any_of HT_.out (by kernel_rfl)) (fun _ _ _ h => h) (Or.inl ⟨by rfl, ?_⟩) ?_ ?_
                  rotate_left
                  · intro w'
                    go_simp
                    with_reducible rfl
                  rotate_left
                  · simp only [Act.put, List.setIfInBounds_toArray, List.set_cons_zero, List.set_cons_succ, i64_w, i32_w]
                    rfl
                  refine pure_ (i := 41) (N := some 53) (v := ?_) (a' := ?_) #[true, false, true, false, true, false, true, false, false, false, false, true, false, true, false, true, false, true, false, false, false, false, true, false, false, false, true, false, false, false, true, false, false, false, true, false, true, false, false, false, false, true, false, false, false, false, false, false, false, false, false, false, false, false, false, false, false, false, false] rfl rfl (any_of HT_.out (by kernel_rfl)) (fun _ _ _ h => h) (Or.inl ⟨by rfl, ?_⟩) ?_ ?_
                  rotate_left
                  · intro w'
                    go_simp
                    with_reducible rfl
                  rotate_left
                  · simp only [Act.put, List.setIfInBounds_toArray, List.set_cons_zero, List.set_cons_succ, i64_w, i32_w]
                    rfl
                  refine pure_ (i := 43) (N := some 55) (v := ?_) (a' := ?_) #[true, false, true, false, true, false, true, false, false, false, false, true, false, true, false, true, false, true, false, false, false, false, true, false, false, false, true, false, false, false, true, false, false, false, true, false, true, false, false, false, false, true, false, true, false, false, false, false, false, false, false, false, false, false, false, false, false, false, false] rfl rfl (any_of HT_.out (by kernel_rfl)) (fun _ _ _ h => h) (Or.inl ⟨by rfl, ?_⟩) ?_ ?_
                  rotate_left
                  · intro w'
                    go_simp
                    with_reducible rfl
                  rotate_left
                  · simp only [Act.put, List.setIfInBounds_toArray, List.set_cons_zero, List.set_cons_succ, i64_w, i32_w]
                    rfl
                  refine pure_ (i := 48) (N := some 60) (v := ?_) (a' := ?_) #[true, false, true, false, true, false, true, false, false, false, false, true, false, true, false, true, false, true, false, false, false, false, true, false, false, false, true, false, false, false, true, false, false, false, true, false, true, false, false, false, false, true, false, true, false, false, false, false, true, false, false, false, false, false, false, false, false, false, false] rfl rfl (any_of HT_.out (by kernel_rfl)) (fun _ _ _ h => h) (Or.inl ⟨by rfl, ?_⟩) ?_ ?_
                  rotate_left
                  · intro w'
                    go_simp
                    with_reducible rfl
                  rotate_left
                  · simp only [Act.put, List.setIfInBounds_toArray, List.set_cons_zero, List.set_cons_succ, i64_w, i32_w]
                    rfl
                  refine pure_ (i := 51) (N := some 63) (v := ?_) (a' := ?_) #[true, false, true, false, true, false, true, false, false, false, false, true, false, true, false, true, false, true, false, false, false, false, true, false, false, false, true, false, false, false, true, false, false, false, true, false, true, false, false, false, false, true, false, true, false, false, false, false, true, false, false, true, false, false, false, false, false, false, false] rfl rfl (any_of HT_.out (by kernel_rfl)) (fun _ _ _ h => h) (Or.inl ⟨by rfl, ?_⟩) ?_ ?_
                  rotate_left
                  · intro w'
                    go_simp
                    with_reducible rfl
                  rotate_left
                  · simp only [Act.put, List.setIfInBounds_toArray, List.set_cons_zero, List.set_cons_succ, i64_w, i32_w]
                    rfl
                  refine pure_ (i := 54) (N := some 66) (v := ?_) (a' := ?_) #[true, false, true, false, true, false, true, false, false, false, false, true, false, true, false, true, false, true, false, false, false, false, true, false, false, false, true, false, false, false, true, false, false, false, true, false, true, false, false, false, false, true, false, true, false, false, false, false, true, false, false, true, false, false, true, false, false, false, false] rfl rfl (any_of HT_.out (by kernel_rfl)) (fun _ _ _ h => h) (Or.inl ⟨by rfl, ?_⟩) ?_ ?_
                  rotate_left
                  · intro w'
                    go_simp
                    with_reducible rfl
                  rotate_left
                  · simp only [Act.put, List.setIfInBounds_toArray, List.set_cons_zero, List.set_cons_succ, i64_w, i32_w]
                    rfl
                  refine inv_at [1, 3, 5, 7, 8, 9, 10, 12, 14, 16, 18, 19, 20, 21, 23, 24, 25, 27, 28, 29, 31, 32, 33, 35, 37, 38, 39, 40, 42, 44, 45, 46, 47, 49, 50, 52, 53, 55, 56, 57, 58] (fun a0_ b a w' => ∃ (v131 : Value) (v135 : Value) (v139 : Value) (v143 : Value), a = putSel a0_ b [(1, 13, .int .u16 a0_0), (3, 15, .int .u16 a0_1), (5, 17, .int .u16 a0_2), (7, 19, .int .u16 a0_3), (8, 20, v131), (9, 21, .string t133), (10, 22, .string ((⟨#[80, 75, 1, 2]⟩ : ByteArray) ++ t133)), (12, 24, .int .u32 a0_4), (14, 26, .int .u32 a0_5), (16, 28, .int .u32 a0_6), (18, 30, .int .u32 a0_7), (19, 31, v135), (20, 32, .string t137), (21, 33, .string (((⟨#[80, 75, 1, 2]⟩ : ByteArray) ++ t133) ++ t137)), (23, 35, .string a0_12), (24, 36, .int .i64 (a0_12.size : Int)), (25, 37, .int .u16 (IntKind.u16.wrap ((a0_12.size : Int)))), (27, 39, .string a0_13), (28, 40, .int .i64 (a0_13.size : Int)), (29, 41, .int .u16 (IntKind.u16.wrap ((a0_13.size : Int)))), (31, 43, .string a0_14), (32, 44, .int .i64 (a0_14.size : Int)), (33, 45, .int .u16 (IntKind.u16.wrap ((a0_14.size : Int)))), (35, 47, .int .u16 a0_8), (37, 49, .int .u16 a0_9), (38, 50, v139), (39, 51, .string t141), (40, 52, .string ((((⟨#[80, 75, 1, 2]⟩ : ByteArray) ++ t133) ++ t137) ++ t141)), (42, 54, .int .u32 a0_10), (44, 56, .int .u32 a0_11), (45, 57, v143), (46, 58, .string t145), (47, 59, .string (((((⟨#[80, 75, 1, 2]⟩ : ByteArray) ++ t133) ++ t137) ++ t141) ++ t145)), (49, 61, .string a0_12), (50, 62, .string ((((((⟨#[80, 75, 1, 2]⟩ : ByteArray) ++ t133) ++ t137) ++ t141) ++ t145) ++ a0_12)), (52, 64, .string a0_13), (53, 65, .string (((((((⟨#[80, 75, 1, 2]⟩ : ByteArray) ++ t133) ++ t137) ++ t141) ++ t145) ++ a0_12) ++ a0_13)), (55, 67, .string a0_14), (56, 68, .string ((((((((⟨#[80, 75, 1, 2]⟩ : ByteArray) ++ t133) ++ t137) ++ t141) ++ t145) ++ a0_12) ++ a0_13) ++ a0_14)), (57, 2, .string ((((((((⟨#[80, 75, 1, 2]⟩ : ByteArray) ++ t133) ++ t137) ++ t141) ++ t145) ++ a0_12) ++ a0_13) ++ a0_14)), (58, 3, .int .i64 0)] ∧ (Kd.R Kd.string 9 w' w.heap.size (fun _ => True) (.slice Ao24 y126.length co24) y126) ∧ (w'.heap[gb125]? = some (.cells #[.int .u16 a0_0, .int .u16 a0_1, .int .u16 a0_2, .int .u16 a0_3, .int .u32 a0_4, .int .u32 a0_5, .int .u32 a0_6, .int .u32 a0_7, .int .u16 a0_8, .int .u16 a0_9, .int .u32 a0_10, .int .u32 a0_11, .string a0_12, .string a0_13, .string a0_14] 27 (0, 0))) ∧ (Below w.heap.size w w') ∧ (b 8 = true → Kd.R (Kd.int .u16) 22 w' w.heap.size (fun _ => True) v131 y130) ∧ (b 19 = true → Kd.R (Kd.int .u32) 23 w' w.heap.size (fun _ => True) v135 y134) ∧ (b 38 = true → Kd.R (Kd.int .u16) 22 w' w.heap.size (fun _ => True) v139 y138) ∧ (b 45 = true → Kd.R (Kd.int .u32) 23 w' w.heap.size (fun _ => True) v143 y142)) HT_.out HW_.out (by kernel_rfl) (by kernel_rfl) ?_ ?_ ?_
                  · exact ⟨.bool false, .bool false, .bool false, .bool false, by simp only [putSel, Bool.false_eq_true, if_false], HO128.out, BK125.out, HB.out, fun h_ => absurd h_ (by decide), fun h_ => absurd h_ (by decide), fun h_ => absurd h_ (by decide), fun h_ => absurd h_ (by decide)⟩
                  · skip
                    clear BK125 HB HO128
                    refine steps_cons ?_ ?_
                    · rintro b a w' ⟨v131, v135, v139, v143, ha, Q_HO128, Q_BK125, Q_HB, Q_HO132, Q_HO136, Q_HO140, Q_HO144⟩ hb_ hon hoff
                      refine ⟨_, rfl, fun K hK => ?_⟩
                      have e12 : a.tmps[12]? = some (.pointer (some ⟨gb125, 0, none⟩)) := by rw [ha]; exact (putSel_off rfl).trans rfl
                      replace ha := Aside0.mk ha
                      have HO128 := Aside0.mk Q_HO128
                      have BK125 := Aside0.mk Q_BK125
                      have HB := Aside0.mk Q_HB
                      have hc0_ : w'.cell? ⟨gb125, 0, none⟩ = some (.int .u16 a0_0) := (blk_cell BK125.out 0).trans rfl
                      have hc1_ : w'.cell? ⟨gb125, 1, none⟩ = some (.int .u16 a0_1) := (blk_cell BK125.out 1).trans rfl
                      have hc2_ : w'.cell? ⟨gb125, 2, none⟩ = some (.int .u16 a0_2) := (blk_cell BK125.out 2).trans rfl
                      have hc3_ : w'.cell? ⟨gb125, 3, none⟩ = some (.int .u16 a0_3) := (blk_cell BK125.out 3).trans rfl
                      have hc4_ : w'.cell? ⟨gb125, 4, none⟩ = some (.int .u32 a0_4) := (blk_cell BK125.out 4).trans rfl
                      have hc5_ : w'.cell? ⟨gb125, 5, none⟩ = some (.int .u32 a0_5) := (blk_cell BK125.out 5).trans rfl
                      have hc6_ : w'.cell? ⟨gb125, 6, none⟩ = some (.int .u32 a0_6) := (blk_cell BK125.out 6).trans rfl
                      have hc7_ : w'.cell? ⟨gb125, 7, none⟩ = some (.int .u32 a0_7) := (blk_cell BK125.out 7).trans rfl
                      have hc8_ : w'.cell? ⟨gb125, 8, none⟩ = some (.int .u16 a0_8) := (blk_cell BK125.out 8).trans rfl
                      have hc9_ : w'.cell? ⟨gb125, 9, none⟩ = some (.int .u16 a0_9) := (blk_cell BK125.out 9).trans rfl
                      have hc10_ : w'.cell? ⟨gb125, 10, none⟩ = some (.int .u32 a0_10) := (blk_cell BK125.out 10).trans rfl
                      have hc11_ : w'.cell? ⟨gb125, 11, none⟩ = some (.int .u32 a0_11) := (blk_cell BK125.out 11).trans rfl
                      have hc12_ : w'.cell? ⟨gb125, 12, none⟩ = some (.string a0_12) := (blk_cell BK125.out 12).trans rfl
                      have hc13_ : w'.cell? ⟨gb125, 13, none⟩ = some (.string a0_13) := (blk_cell BK125.out 13).trans rfl
                      have hc14_ : w'.cell? ⟨gb125, 14, none⟩ = some (.string a0_14) := (blk_cell BK125.out 14).trans rfl
                      refine value_ (w1 := w') (v := .int .u16 a0_0) (by rfl) rfl ?_ ?_
                      · go_simp
                        (try simp only [i64_w])
                        try rfl
                      refine hK.out _ _ ⟨v131, v135, v139, v143, (by rw [ha.out]; exact putSel_upk 0 hb_ rfl rfl rfl), Q_HO128, Q_BK125, Q_HB, fun h0_ => absurd ((hoff 8 (by kernel_rfl)).symm.trans h0_) (by decide), Q_HO136, Q_HO140, Q_HO144⟩
                    refine steps_cons ?_ ?_
                    · rintro b a w' ⟨v131, v135, v139, v143, ha, Q_HO128, Q_BK125, Q_HB, Q_HO132, Q_HO136, Q_HO140, Q_HO144⟩ hb_ hon hoff
                      refine ⟨_, rfl, fun K hK => ?_⟩
                      have e14 : a.tmps[14]? = some (.pointer (some ⟨gb125, 1, none⟩)) := by rw [ha]; exact (putSel_off rfl).trans rfl
                      replace ha := Aside0.mk ha
                      have HO128 := Aside0.mk Q_HO128
                      have BK125 := Aside0.mk Q_BK125
                      have HB := Aside0.mk Q_HB
                      have hc0_ : w'.cell? ⟨gb125, 0, none⟩ = some (.int .u16 a0_0) := (blk_cell BK125.out 0).trans rfl
                      have hc1_ : w'.cell? ⟨gb125, 1, none⟩ = some (.int .u16 a0_1) := (blk_cell BK125.out 1).trans rfl
                      have hc2_ : w'.cell? ⟨gb125, 2, none⟩ = some (.int .u16 a0_2) := (blk_cell BK125.out 2).trans rfl
                      have hc3_ : w'.cell? ⟨gb125, 3, none⟩ = some (.int .u16 a0_3) := (blk_cell BK125.out 3).trans rfl
                      have hc4_ : w'.cell? ⟨gb125, 4, none⟩ = some (.int .u32 a0_4) := (blk_cell BK125.out 4).trans rfl
                      have hc5_ : w'.cell? ⟨gb125, 5, none⟩ = some (.int .u32 a0_5) := (blk_cell BK125.out 5).trans rfl
                      have hc6_ : w'.cell? ⟨gb125, 6, none⟩ = some (.int .u32 a0_6) := (blk_cell BK125.out 6).trans rfl
                      have hc7_ : w'.cell? ⟨gb125, 7, none⟩ = some (.int .u32 a0_7) := (blk_cell BK125.out 7).trans rfl
                      have hc8_ : w'.cell? ⟨gb125, 8, none⟩ = some (.int .u16 a0_8) := (blk_cell BK125.out 8).trans rfl
                      have hc9_ : w'.cell? ⟨gb125, 9, none⟩ = some (.int .u16 a0_9) := (blk_cell BK125.out 9).trans rfl
                      have hc10_ : w'.cell? ⟨gb125, 10, none⟩ = some (.int .u32 a0_10) := (blk_cell BK125.out 10).trans rfl
                      have hc11_ : w'.cell? ⟨gb125, 11, none⟩ = some (.int .u32 a0_11) := (blk_cell BK125.out 11).trans rfl
                      have hc12_ : w'.cell? ⟨gb125, 12, none⟩ = some (.string a0_12) := (blk_cell BK125.out 12).trans rfl
                      have hc13_ : w'.cell? ⟨gb125, 13, none⟩ = some (.string a0_13) := (blk_cell BK125.out 13).trans rfl
                      have hc14_ : w'.cell? ⟨gb125, 14, none⟩ = some (.string a0_14) := (blk_cell BK125.out 14).trans rfl
                      refine value_ (w1 := w') (v := .int .u16 a0_1) (by rfl) rfl ?_ ?_
                      · go_simp
                        (try simp only [i64_w])
                        try rfl
                      refine hK.out _ _ ⟨v131, v135, v139, v143, (by rw [ha.out]; exact putSel_upk 1 hb_ rfl rfl rfl), Q_HO128, Q_BK125, Q_HB, fun h0_ => absurd ((hoff 8 (by kernel_rfl)).symm.trans h0_) (by decide), Q_HO136, Q_HO140, Q_HO144⟩
                    refine steps_cons ?_ ?_
                    · rintro b a w' ⟨v131, v135, v139, v143, ha, Q_HO128, Q_BK125, Q_HB, Q_HO132, Q_HO136, Q_HO140, Q_HO144⟩ hb_ hon hoff
                      refine ⟨_, rfl, fun K hK => ?_⟩
                      have e16 : a.tmps[16]? = some (.pointer (some ⟨gb125, 2, none⟩)) := by rw [ha]; exact (putSel_off rfl).trans rfl
                      replace ha := Aside0.mk ha
                      have HO128 := Aside0.mk Q_HO128
                      have BK125 := Aside0.mk Q_BK125
                      have HB := Aside0.mk Q_HB
                      have hc0_ : w'.cell? ⟨gb125, 0, none⟩ = some (.int .u16 a0_0) := (blk_cell BK125.out 0).trans rfl
                      have hc1_ : w'.cell? ⟨gb125, 1, none⟩ = some (.int .u16 a0_1) := (blk_cell BK125.out 1).trans rfl
                      have hc2_ : w'.cell? ⟨gb125, 2, none⟩ = some (.int .u16 a0_2) := (blk_cell BK125.out 2).trans rfl
                      have hc3_ : w'.cell? ⟨gb125, 3, none⟩ = some (.int .u16 a0_3) := (blk_cell BK125.out 3).trans rfl
                      have hc4_ : w'.cell? ⟨gb125, 4, none⟩ = some (.int .u32 a0_4) := (blk_cell BK125.out 4).trans rfl
                      have hc5_ : w'.cell? ⟨gb125, 5, none⟩ = some (.int .u32 a0_5) := (blk_cell BK125.out 5).trans rfl
                      have hc6_ : w'.cell? ⟨gb125, 6, none⟩ = some (.int .u32 a0_6) := (blk_cell BK125.out 6).trans rfl
                      have hc7_ : w'.cell? ⟨gb125, 7, none⟩ = some (.int .u32 a0_7) := (blk_cell BK125.out 7).trans rfl
                      have hc8_ : w'.cell? ⟨gb125, 8, none⟩ = some (.int .u16 a0_8) := (blk_cell BK125.out 8).trans rfl
                      have hc9_ : w'.cell? ⟨gb125, 9, none⟩ = some (.int .u16 a0_9) := (blk_cell BK125.out 9).trans rfl
                      have hc10_ : w'.cell? ⟨gb125, 10, none⟩ = some (.int .u32 a0_10) := (blk_cell BK125.out 10).trans rfl
                      have hc11_ : w'.cell? ⟨gb125, 11, none⟩ = some (.int .u32 a0_11) := (blk_cell BK125.out 11).trans rfl
                      have hc12_ : w'.cell? ⟨gb125, 12, none⟩ = some (.string a0_12) := (blk_cell BK125.out 12).trans rfl
                      have hc13_ : w'.cell? ⟨gb125, 13, none⟩ = some (.string a0_13) := (blk_cell BK125.out 13).trans rfl
                      have hc14_ : w'.cell? ⟨gb125, 14, none⟩ = some (.string a0_14) := (blk_cell BK125.out 14).trans rfl
                      refine value_ (w1 := w') (v := .int .u16 a0_2) (by rfl) rfl ?_ ?_
                      · go_simp
                        (try simp only [i64_w])
                        try rfl
                      refine hK.out _ _ ⟨v131, v135, v139, v143, (by rw [ha.out]; exact putSel_upk 2 hb_ rfl rfl rfl), Q_HO128, Q_BK125, Q_HB, fun h0_ => absurd ((hoff 8 (by kernel_rfl)).symm.trans h0_) (by decide), Q_HO136, Q_HO140, Q_HO144⟩
                    refine steps_cons ?_ ?_
                    · rintro b a w' ⟨v131, v135, v139, v143, ha, Q_HO128, Q_BK125, Q_HB, Q_HO132, Q_HO136, Q_HO140, Q_HO144⟩ hb_ hon hoff
                      refine ⟨_, rfl, fun K hK => ?_⟩
                      have e18 : a.tmps[18]? = some (.pointer (some ⟨gb125, 3, none⟩)) := by rw [ha]; exact (putSel_off rfl).trans rfl
                      replace ha := Aside0.mk ha
                      have HO128 := Aside0.mk Q_HO128
                      have BK125 := Aside0.mk Q_BK125
                      have HB := Aside0.mk Q_HB
                      have hc0_ : w'.cell? ⟨gb125, 0, none⟩ = some (.int .u16 a0_0) := (blk_cell BK125.out 0).trans rfl
                      have hc1_ : w'.cell? ⟨gb125, 1, none⟩ = some (.int .u16 a0_1) := (blk_cell BK125.out 1).trans rfl
                      have hc2_ : w'.cell? ⟨gb125, 2, none⟩ = some (.int .u16 a0_2) := (blk_cell BK125.out 2).trans rfl
                      have hc3_ : w'.cell? ⟨gb125, 3, none⟩ = some (.int .u16 a0_3) := (blk_cell BK125.out 3).trans rfl
                      have hc4_ : w'.cell? ⟨gb125, 4, none⟩ = some (.int .u32 a0_4) := (blk_cell BK125.out 4).trans rfl
                      have hc5_ : w'.cell? ⟨gb125, 5, none⟩ = some (.int .u32 a0_5) := (blk_cell BK125.out 5).trans rfl
                      have hc6_ : w'.cell? ⟨gb125, 6, none⟩ = some (.int .u32 a0_6) := (blk_cell BK125.out 6).trans rfl
                      have hc7_ : w'.cell? ⟨gb125, 7, none⟩ = some (.int .u32 a0_7) := (blk_cell BK125.out 7).trans rfl
                      have hc8_ : w'.cell? ⟨gb125, 8, none⟩ = some (.int .u16 a0_8) := (blk_cell BK125.out 8).trans rfl
                      have hc9_ : w'.cell? ⟨gb125, 9, none⟩ = some (.int .u16 a0_9) := (blk_cell BK125.out 9).trans rfl
                      have hc10_ : w'.cell? ⟨gb125, 10, none⟩ = some (.int .u32 a0_10) := (blk_cell BK125.out 10).trans rfl
                      have hc11_ : w'.cell? ⟨gb125, 11, none⟩ = some (.int .u32 a0_11) := (blk_cell BK125.out 11).trans rfl
                      have hc12_ : w'.cell? ⟨gb125, 12, none⟩ = some (.string a0_12) := (blk_cell BK125.out 12).trans rfl
                      have hc13_ : w'.cell? ⟨gb125, 13, none⟩ = some (.string a0_13) := (blk_cell BK125.out 13).trans rfl
                      have hc14_ : w'.cell? ⟨gb125, 14, none⟩ = some (.string a0_14) := (blk_cell BK125.out 14).trans rfl
                      refine value_ (w1 := w') (v := .int .u16 a0_3) (by rfl) rfl ?_ ?_
                      · go_simp
                        (try simp only [i64_w])
                        try rfl
                      refine hK.out _ _ ⟨v131, v135, v139, v143, (by rw [ha.out]; exact putSel_upk 3 hb_ rfl rfl rfl), Q_HO128, Q_BK125, Q_HB, fun h0_ => absurd ((hoff 8 (by kernel_rfl)).symm.trans h0_) (by decide), Q_HO136, Q_HO140, Q_HO144⟩
                    refine steps_cons ?_ ?_
                    · rintro b a w' ⟨v131, v135, v139, v143, ha, Q_HO128, Q_BK125, Q_HB, Q_HO132, Q_HO136, Q_HO140, Q_HO144⟩ hb_ hon hoff
                      refine ⟨_, rfl, fun K hK => ?_⟩
                      have e13 : a.tmps[13]? = some (.int .u16 a0_0) := by rw [ha]; exact putSel_on (e := (1, 13, .int .u16 a0_0)) 0 rfl rfl (hon 1 (by kernel_rfl)) rfl
                      have e15 : a.tmps[15]? = some (.int .u16 a0_1) := by rw [ha]; exact putSel_on (e := (3, 15, .int .u16 a0_1)) 1 rfl rfl (hon 3 (by kernel_rfl)) rfl
                      have e17 : a.tmps[17]? = some (.int .u16 a0_2) := by rw [ha]; exact putSel_on (e := (5, 17, .int .u16 a0_2)) 2 rfl rfl (hon 5 (by kernel_rfl)) rfl
                      have e19 : a.tmps[19]? = some (.int .u16 a0_3) := by rw [ha]; exact putSel_on (e := (7, 19, .int .u16 a0_3)) 3 rfl rfl (hon 7 (by kernel_rfl)) rfl
                      replace ha := Aside0.mk ha
                      have HO128 := Aside0.mk Q_HO128
                      have BK125 := Aside0.mk Q_BK125
                      have HB := Aside0.mk Q_HB
                      refine Kd.R_lit_step (Kd.int .u16) _ 22 ?hg (N := 20) ?hd (xs := ([a0_0, a0_1, a0_2, a0_3] : List Int)) (inner := [.int .u16 a0_0, .int .u16 a0_1, .int .u16 a0_2, .int .u16 a0_3]) (ok := fun _ => True) (okp := fun _ => True) ?hr ?hp (fun _ hk => hk) trivial (Below.refl _ _) (Nat.le_refl _) (by simp) ?_; (case hd => rfl); (case hg => rfl); (case hr => first | (go_simp; done) | (go_simp; rfl)); (case hp => exact (Reps.one (show Kd.M (Kd.int .u16) _ _ _ a0_0 [.int .u16 a0_0] from rfl) (Reps.one (show Kd.M (Kd.int .u16) _ _ _ a0_1 [.int .u16 a0_1] from rfl) (Reps.one (show Kd.M (Kd.int .u16) _ _ _ a0_2 [.int .u16 a0_2] from rfl) (Reps.one (show Kd.M (Kd.int .u16) _ _ _ a0_3 [.int .u16 a0_3] from rfl) (Reps.none _ _))))))
                      intro v131 w26 ho27 hb hg_ hnew_
                      clear hg_ hnew_
                      (first | rw [← Ny130.out] at ho27 | (simp only [Int.reduceToNat] at ho27; rw [← Ny130.out] at ho27))
                      have n0_ := Aside0.mk (Kd.R_below (by (with_reducible repeat (first | apply Kd.R_alloc | apply Kd.R_drewN | apply Kd.R_drew)); exact HO128.out) hb)
                      have n1_ := Aside0.mk (Kd.R_lower ho27 (below_size (by repeat (first | (with_reducible first | exact HB.out | apply below_alloc | apply pw_below_drewN | apply below_drew1 | refine below_set ?_ GE125.out) | exact HB.out))))
                      have n2_ := Aside0.mk (blk_below (g := gb125) (o := .cells #[.int .u16 a0_0, .int .u16 a0_1, .int .u16 a0_2, .int .u16 a0_3, .int .u32 a0_4, .int .u32 a0_5, .int .u32 a0_6, .int .u32 a0_7, .int .u16 a0_8, .int .u16 a0_9, .int .u32 a0_10, .int .u32 a0_11, .string a0_12, .string a0_13, .string a0_14] 27 (0, 0)) (by (with_reducible repeat (first | refine blk_drewN ?_ _ | refine blk_drew ?_ | refine blk_alloc ?_ _)); exact BK125.out) hb)
                      have n3_ := Aside0.mk (below_step (by repeat (first | (with_reducible first | exact HB.out | apply below_alloc | apply pw_below_drewN | apply below_drew1 | refine below_set ?_ GE125.out) | exact HB.out)) hb)
                      have z_HO136 := fun (h0_ : b 19 = true) => (show Kd.R (Kd.int .u32) 23 w26 w.heap.size (fun _ => True) v135 y134 from by first | exact (Kd.R_below (by (with_reducible repeat (first | apply Kd.R_alloc | apply Kd.R_drewN | apply Kd.R_drew)); exact (Q_HO136 h0_)) hb) | exact Kd.R_mono (Kd.R_below (by (with_reducible repeat (first | apply Kd.R_alloc | apply Kd.R_drewN | apply Kd.R_drew)); exact (Q_HO136 h0_)) hb) (fun _ h_ => by first | trivial | exact h_ | exact h_.1))
                      have z_HO140 := fun (h0_ : b 38 = true) => (show Kd.R (Kd.int .u16) 22 w26 w.heap.size (fun _ => True) v139 y138 from by first | exact (Kd.R_elder' (by (with_reducible repeat (first | apply Kd.R_alloc | apply Kd.R_drewN | apply Kd.R_drew)); exact (Q_HO140 h0_)) (Kd.R_base ho27) hb) | exact Kd.R_mono (Kd.R_elder' (by (with_reducible repeat (first | apply Kd.R_alloc | apply Kd.R_drewN | apply Kd.R_drew)); exact (Q_HO140 h0_)) (Kd.R_base ho27) hb) (fun _ h_ => by first | trivial | exact h_ | exact h_.1))
                      have z_HO144 := fun (h0_ : b 45 = true) => (show Kd.R (Kd.int .u32) 23 w26 w.heap.size (fun _ => True) v143 y142 from by first | exact (Kd.R_below (by (with_reducible repeat (first | apply Kd.R_alloc | apply Kd.R_drewN | apply Kd.R_drew)); exact (Q_HO144 h0_)) hb) | exact Kd.R_mono (Kd.R_below (by (with_reducible repeat (first | apply Kd.R_alloc | apply Kd.R_drewN | apply Kd.R_drew)); exact (Q_HO144 h0_)) hb) (fun _ h_ => by first | trivial | exact h_ | exact h_.1))
                      clear HO128
                      clear BK125
                      clear HB
                      have HO128 := n0_
                      have HO132 := n1_
                      have BK125 := n2_
                      have HB := n3_
                      clear n0_ n1_ n2_ n3_
                      clear hb ho27
                      refine hK.out _ _ ⟨v131, v135, v139, v143, (by rw [ha.out]; exact putSel_upk 4 hb_ rfl rfl rfl), (by (with_reducible repeat (first | apply Kd.R_alloc | apply Kd.R_drewN | apply Kd.R_drew)); exact HO128.out), (by (with_reducible repeat (first | refine blk_drewN ?_ _ | refine blk_drew ?_ | refine blk_alloc ?_ _)); exact BK125.out), (by repeat (first | (with_reducible first | exact HB.out | apply below_alloc | apply pw_below_drewN | apply below_drew1 | refine below_set ?_ GE125.out) | exact HB.out)), fun _ => (by (with_reducible repeat (first | apply Kd.R_alloc | apply Kd.R_drewN | apply Kd.R_drew)); exact HO132.out), z_HO136, z_HO140, z_HO144⟩
                    refine steps_cons ?_ ?_
                    · rintro b a w' ⟨v131, v135, v139, v143, ha, Q_HO128, Q_BK125, Q_HB, Q_HO132, Q_HO136, Q_HO140, Q_HO144⟩ hb_ hon hoff
                      refine ⟨_, rfl, fun K hK => ?_⟩
                      have e20 : a.tmps[20]? = some (v131) := by rw [ha]; exact putSel_on (e := (8, 20, v131)) 4 rfl rfl (hon 8 (by kernel_rfl)) rfl
                      replace ha := Aside0.mk ha
                      have HO128 := Aside0.mk Q_HO128
                      have BK125 := Aside0.mk Q_BK125
                      have HB := Aside0.mk Q_HB
                      have HO132 := Aside0.mk (Q_HO132 (hon 8 (by kernel_rfl)))
                      obtain ⟨Ao29, co29, eo29⟩ := Kd.R_slice HO132.out
                      (first | subst eo29 | (injection eo29 with f1_ f2_ f3_; have f4_ := f1_.symm; have f5_ := f3_.symm; clear f1_ f2_ f3_; subst f4_; subst f5_))
                      refine goes_ Try.func23 (by kernel_rfl) rfl #[.slice Ao29 y130.length co29] (by rfl) rfl rfl (by first | (simp only [List.map_toArray, List.map_cons, List.map_nil, Act.eval, Array.getD_eq_getD_getElem?, Option.getD_some, e20]; done) | (simp only [List.map_toArray, List.map_cons, List.map_nil, Act.eval, Array.getD_eq_getD_getElem?, Option.getD_some, e20]; rfl)) ?_
                      with_reducible refine (header_twos.calls _ _ y130 t133 _ ?side1 ?side2 A9.out).mono ?_
                      (case side1 => repeat (first | exact (Kd.R_reads' HO132.out).2.2 | (with_reducible refine Kd.C_alloc ?_ _) | (with_reducible refine Kd.C_drewN ?_ _) | (with_reducible refine Kd.C_drew ?_)))
                      (case side2 => exact (Kd.R_reads' HO132.out).2.1)
                      rintro e w30 ⟨rfl, hb⟩
                      refine ⟨_, rfl, ?_⟩
                      have n0_ := Aside0.mk (Kd.R_below (by (with_reducible repeat (first | apply Kd.R_alloc | apply Kd.R_drewN | apply Kd.R_drew)); exact HO128.out) hb)
                      have n1_ := Aside0.mk (Kd.R_below (by (with_reducible repeat (first | apply Kd.R_alloc | apply Kd.R_drewN | apply Kd.R_drew)); exact HO132.out) hb)
                      have n2_ := Aside0.mk (blk_below (g := gb125) (o := .cells #[.int .u16 a0_0, .int .u16 a0_1, .int .u16 a0_2, .int .u16 a0_3, .int .u32 a0_4, .int .u32 a0_5, .int .u32 a0_6, .int .u32 a0_7, .int .u16 a0_8, .int .u16 a0_9, .int .u32 a0_10, .int .u32 a0_11, .string a0_12, .string a0_13, .string a0_14] 27 (0, 0)) (by (with_reducible repeat (first | refine blk_drewN ?_ _ | refine blk_drew ?_ | refine blk_alloc ?_ _)); exact BK125.out) hb)
                      have n3_ := Aside0.mk (below_step (by repeat (first | (with_reducible first | exact HB.out | apply below_alloc | apply pw_below_drewN | apply below_drew1 | refine below_set ?_ GE125.out) | exact HB.out)) hb)
                      have z_HO136 := fun (h0_ : b 19 = true) => (show Kd.R (Kd.int .u32) 23 w30 w.heap.size (fun _ => True) v135 y134 from by first | exact (Kd.R_below (by (with_reducible repeat (first | apply Kd.R_alloc | apply Kd.R_drewN | apply Kd.R_drew)); exact (Q_HO136 h0_)) hb) | exact Kd.R_mono (Kd.R_below (by (with_reducible repeat (first | apply Kd.R_alloc | apply Kd.R_drewN | apply Kd.R_drew)); exact (Q_HO136 h0_)) hb) (fun _ h_ => by first | trivial | exact h_ | exact h_.1))
                      have z_HO140 := fun (h0_ : b 38 = true) => (show Kd.R (Kd.int .u16) 22 w30 w.heap.size (fun _ => True) v139 y138 from by first | exact (Kd.R_below (by (with_reducible repeat (first | apply Kd.R_alloc | apply Kd.R_drewN | apply Kd.R_drew)); exact (Q_HO140 h0_)) hb) | exact Kd.R_mono (Kd.R_below (by (with_reducible repeat (first | apply Kd.R_alloc | apply Kd.R_drewN | apply Kd.R_drew)); exact (Q_HO140 h0_)) hb) (fun _ h_ => by first | trivial | exact h_ | exact h_.1))
                      have z_HO144 := fun (h0_ : b 45 = true) => (show Kd.R (Kd.int .u32) 23 w30 w.heap.size (fun _ => True) v143 y142 from by first | exact (Kd.R_below (by (with_reducible repeat (first | apply Kd.R_alloc | apply Kd.R_drewN | apply Kd.R_drew)); exact (Q_HO144 h0_)) hb) | exact Kd.R_mono (Kd.R_below (by (with_reducible repeat (first | apply Kd.R_alloc | apply Kd.R_drewN | apply Kd.R_drew)); exact (Q_HO144 h0_)) hb) (fun _ h_ => by first | trivial | exact h_ | exact h_.1))
                      clear HO128
                      clear HO132
                      clear BK125
                      clear HB
                      have HO128 := n0_
                      have HO132 := n1_
                      have BK125 := n2_
                      have HB := n3_
                      clear n0_ n1_ n2_ n3_
                      (try clear hb)
                      (try clear hb2)
                      (try clear hk)
                      (try clear hi)
                      refine hK.out _ _ ⟨.slice Ao29 y130.length co29, v135, v139, v143, (by rw [ha.out]; exact putSel_upk 5 hb_ rfl rfl rfl), (by (with_reducible repeat (first | apply Kd.R_alloc | apply Kd.R_drewN | apply Kd.R_drew)); exact HO128.out), (by (with_reducible repeat (first | refine blk_drewN ?_ _ | refine blk_drew ?_ | refine blk_alloc ?_ _)); exact BK125.out), (by repeat (first | (with_reducible first | exact HB.out | apply below_alloc | apply pw_below_drewN | apply below_drew1 | refine below_set ?_ GE125.out) | exact HB.out)), fun _ => (by (with_reducible repeat (first | apply Kd.R_alloc | apply Kd.R_drewN | apply Kd.R_drew)); exact HO132.out), z_HO136, z_HO140, z_HO144⟩
                    refine steps_cons ?_ ?_
                    · rintro b a w' ⟨v131, v135, v139, v143, ha, Q_HO128, Q_BK125, Q_HB, Q_HO132, Q_HO136, Q_HO140, Q_HO144⟩ hb_ hon hoff
                      refine ⟨_, rfl, fun K hK => ?_⟩
                      have e21 : a.tmps[21]? = some (.string t133) := by rw [ha]; exact putSel_on (e := (9, 21, .string t133)) 5 rfl rfl (hon 9 (by kernel_rfl)) rfl
                      replace ha := Aside0.mk ha
                      have HO128 := Aside0.mk Q_HO128
                      have BK125 := Aside0.mk Q_BK125
                      have HB := Aside0.mk Q_HB
                      have HO132 := Aside0.mk (Q_HO132 (hon 8 (by kernel_rfl)))
                      refine value_ (w1 := w') (v := .string ((⟨#[80, 75, 1, 2]⟩ : ByteArray) ++ t133)) (by rfl) rfl ?_ ?_
                      · go_simp
                        (try simp only [i64_w])
                        try rfl
                      refine hK.out _ _ ⟨v131, v135, v139, v143, (by rw [ha.out]; exact putSel_upk 6 hb_ rfl rfl rfl), Q_HO128, Q_BK125, Q_HB, Q_HO132, Q_HO136, Q_HO140, Q_HO144⟩
                    refine steps_cons ?_ ?_
                    · rintro b a w' ⟨v131, v135, v139, v143, ha, Q_HO128, Q_BK125, Q_HB, Q_HO132, Q_HO136, Q_HO140, Q_HO144⟩ hb_ hon hoff
                      refine ⟨_, rfl, fun K hK => ?_⟩
                      have e23 : a.tmps[23]? = some (.pointer (some ⟨gb125, 4, none⟩)) := by rw [ha]; exact (putSel_off rfl).trans rfl
                      replace ha := Aside0.mk ha
                      have HO128 := Aside0.mk Q_HO128
                      have BK125 := Aside0.mk Q_BK125
                      have HB := Aside0.mk Q_HB
                      have hc0_ : w'.cell? ⟨gb125, 0, none⟩ = some (.int .u16 a0_0) := (blk_cell BK125.out 0).trans rfl
                      have hc1_ : w'.cell? ⟨gb125, 1, none⟩ = some (.int .u16 a0_1) := (blk_cell BK125.out 1).trans rfl
                      have hc2_ : w'.cell? ⟨gb125, 2, none⟩ = some (.int .u16 a0_2) := (blk_cell BK125.out 2).trans rfl
                      have hc3_ : w'.cell? ⟨gb125, 3, none⟩ = some (.int .u16 a0_3) := (blk_cell BK125.out 3).trans rfl
                      have hc4_ : w'.cell? ⟨gb125, 4, none⟩ = some (.int .u32 a0_4) := (blk_cell BK125.out 4).trans rfl
                      have hc5_ : w'.cell? ⟨gb125, 5, none⟩ = some (.int .u32 a0_5) := (blk_cell BK125.out 5).trans rfl
                      have hc6_ : w'.cell? ⟨gb125, 6, none⟩ = some (.int .u32 a0_6) := (blk_cell BK125.out 6).trans rfl
                      have hc7_ : w'.cell? ⟨gb125, 7, none⟩ = some (.int .u32 a0_7) := (blk_cell BK125.out 7).trans rfl
                      have hc8_ : w'.cell? ⟨gb125, 8, none⟩ = some (.int .u16 a0_8) := (blk_cell BK125.out 8).trans rfl
                      have hc9_ : w'.cell? ⟨gb125, 9, none⟩ = some (.int .u16 a0_9) := (blk_cell BK125.out 9).trans rfl
                      have hc10_ : w'.cell? ⟨gb125, 10, none⟩ = some (.int .u32 a0_10) := (blk_cell BK125.out 10).trans rfl
                      have hc11_ : w'.cell? ⟨gb125, 11, none⟩ = some (.int .u32 a0_11) := (blk_cell BK125.out 11).trans rfl
                      have hc12_ : w'.cell? ⟨gb125, 12, none⟩ = some (.string a0_12) := (blk_cell BK125.out 12).trans rfl
                      have hc13_ : w'.cell? ⟨gb125, 13, none⟩ = some (.string a0_13) := (blk_cell BK125.out 13).trans rfl
                      have hc14_ : w'.cell? ⟨gb125, 14, none⟩ = some (.string a0_14) := (blk_cell BK125.out 14).trans rfl
                      refine value_ (w1 := w') (v := .int .u32 a0_4) (by rfl) rfl ?_ ?_
                      · go_simp
                        (try simp only [i64_w])
                        try rfl
                      refine hK.out _ _ ⟨v131, v135, v139, v143, (by rw [ha.out]; exact putSel_upk 7 hb_ rfl rfl rfl), Q_HO128, Q_BK125, Q_HB, Q_HO132, fun h0_ => absurd ((hoff 19 (by kernel_rfl)).symm.trans h0_) (by decide), Q_HO140, Q_HO144⟩
                    refine steps_cons ?_ ?_
                    · rintro b a w' ⟨v131, v135, v139, v143, ha, Q_HO128, Q_BK125, Q_HB, Q_HO132, Q_HO136, Q_HO140, Q_HO144⟩ hb_ hon hoff
                      refine ⟨_, rfl, fun K hK => ?_⟩
                      have e25 : a.tmps[25]? = some (.pointer (some ⟨gb125, 5, none⟩)) := by rw [ha]; exact (putSel_off rfl).trans rfl
                      replace ha := Aside0.mk ha
                      have HO128 := Aside0.mk Q_HO128
                      have BK125 := Aside0.mk Q_BK125
                      have HB := Aside0.mk Q_HB
                      have hc0_ : w'.cell? ⟨gb125, 0, none⟩ = some (.int .u16 a0_0) := (blk_cell BK125.out 0).trans rfl
                      have hc1_ : w'.cell? ⟨gb125, 1, none⟩ = some (.int .u16 a0_1) := (blk_cell BK125.out 1).trans rfl
                      have hc2_ : w'.cell? ⟨gb125, 2, none⟩ = some (.int .u16 a0_2) := (blk_cell BK125.out 2).trans rfl
                      have hc3_ : w'.cell? ⟨gb125, 3, none⟩ = some (.int .u16 a0_3) := (blk_cell BK125.out 3).trans rfl
                      have hc4_ : w'.cell? ⟨gb125, 4, none⟩ = some (.int .u32 a0_4) := (blk_cell BK125.out 4).trans rfl
                      have hc5_ : w'.cell? ⟨gb125, 5, none⟩ = some (.int .u32 a0_5) := (blk_cell BK125.out 5).trans rfl
                      have hc6_ : w'.cell? ⟨gb125, 6, none⟩ = some (.int .u32 a0_6) := (blk_cell BK125.out 6).trans rfl
                      have hc7_ : w'.cell? ⟨gb125, 7, none⟩ = some (.int .u32 a0_7) := (blk_cell BK125.out 7).trans rfl
                      have hc8_ : w'.cell? ⟨gb125, 8, none⟩ = some (.int .u16 a0_8) := (blk_cell BK125.out 8).trans rfl
                      have hc9_ : w'.cell? ⟨gb125, 9, none⟩ = some (.int .u16 a0_9) := (blk_cell BK125.out 9).trans rfl
                      have hc10_ : w'.cell? ⟨gb125, 10, none⟩ = some (.int .u32 a0_10) := (blk_cell BK125.out 10).trans rfl
                      have hc11_ : w'.cell? ⟨gb125, 11, none⟩ = some (.int .u32 a0_11) := (blk_cell BK125.out 11).trans rfl
                      have hc12_ : w'.cell? ⟨gb125, 12, none⟩ = some (.string a0_12) := (blk_cell BK125.out 12).trans rfl
                      have hc13_ : w'.cell? ⟨gb125, 13, none⟩ = some (.string a0_13) := (blk_cell BK125.out 13).trans rfl
                      have hc14_ : w'.cell? ⟨gb125, 14, none⟩ = some (.string a0_14) := (blk_cell BK125.out 14).trans rfl
                      refine value_ (w1 := w') (v := .int .u32 a0_5) (by rfl) rfl ?_ ?_
                      · go_simp
                        (try simp only [i64_w])
                        try rfl
                      refine hK.out _ _ ⟨v131, v135, v139, v143, (by rw [ha.out]; exact putSel_upk 8 hb_ rfl rfl rfl), Q_HO128, Q_BK125, Q_HB, Q_HO132, fun h0_ => absurd ((hoff 19 (by kernel_rfl)).symm.trans h0_) (by decide), Q_HO140, Q_HO144⟩
                    refine steps_cons ?_ ?_
                    · rintro b a w' ⟨v131, v135, v139, v143, ha, Q_HO128, Q_BK125, Q_HB, Q_HO132, Q_HO136, Q_HO140, Q_HO144⟩ hb_ hon hoff
                      refine ⟨_, rfl, fun K hK => ?_⟩
                      have e27 : a.tmps[27]? = some (.pointer (some ⟨gb125, 6, none⟩)) := by rw [ha]; exact (putSel_off rfl).trans rfl
                      replace ha := Aside0.mk ha
                      have HO128 := Aside0.mk Q_HO128
                      have BK125 := Aside0.mk Q_BK125
                      have HB := Aside0.mk Q_HB
                      have hc0_ : w'.cell? ⟨gb125, 0, none⟩ = some (.int .u16 a0_0) := (blk_cell BK125.out 0).trans rfl
                      have hc1_ : w'.cell? ⟨gb125, 1, none⟩ = some (.int .u16 a0_1) := (blk_cell BK125.out 1).trans rfl
                      have hc2_ : w'.cell? ⟨gb125, 2, none⟩ = some (.int .u16 a0_2) := (blk_cell BK125.out 2).trans rfl
                      have hc3_ : w'.cell? ⟨gb125, 3, none⟩ = some (.int .u16 a0_3) := (blk_cell BK125.out 3).trans rfl
                      have hc4_ : w'.cell? ⟨gb125, 4, none⟩ = some (.int .u32 a0_4) := (blk_cell BK125.out 4).trans rfl
                      have hc5_ : w'.cell? ⟨gb125, 5, none⟩ = some (.int .u32 a0_5) := (blk_cell BK125.out 5).trans rfl
                      have hc6_ : w'.cell? ⟨gb125, 6, none⟩ = some (.int .u32 a0_6) := (blk_cell BK125.out 6).trans rfl
                      have hc7_ : w'.cell? ⟨gb125, 7, none⟩ = some (.int .u32 a0_7) := (blk_cell BK125.out 7).trans rfl
                      have hc8_ : w'.cell? ⟨gb125, 8, none⟩ = some (.int .u16 a0_8) := (blk_cell BK125.out 8).trans rfl
                      have hc9_ : w'.cell? ⟨gb125, 9, none⟩ = some (.int .u16 a0_9) := (blk_cell BK125.out 9).trans rfl
                      have hc10_ : w'.cell? ⟨gb125, 10, none⟩ = some (.int .u32 a0_10) := (blk_cell BK125.out 10).trans rfl
                      have hc11_ : w'.cell? ⟨gb125, 11, none⟩ = some (.int .u32 a0_11) := (blk_cell BK125.out 11).trans rfl
                      have hc12_ : w'.cell? ⟨gb125, 12, none⟩ = some (.string a0_12) := (blk_cell BK125.out 12).trans rfl
                      have hc13_ : w'.cell? ⟨gb125, 13, none⟩ = some (.string a0_13) := (blk_cell BK125.out 13).trans rfl
                      have hc14_ : w'.cell? ⟨gb125, 14, none⟩ = some (.string a0_14) := (blk_cell BK125.out 14).trans rfl
                      refine value_ (w1 := w') (v := .int .u32 a0_6) (by rfl) rfl ?_ ?_
                      · go_simp
                        (try simp only [i64_w])
                        try rfl
                      refine hK.out _ _ ⟨v131, v135, v139, v143, (by rw [ha.out]; exact putSel_upk 9 hb_ rfl rfl rfl), Q_HO128, Q_BK125, Q_HB, Q_HO132, fun h0_ => absurd ((hoff 19 (by kernel_rfl)).symm.trans h0_) (by decide), Q_HO140, Q_HO144⟩
                    refine steps_cons ?_ ?_
                    · rintro b a w' ⟨v131, v135, v139, v143, ha, Q_HO128, Q_BK125, Q_HB, Q_HO132, Q_HO136, Q_HO140, Q_HO144⟩ hb_ hon hoff
                      refine ⟨_, rfl, fun K hK => ?_⟩
                      have e29 : a.tmps[29]? = some (.pointer (some ⟨gb125, 7, none⟩)) := by rw [ha]; exact (putSel_off rfl).trans rfl
                      replace ha := Aside0.mk ha
                      have HO128 := Aside0.mk Q_HO128
                      have BK125 := Aside0.mk Q_BK125
                      have HB := Aside0.mk Q_HB
                      have hc0_ : w'.cell? ⟨gb125, 0, none⟩ = some (.int .u16 a0_0) := (blk_cell BK125.out 0).trans rfl
                      have hc1_ : w'.cell? ⟨gb125, 1, none⟩ = some (.int .u16 a0_1) := (blk_cell BK125.out 1).trans rfl
                      have hc2_ : w'.cell? ⟨gb125, 2, none⟩ = some (.int .u16 a0_2) := (blk_cell BK125.out 2).trans rfl
                      have hc3_ : w'.cell? ⟨gb125, 3, none⟩ = some (.int .u16 a0_3) := (blk_cell BK125.out 3).trans rfl
                      have hc4_ : w'.cell? ⟨gb125, 4, none⟩ = some (.int .u32 a0_4) := (blk_cell BK125.out 4).trans rfl
                      have hc5_ : w'.cell? ⟨gb125, 5, none⟩ = some (.int .u32 a0_5) := (blk_cell BK125.out 5).trans rfl
                      have hc6_ : w'.cell? ⟨gb125, 6, none⟩ = some (.int .u32 a0_6) := (blk_cell BK125.out 6).trans rfl
                      have hc7_ : w'.cell? ⟨gb125, 7, none⟩ = some (.int .u32 a0_7) := (blk_cell BK125.out 7).trans rfl
                      have hc8_ : w'.cell? ⟨gb125, 8, none⟩ = some (.int .u16 a0_8) := (blk_cell BK125.out 8).trans rfl
                      have hc9_ : w'.cell? ⟨gb125, 9, none⟩ = some (.int .u16 a0_9) := (blk_cell BK125.out 9).trans rfl
                      have hc10_ : w'.cell? ⟨gb125, 10, none⟩ = some (.int .u32 a0_10) := (blk_cell BK125.out 10).trans rfl
                      have hc11_ : w'.cell? ⟨gb125, 11, none⟩ = some (.int .u32 a0_11) := (blk_cell BK125.out 11).trans rfl
                      have hc12_ : w'.cell? ⟨gb125, 12, none⟩ = some (.string a0_12) := (blk_cell BK125.out 12).trans rfl
                      have hc13_ : w'.cell? ⟨gb125, 13, none⟩ = some (.string a0_13) := (blk_cell BK125.out 13).trans rfl
                      have hc14_ : w'.cell? ⟨gb125, 14, none⟩ = some (.string a0_14) := (blk_cell BK125.out 14).trans rfl
                      refine value_ (w1 := w') (v := .int .u32 a0_7) (by rfl) rfl ?_ ?_
                      · go_simp
                        (try simp only [i64_w])
                        try rfl
                      refine hK.out _ _ ⟨v131, v135, v139, v143, (by rw [ha.out]; exact putSel_upk 10 hb_ rfl rfl rfl), Q_HO128, Q_BK125, Q_HB, Q_HO132, fun h0_ => absurd ((hoff 19 (by kernel_rfl)).symm.trans h0_) (by decide), Q_HO140, Q_HO144⟩
                    refine steps_cons ?_ ?_
                    · rintro b a w' ⟨v131, v135, v139, v143, ha, Q_HO128, Q_BK125, Q_HB, Q_HO132, Q_HO136, Q_HO140, Q_HO144⟩ hb_ hon hoff
                      refine ⟨_, rfl, fun K hK => ?_⟩
                      have e24 : a.tmps[24]? = some (.int .u32 a0_4) := by rw [ha]; exact putSel_on (e := (12, 24, .int .u32 a0_4)) 7 rfl rfl (hon 12 (by kernel_rfl)) rfl
                      have e26 : a.tmps[26]? = some (.int .u32 a0_5) := by rw [ha]; exact putSel_on (e := (14, 26, .int .u32 a0_5)) 8 rfl rfl (hon 14 (by kernel_rfl)) rfl
                      have e28 : a.tmps[28]? = some (.int .u32 a0_6) := by rw [ha]; exact putSel_on (e := (16, 28, .int .u32 a0_6)) 9 rfl rfl (hon 16 (by kernel_rfl)) rfl
                      have e30 : a.tmps[30]? = some (.int .u32 a0_7) := by rw [ha]; exact putSel_on (e := (18, 30, .int .u32 a0_7)) 10 rfl rfl (hon 18 (by kernel_rfl)) rfl
                      replace ha := Aside0.mk ha
                      have HO128 := Aside0.mk Q_HO128
                      have BK125 := Aside0.mk Q_BK125
                      have HB := Aside0.mk Q_HB
                      refine Kd.R_lit_step (Kd.int .u32) _ 23 ?hg (N := 31) ?hd (xs := ([a0_4, a0_5, a0_6, a0_7] : List Int)) (inner := [.int .u32 a0_4, .int .u32 a0_5, .int .u32 a0_6, .int .u32 a0_7]) (ok := fun _ => True) (okp := fun _ => True) ?hr ?hp (fun _ hk => hk) trivial (Below.refl _ _) (Nat.le_refl _) (by simp) ?_; (case hd => rfl); (case hg => rfl); (case hr => first | (go_simp; done) | (go_simp; rfl)); (case hp => exact (Reps.one (show Kd.M (Kd.int .u32) _ _ _ a0_4 [.int .u32 a0_4] from rfl) (Reps.one (show Kd.M (Kd.int .u32) _ _ _ a0_5 [.int .u32 a0_5] from rfl) (Reps.one (show Kd.M (Kd.int .u32) _ _ _ a0_6 [.int .u32 a0_6] from rfl) (Reps.one (show Kd.M (Kd.int .u32) _ _ _ a0_7 [.int .u32 a0_7] from rfl) (Reps.none _ _))))))
                      intro v135 w26 ho27 hb hg_ hnew_
                      clear hg_ hnew_
                      (first | rw [← Ny134.out] at ho27 | (simp only [Int.reduceToNat] at ho27; rw [← Ny134.out] at ho27))
                      have n0_ := Aside0.mk (Kd.R_below (by (with_reducible repeat (first | apply Kd.R_alloc | apply Kd.R_drewN | apply Kd.R_drew)); exact HO128.out) hb)
                      have n1_ := Aside0.mk (Kd.R_lower ho27 (below_size (by repeat (first | (with_reducible first | exact HB.out | apply below_alloc | apply pw_below_drewN | apply below_drew1 | refine below_set ?_ GE125.out) | exact HB.out))))
                      have n2_ := Aside0.mk (blk_below (g := gb125) (o := .cells #[.int .u16 a0_0, .int .u16 a0_1, .int .u16 a0_2, .int .u16 a0_3, .int .u32 a0_4, .int .u32 a0_5, .int .u32 a0_6, .int .u32 a0_7, .int .u16 a0_8, .int .u16 a0_9, .int .u32 a0_10, .int .u32 a0_11, .string a0_12, .string a0_13, .string a0_14] 27 (0, 0)) (by (with_reducible repeat (first | refine blk_drewN ?_ _ | refine blk_drew ?_ | refine blk_alloc ?_ _)); exact BK125.out) hb)
                      have n3_ := Aside0.mk (below_step (by repeat (first | (with_reducible first | exact HB.out | apply below_alloc | apply pw_below_drewN | apply below_drew1 | refine below_set ?_ GE125.out) | exact HB.out)) hb)
                      have z_HO132 := fun (h0_ : b 8 = true) => (show Kd.R (Kd.int .u16) 22 w26 w.heap.size (fun _ => True) v131 y130 from by first | exact (Kd.R_below (by (with_reducible repeat (first | apply Kd.R_alloc | apply Kd.R_drewN | apply Kd.R_drew)); exact (Q_HO132 h0_)) hb) | exact Kd.R_mono (Kd.R_below (by (with_reducible repeat (first | apply Kd.R_alloc | apply Kd.R_drewN | apply Kd.R_drew)); exact (Q_HO132 h0_)) hb) (fun _ h_ => by first | trivial | exact h_ | exact h_.1))
                      have z_HO140 := fun (h0_ : b 38 = true) => (show Kd.R (Kd.int .u16) 22 w26 w.heap.size (fun _ => True) v139 y138 from by first | exact (Kd.R_below (by (with_reducible repeat (first | apply Kd.R_alloc | apply Kd.R_drewN | apply Kd.R_drew)); exact (Q_HO140 h0_)) hb) | exact Kd.R_mono (Kd.R_below (by (with_reducible repeat (first | apply Kd.R_alloc | apply Kd.R_drewN | apply Kd.R_drew)); exact (Q_HO140 h0_)) hb) (fun _ h_ => by first | trivial | exact h_ | exact h_.1))
                      have z_HO144 := fun (h0_ : b 45 = true) => (show Kd.R (Kd.int .u32) 23 w26 w.heap.size (fun _ => True) v143 y142 from by first | exact (Kd.R_elder' (by (with_reducible repeat (first | apply Kd.R_alloc | apply Kd.R_drewN | apply Kd.R_drew)); exact (Q_HO144 h0_)) (Kd.R_base ho27) hb) | exact Kd.R_mono (Kd.R_elder' (by (with_reducible repeat (first | apply Kd.R_alloc | apply Kd.R_drewN | apply Kd.R_drew)); exact (Q_HO144 h0_)) (Kd.R_base ho27) hb) (fun _ h_ => by first | trivial | exact h_ | exact h_.1))
                      clear HO128
                      clear BK125
                      clear HB
                      have HO128 := n0_
                      have HO136 := n1_
                      have BK125 := n2_
                      have HB := n3_
                      clear n0_ n1_ n2_ n3_
                      clear hb ho27
                      refine hK.out _ _ ⟨v131, v135, v139, v143, (by rw [ha.out]; exact putSel_upk 11 hb_ rfl rfl rfl), (by (with_reducible repeat (first | apply Kd.R_alloc | apply Kd.R_drewN | apply Kd.R_drew)); exact HO128.out), (by (with_reducible repeat (first | refine blk_drewN ?_ _ | refine blk_drew ?_ | refine blk_alloc ?_ _)); exact BK125.out), (by repeat (first | (with_reducible first | exact HB.out | apply below_alloc | apply pw_below_drewN | apply below_drew1 | refine below_set ?_ GE125.out) | exact HB.out)), z_HO132, fun _ => (by (with_reducible repeat (first | apply Kd.R_alloc | apply Kd.R_drewN | apply Kd.R_drew)); exact HO136.out), z_HO140, z_HO144⟩
                    refine steps_cons ?_ ?_
                    · rintro b a w' ⟨v131, v135, v139, v143, ha, Q_HO128, Q_BK125, Q_HB, Q_HO132, Q_HO136, Q_HO140, Q_HO144⟩ hb_ hon hoff
                      refine ⟨_, rfl, fun K hK => ?_⟩
                      have e31 : a.tmps[31]? = some (v135) := by rw [ha]; exact putSel_on (e := (19, 31, v135)) 11 rfl rfl (hon 19 (by kernel_rfl)) rfl
                      replace ha := Aside0.mk ha
                      have HO128 := Aside0.mk Q_HO128
                      have BK125 := Aside0.mk Q_BK125
                      have HB := Aside0.mk Q_HB
                      have HO132 := Aside0.mk (Q_HO132 (hon 8 (by kernel_rfl)))
                      have HO136 := Aside0.mk (Q_HO136 (hon 19 (by kernel_rfl)))
                      obtain ⟨Ao33, co33, eo33⟩ := Kd.R_slice HO136.out
                      (first | subst eo33 | (injection eo33 with f1_ f2_ f3_; have f4_ := f1_.symm; have f5_ := f3_.symm; clear f1_ f2_ f3_; subst f4_; subst f5_))
                      refine goes_ Try.func24 (by kernel_rfl) rfl #[.slice Ao33 y134.length co33] (by rfl) rfl rfl (by first | (simp only [List.map_toArray, List.map_cons, List.map_nil, Act.eval, Array.getD_eq_getD_getElem?, Option.getD_some, e31]; done) | (simp only [List.map_toArray, List.map_cons, List.map_nil, Act.eval, Array.getD_eq_getD_getElem?, Option.getD_some, e31]; rfl)) ?_
                      with_reducible refine (header_fours.calls _ _ y134 t137 _ ?side1 ?side2 A11.out).mono ?_
                      (case side1 => repeat (first | exact (Kd.R_reads' HO136.out).2.2 | (with_reducible refine Kd.C_alloc ?_ _) | (with_reducible refine Kd.C_drewN ?_ _) | (with_reducible refine Kd.C_drew ?_)))
                      (case side2 => exact (Kd.R_reads' HO136.out).2.1)
                      rintro e w34 ⟨rfl, hb⟩
                      refine ⟨_, rfl, ?_⟩
                      have n0_ := Aside0.mk (Kd.R_below (by (with_reducible repeat (first | apply Kd.R_alloc | apply Kd.R_drewN | apply Kd.R_drew)); exact HO128.out) hb)
                      have n1_ := Aside0.mk (Kd.R_below (by (with_reducible repeat (first | apply Kd.R_alloc | apply Kd.R_drewN | apply Kd.R_drew)); exact HO132.out) hb)
                      have n2_ := Aside0.mk (Kd.R_below (by (with_reducible repeat (first | apply Kd.R_alloc | apply Kd.R_drewN | apply Kd.R_drew)); exact HO136.out) hb)
                      have n3_ := Aside0.mk (blk_below (g := gb125) (o := .cells #[.int .u16 a0_0, .int .u16 a0_1, .int .u16 a0_2, .int .u16 a0_3, .int .u32 a0_4, .int .u32 a0_5, .int .u32 a0_6, .int .u32 a0_7, .int .u16 a0_8, .int .u16 a0_9, .int .u32 a0_10, .int .u32 a0_11, .string a0_12, .string a0_13, .string a0_14] 27 (0, 0)) (by (with_reducible repeat (first | refine blk_drewN ?_ _ | refine blk_drew ?_ | refine blk_alloc ?_ _)); exact BK125.out) hb)
                      have n4_ := Aside0.mk (below_step (by repeat (first | (with_reducible first | exact HB.out | apply below_alloc | apply pw_below_drewN | apply below_drew1 | refine below_set ?_ GE125.out) | exact HB.out)) hb)
                      have z_HO140 := fun (h0_ : b 38 = true) => (show Kd.R (Kd.int .u16) 22 w34 w.heap.size (fun _ => True) v139 y138 from by first | exact (Kd.R_below (by (with_reducible repeat (first | apply Kd.R_alloc | apply Kd.R_drewN | apply Kd.R_drew)); exact (Q_HO140 h0_)) hb) | exact Kd.R_mono (Kd.R_below (by (with_reducible repeat (first | apply Kd.R_alloc | apply Kd.R_drewN | apply Kd.R_drew)); exact (Q_HO140 h0_)) hb) (fun _ h_ => by first | trivial | exact h_ | exact h_.1))
                      have z_HO144 := fun (h0_ : b 45 = true) => (show Kd.R (Kd.int .u32) 23 w34 w.heap.size (fun _ => True) v143 y142 from by first | exact (Kd.R_below (by (with_reducible repeat (first | apply Kd.R_alloc | apply Kd.R_drewN | apply Kd.R_drew)); exact (Q_HO144 h0_)) hb) | exact Kd.R_mono (Kd.R_below (by (with_reducible repeat (first | apply Kd.R_alloc | apply Kd.R_drewN | apply Kd.R_drew)); exact (Q_HO144 h0_)) hb) (fun _ h_ => by first | trivial | exact h_ | exact h_.1))
                      clear HO128
                      clear HO132
                      clear HO136
                      clear BK125
                      clear HB
                      have HO128 := n0_
                      have HO132 := n1_
                      have HO136 := n2_
                      have BK125 := n3_
                      have HB := n4_
                      clear n0_ n1_ n2_ n3_ n4_
                      (try clear hb)
                      (try clear hb2)
                      (try clear hk)
                      (try clear hi)
                      refine hK.out _ _ ⟨v131, .slice Ao33 y134.length co33, v139, v143, (by rw [ha.out]; exact putSel_upk 12 hb_ rfl rfl rfl), (by (with_reducible repeat (first | apply Kd.R_alloc | apply Kd.R_drewN | apply Kd.R_drew)); exact HO128.out), (by (with_reducible repeat (first | refine blk_drewN ?_ _ | refine blk_drew ?_ | refine blk_alloc ?_ _)); exact BK125.out), (by repeat (first | (with_reducible first | exact HB.out | apply below_alloc | apply pw_below_drewN | apply below_drew1 | refine below_set ?_ GE125.out) | exact HB.out)), fun _ => (by (with_reducible repeat (first | apply Kd.R_alloc | apply Kd.R_drewN | apply Kd.R_drew)); exact HO132.out), fun _ => (by (with_reducible repeat (first | apply Kd.R_alloc | apply Kd.R_drewN | apply Kd.R_drew)); exact HO136.out), z_HO140, z_HO144⟩
                    refine steps_cons ?_ ?_
                    · rintro b a w' ⟨v131, v135, v139, v143, ha, Q_HO128, Q_BK125, Q_HB, Q_HO132, Q_HO136, Q_HO140, Q_HO144⟩ hb_ hon hoff
                      refine ⟨_, rfl, fun K hK => ?_⟩
                      have e22 : a.tmps[22]? = some (.string ((⟨#[80, 75, 1, 2]⟩ : ByteArray) ++ t133)) := by rw [ha]; exact putSel_on (e := (10, 22, .string ((⟨#[80, 75, 1, 2]⟩ : ByteArray) ++ t133))) 6 rfl rfl (hon 10 (by kernel_rfl)) rfl
                      have e32 : a.tmps[32]? = some (.string t137) := by rw [ha]; exact putSel_on (e := (20, 32, .string t137)) 12 rfl rfl (hon 20 (by kernel_rfl)) rfl
                      replace ha := Aside0.mk ha
                      have HO128 := Aside0.mk Q_HO128
                      have BK125 := Aside0.mk Q_BK125
                      have HB := Aside0.mk Q_HB
                      have HO132 := Aside0.mk (Q_HO132 (hon 8 (by kernel_rfl)))
                      have HO136 := Aside0.mk (Q_HO136 (hon 19 (by kernel_rfl)))
                      refine value_ (w1 := w') (v := .string (((⟨#[80, 75, 1, 2]⟩ : ByteArray) ++ t133) ++ t137)) (by rfl) rfl ?_ ?_
                      · go_simp
                        (try simp only [i64_w])
                        try rfl
                      refine hK.out _ _ ⟨v131, v135, v139, v143, (by rw [ha.out]; exact putSel_upk 13 hb_ rfl rfl rfl), Q_HO128, Q_BK125, Q_HB, Q_HO132, Q_HO136, Q_HO140, Q_HO144⟩
                    refine steps_cons ?_ ?_
                    · rintro b a w' ⟨v131, v135, v139, v143, ha, Q_HO128, Q_BK125, Q_HB, Q_HO132, Q_HO136, Q_HO140, Q_HO144⟩ hb_ hon hoff
                      refine ⟨_, rfl, fun K hK => ?_⟩
                      have e34 : a.tmps[34]? = some (.pointer (some ⟨gb125, 12, none⟩)) := by rw [ha]; exact (putSel_off rfl).trans rfl
                      replace ha := Aside0.mk ha
                      have HO128 := Aside0.mk Q_HO128
                      have BK125 := Aside0.mk Q_BK125
                      have HB := Aside0.mk Q_HB
                      have hc0_ : w'.cell? ⟨gb125, 0, none⟩ = some (.int .u16 a0_0) := (blk_cell BK125.out 0).trans rfl
                      have hc1_ : w'.cell? ⟨gb125, 1, none⟩ = some (.int .u16 a0_1) := (blk_cell BK125.out 1).trans rfl
                      have hc2_ : w'.cell? ⟨gb125, 2, none⟩ = some (.int .u16 a0_2) := (blk_cell BK125.out 2).trans rfl
                      have hc3_ : w'.cell? ⟨gb125, 3, none⟩ = some (.int .u16 a0_3) := (blk_cell BK125.out 3).trans rfl
                      have hc4_ : w'.cell? ⟨gb125, 4, none⟩ = some (.int .u32 a0_4) := (blk_cell BK125.out 4).trans rfl
                      have hc5_ : w'.cell? ⟨gb125, 5, none⟩ = some (.int .u32 a0_5) := (blk_cell BK125.out 5).trans rfl
                      have hc6_ : w'.cell? ⟨gb125, 6, none⟩ = some (.int .u32 a0_6) := (blk_cell BK125.out 6).trans rfl
                      have hc7_ : w'.cell? ⟨gb125, 7, none⟩ = some (.int .u32 a0_7) := (blk_cell BK125.out 7).trans rfl
                      have hc8_ : w'.cell? ⟨gb125, 8, none⟩ = some (.int .u16 a0_8) := (blk_cell BK125.out 8).trans rfl
                      have hc9_ : w'.cell? ⟨gb125, 9, none⟩ = some (.int .u16 a0_9) := (blk_cell BK125.out 9).trans rfl
                      have hc10_ : w'.cell? ⟨gb125, 10, none⟩ = some (.int .u32 a0_10) := (blk_cell BK125.out 10).trans rfl
                      have hc11_ : w'.cell? ⟨gb125, 11, none⟩ = some (.int .u32 a0_11) := (blk_cell BK125.out 11).trans rfl
                      have hc12_ : w'.cell? ⟨gb125, 12, none⟩ = some (.string a0_12) := (blk_cell BK125.out 12).trans rfl
                      have hc13_ : w'.cell? ⟨gb125, 13, none⟩ = some (.string a0_13) := (blk_cell BK125.out 13).trans rfl
                      have hc14_ : w'.cell? ⟨gb125, 14, none⟩ = some (.string a0_14) := (blk_cell BK125.out 14).trans rfl
                      refine value_ (w1 := w') (v := .string a0_12) (by rfl) rfl ?_ ?_
                      · go_simp
                        (try simp only [i64_w])
                        try rfl
                      refine hK.out _ _ ⟨v131, v135, v139, v143, (by rw [ha.out]; exact putSel_upk 14 hb_ rfl rfl rfl), Q_HO128, Q_BK125, Q_HB, Q_HO132, Q_HO136, fun h0_ => absurd ((hoff 38 (by kernel_rfl)).symm.trans h0_) (by decide), Q_HO144⟩
                    refine steps_cons ?_ ?_
                    · rintro b a w' ⟨v131, v135, v139, v143, ha, Q_HO128, Q_BK125, Q_HB, Q_HO132, Q_HO136, Q_HO140, Q_HO144⟩ hb_ hon hoff
                      refine ⟨_, rfl, fun K hK => ?_⟩
                      have e35 : a.tmps[35]? = some (.string a0_12) := by rw [ha]; exact putSel_on (e := (23, 35, .string a0_12)) 14 rfl rfl (hon 23 (by kernel_rfl)) rfl
                      replace ha := Aside0.mk ha
                      have HO128 := Aside0.mk Q_HO128
                      have BK125 := Aside0.mk Q_BK125
                      have HB := Aside0.mk Q_HB
                      refine value_ (w1 := w') (v := .int .i64 (a0_12.size : Int)) (by rfl) rfl ?_ ?_
                      · go_simp
                        (try simp only [i64_w])
                        try rfl
                      refine hK.out _ _ ⟨v131, v135, v139, v143, (by rw [ha.out]; exact putSel_upk 15 hb_ rfl rfl rfl), Q_HO128, Q_BK125, Q_HB, Q_HO132, Q_HO136, fun h0_ => absurd ((hoff 38 (by kernel_rfl)).symm.trans h0_) (by decide), Q_HO144⟩
                    refine steps_cons ?_ ?_
                    · rintro b a w' ⟨v131, v135, v139, v143, ha, Q_HO128, Q_BK125, Q_HB, Q_HO132, Q_HO136, Q_HO140, Q_HO144⟩ hb_ hon hoff
                      refine ⟨_, rfl, fun K hK => ?_⟩
                      have e36 : a.tmps[36]? = some (.int .i64 (a0_12.size : Int)) := by rw [ha]; exact putSel_on (e := (24, 36, .int .i64 (a0_12.size : Int))) 15 rfl rfl (hon 24 (by kernel_rfl)) rfl
                      replace ha := Aside0.mk ha
                      have HO128 := Aside0.mk Q_HO128
                      have BK125 := Aside0.mk Q_BK125
                      have HB := Aside0.mk Q_HB
                      refine value_ (w1 := w') (v := .int .u16 (IntKind.u16.wrap ((a0_12.size : Int)))) (by rfl) rfl ?_ ?_
                      · go_simp
                        (try simp only [i64_w])
                        try rfl
                      refine hK.out _ _ ⟨v131, v135, v139, v143, (by rw [ha.out]; exact putSel_upk 16 hb_ rfl rfl rfl), Q_HO128, Q_BK125, Q_HB, Q_HO132, Q_HO136, fun h0_ => absurd ((hoff 38 (by kernel_rfl)).symm.trans h0_) (by decide), Q_HO144⟩
                    refine steps_cons ?_ ?_
                    · rintro b a w' ⟨v131, v135, v139, v143, ha, Q_HO128, Q_BK125, Q_HB, Q_HO132, Q_HO136, Q_HO140, Q_HO144⟩ hb_ hon hoff
                      refine ⟨_, rfl, fun K hK => ?_⟩
                      have e38 : a.tmps[38]? = some (.pointer (some ⟨gb125, 13, none⟩)) := by rw [ha]; exact (putSel_off rfl).trans rfl
                      replace ha := Aside0.mk ha
                      have HO128 := Aside0.mk Q_HO128
                      have BK125 := Aside0.mk Q_BK125
                      have HB := Aside0.mk Q_HB
                      have hc0_ : w'.cell? ⟨gb125, 0, none⟩ = some (.int .u16 a0_0) := (blk_cell BK125.out 0).trans rfl
                      have hc1_ : w'.cell? ⟨gb125, 1, none⟩ = some (.int .u16 a0_1) := (blk_cell BK125.out 1).trans rfl
                      have hc2_ : w'.cell? ⟨gb125, 2, none⟩ = some (.int .u16 a0_2) := (blk_cell BK125.out 2).trans rfl
                      have hc3_ : w'.cell? ⟨gb125, 3, none⟩ = some (.int .u16 a0_3) := (blk_cell BK125.out 3).trans rfl
                      have hc4_ : w'.cell? ⟨gb125, 4, none⟩ = some (.int .u32 a0_4) := (blk_cell BK125.out 4).trans rfl
                      have hc5_ : w'.cell? ⟨gb125, 5, none⟩ = some (.int .u32 a0_5) := (blk_cell BK125.out 5).trans rfl
                      have hc6_ : w'.cell? ⟨gb125, 6, none⟩ = some (.int .u32 a0_6) := (blk_cell BK125.out 6).trans rfl
                      have hc7_ : w'.cell? ⟨gb125, 7, none⟩ = some (.int .u32 a0_7) := (blk_cell BK125.out 7).trans rfl
                      have hc8_ : w'.cell? ⟨gb125, 8, none⟩ = some (.int .u16 a0_8) := (blk_cell BK125.out 8).trans rfl
                      have hc9_ : w'.cell? ⟨gb125, 9, none⟩ = some (.int .u16 a0_9) := (blk_cell BK125.out 9).trans rfl
                      have hc10_ : w'.cell? ⟨gb125, 10, none⟩ = some (.int .u32 a0_10) := (blk_cell BK125.out 10).trans rfl
                      have hc11_ : w'.cell? ⟨gb125, 11, none⟩ = some (.int .u32 a0_11) := (blk_cell BK125.out 11).trans rfl
                      have hc12_ : w'.cell? ⟨gb125, 12, none⟩ = some (.string a0_12) := (blk_cell BK125.out 12).trans rfl
                      have hc13_ : w'.cell? ⟨gb125, 13, none⟩ = some (.string a0_13) := (blk_cell BK125.out 13).trans rfl
                      have hc14_ : w'.cell? ⟨gb125, 14, none⟩ = some (.string a0_14) := (blk_cell BK125.out 14).trans rfl
                      refine value_ (w1 := w') (v := .string a0_13) (by rfl) rfl ?_ ?_
                      · go_simp
                        (try simp only [i64_w])
                        try rfl
                      refine hK.out _ _ ⟨v131, v135, v139, v143, (by rw [ha.out]; exact putSel_upk 17 hb_ rfl rfl rfl), Q_HO128, Q_BK125, Q_HB, Q_HO132, Q_HO136, fun h0_ => absurd ((hoff 38 (by kernel_rfl)).symm.trans h0_) (by decide), Q_HO144⟩
                    refine steps_cons ?_ ?_
                    · rintro b a w' ⟨v131, v135, v139, v143, ha, Q_HO128, Q_BK125, Q_HB, Q_HO132, Q_HO136, Q_HO140, Q_HO144⟩ hb_ hon hoff
                      refine ⟨_, rfl, fun K hK => ?_⟩
                      have e39 : a.tmps[39]? = some (.string a0_13) := by rw [ha]; exact putSel_on (e := (27, 39, .string a0_13)) 17 rfl rfl (hon 27 (by kernel_rfl)) rfl
                      replace ha := Aside0.mk ha
                      have HO128 := Aside0.mk Q_HO128
                      have BK125 := Aside0.mk Q_BK125
                      have HB := Aside0.mk Q_HB
                      refine value_ (w1 := w') (v := .int .i64 (a0_13.size : Int)) (by rfl) rfl ?_ ?_
                      · go_simp
                        (try simp only [i64_w])
                        try rfl
                      refine hK.out _ _ ⟨v131, v135, v139, v143, (by rw [ha.out]; exact putSel_upk 18 hb_ rfl rfl rfl), Q_HO128, Q_BK125, Q_HB, Q_HO132, Q_HO136, fun h0_ => absurd ((hoff 38 (by kernel_rfl)).symm.trans h0_) (by decide), Q_HO144⟩
                    refine steps_cons ?_ ?_
                    · rintro b a w' ⟨v131, v135, v139, v143, ha, Q_HO128, Q_BK125, Q_HB, Q_HO132, Q_HO136, Q_HO140, Q_HO144⟩ hb_ hon hoff
                      refine ⟨_, rfl, fun K hK => ?_⟩
                      have e40 : a.tmps[40]? = some (.int .i64 (a0_13.size : Int)) := by rw [ha]; exact putSel_on (e := (28, 40, .int .i64 (a0_13.size : Int))) 18 rfl rfl (hon 28 (by kernel_rfl)) rfl
                      replace ha := Aside0.mk ha
                      have HO128 := Aside0.mk Q_HO128
                      have BK125 := Aside0.mk Q_BK125
                      have HB := Aside0.mk Q_HB
                      refine value_ (w1 := w') (v := .int .u16 (IntKind.u16.wrap ((a0_13.size : Int)))) (by rfl) rfl ?_ ?_
                      · go_simp
                        (try simp only [i64_w])
                        try rfl
                      refine hK.out _ _ ⟨v131, v135, v139, v143, (by rw [ha.out]; exact putSel_upk 19 hb_ rfl rfl rfl), Q_HO128, Q_BK125, Q_HB, Q_HO132, Q_HO136, fun h0_ => absurd ((hoff 38 (by kernel_rfl)).symm.trans h0_) (by decide), Q_HO144⟩
                    refine steps_cons ?_ ?_
                    · rintro b a w' ⟨v131, v135, v139, v143, ha, Q_HO128, Q_BK125, Q_HB, Q_HO132, Q_HO136, Q_HO140, Q_HO144⟩ hb_ hon hoff
                      refine ⟨_, rfl, fun K hK => ?_⟩
                      have e42 : a.tmps[42]? = some (.pointer (some ⟨gb125, 14, none⟩)) := by rw [ha]; exact (putSel_off rfl).trans rfl
                      replace ha := Aside0.mk ha
                      have HO128 := Aside0.mk Q_HO128
                      have BK125 := Aside0.mk Q_BK125
                      have HB := Aside0.mk Q_HB
                      have hc0_ : w'.cell? ⟨gb125, 0, none⟩ = some (.int .u16 a0_0) := (blk_cell BK125.out 0).trans rfl
                      have hc1_ : w'.cell? ⟨gb125, 1, none⟩ = some (.int .u16 a0_1) := (blk_cell BK125.out 1).trans rfl
                      have hc2_ : w'.cell? ⟨gb125, 2, none⟩ = some (.int .u16 a0_2) := (blk_cell BK125.out 2).trans rfl
                      have hc3_ : w'.cell? ⟨gb125, 3, none⟩ = some (.int .u16 a0_3) := (blk_cell BK125.out 3).trans rfl
                      have hc4_ : w'.cell? ⟨gb125, 4, none⟩ = some (.int .u32 a0_4) := (blk_cell BK125.out 4).trans rfl
                      have hc5_ : w'.cell? ⟨gb125, 5, none⟩ = some (.int .u32 a0_5) := (blk_cell BK125.out 5).trans rfl
                      have hc6_ : w'.cell? ⟨gb125, 6, none⟩ = some (.int .u32 a0_6) := (blk_cell BK125.out 6).trans rfl
                      have hc7_ : w'.cell? ⟨gb125, 7, none⟩ = some (.int .u32 a0_7) := (blk_cell BK125.out 7).trans rfl
                      have hc8_ : w'.cell? ⟨gb125, 8, none⟩ = some (.int .u16 a0_8) := (blk_cell BK125.out 8).trans rfl
                      have hc9_ : w'.cell? ⟨gb125, 9, none⟩ = some (.int .u16 a0_9) := (blk_cell BK125.out 9).trans rfl
                      have hc10_ : w'.cell? ⟨gb125, 10, none⟩ = some (.int .u32 a0_10) := (blk_cell BK125.out 10).trans rfl
                      have hc11_ : w'.cell? ⟨gb125, 11, none⟩ = some (.int .u32 a0_11) := (blk_cell BK125.out 11).trans rfl
                      have hc12_ : w'.cell? ⟨gb125, 12, none⟩ = some (.string a0_12) := (blk_cell BK125.out 12).trans rfl
                      have hc13_ : w'.cell? ⟨gb125, 13, none⟩ = some (.string a0_13) := (blk_cell BK125.out 13).trans rfl
                      have hc14_ : w'.cell? ⟨gb125, 14, none⟩ = some (.string a0_14) := (blk_cell BK125.out 14).trans rfl
                      refine value_ (w1 := w') (v := .string a0_14) (by rfl) rfl ?_ ?_
                      · go_simp
                        (try simp only [i64_w])
                        try rfl
                      refine hK.out _ _ ⟨v131, v135, v139, v143, (by rw [ha.out]; exact putSel_upk 20 hb_ rfl rfl rfl), Q_HO128, Q_BK125, Q_HB, Q_HO132, Q_HO136, fun h0_ => absurd ((hoff 38 (by kernel_rfl)).symm.trans h0_) (by decide), Q_HO144⟩
                    refine steps_cons ?_ ?_
                    · rintro b a w' ⟨v131, v135, v139, v143, ha, Q_HO128, Q_BK125, Q_HB, Q_HO132, Q_HO136, Q_HO140, Q_HO144⟩ hb_ hon hoff
                      refine ⟨_, rfl, fun K hK => ?_⟩
                      have e43 : a.tmps[43]? = some (.string a0_14) := by rw [ha]; exact putSel_on (e := (31, 43, .string a0_14)) 20 rfl rfl (hon 31 (by kernel_rfl)) rfl
                      replace ha := Aside0.mk ha
                      have HO128 := Aside0.mk Q_HO128
                      have BK125 := Aside0.mk Q_BK125
                      have HB := Aside0.mk Q_HB
                      refine value_ (w1 := w') (v := .int .i64 (a0_14.size : Int)) (by rfl) rfl ?_ ?_
                      · go_simp
                        (try simp only [i64_w])
                        try rfl
                      refine hK.out _ _ ⟨v131, v135, v139, v143, (by rw [ha.out]; exact putSel_upk 21 hb_ rfl rfl rfl), Q_HO128, Q_BK125, Q_HB, Q_HO132, Q_HO136, fun h0_ => absurd ((hoff 38 (by kernel_rfl)).symm.trans h0_) (by decide), Q_HO144⟩
                    refine steps_cons ?_ ?_
                    · rintro b a w' ⟨v131, v135, v139, v143, ha, Q_HO128, Q_BK125, Q_HB, Q_HO132, Q_HO136, Q_HO140, Q_HO144⟩ hb_ hon hoff
                      refine ⟨_, rfl, fun K hK => ?_⟩
                      have e44 : a.tmps[44]? = some (.int .i64 (a0_14.size : Int)) := by rw [ha]; exact putSel_on (e := (32, 44, .int .i64 (a0_14.size : Int))) 21 rfl rfl (hon 32 (by kernel_rfl)) rfl
                      replace ha := Aside0.mk ha
                      have HO128 := Aside0.mk Q_HO128
                      have BK125 := Aside0.mk Q_BK125
                      have HB := Aside0.mk Q_HB
                      refine value_ (w1 := w') (v := .int .u16 (IntKind.u16.wrap ((a0_14.size : Int)))) (by rfl) rfl ?_ ?_
                      · go_simp
                        (try simp only [i64_w])
                        try rfl
                      refine hK.out _ _ ⟨v131, v135, v139, v143, (by rw [ha.out]; exact putSel_upk 22 hb_ rfl rfl rfl), Q_HO128, Q_BK125, Q_HB, Q_HO132, Q_HO136, fun h0_ => absurd ((hoff 38 (by kernel_rfl)).symm.trans h0_) (by decide), Q_HO144⟩
                    refine steps_cons ?_ ?_
                    · rintro b a w' ⟨v131, v135, v139, v143, ha, Q_HO128, Q_BK125, Q_HB, Q_HO132, Q_HO136, Q_HO140, Q_HO144⟩ hb_ hon hoff
                      refine ⟨_, rfl, fun K hK => ?_⟩
                      have e46 : a.tmps[46]? = some (.pointer (some ⟨gb125, 8, none⟩)) := by rw [ha]; exact (putSel_off rfl).trans rfl
                      replace ha := Aside0.mk ha
                      have HO128 := Aside0.mk Q_HO128
                      have BK125 := Aside0.mk Q_BK125
                      have HB := Aside0.mk Q_HB
                      have hc0_ : w'.cell? ⟨gb125, 0, none⟩ = some (.int .u16 a0_0) := (blk_cell BK125.out 0).trans rfl
                      have hc1_ : w'.cell? ⟨gb125, 1, none⟩ = some (.int .u16 a0_1) := (blk_cell BK125.out 1).trans rfl
                      have hc2_ : w'.cell? ⟨gb125, 2, none⟩ = some (.int .u16 a0_2) := (blk_cell BK125.out 2).trans rfl
                      have hc3_ : w'.cell? ⟨gb125, 3, none⟩ = some (.int .u16 a0_3) := (blk_cell BK125.out 3).trans rfl
                      have hc4_ : w'.cell? ⟨gb125, 4, none⟩ = some (.int .u32 a0_4) := (blk_cell BK125.out 4).trans rfl
                      have hc5_ : w'.cell? ⟨gb125, 5, none⟩ = some (.int .u32 a0_5) := (blk_cell BK125.out 5).trans rfl
                      have hc6_ : w'.cell? ⟨gb125, 6, none⟩ = some (.int .u32 a0_6) := (blk_cell BK125.out 6).trans rfl
                      have hc7_ : w'.cell? ⟨gb125, 7, none⟩ = some (.int .u32 a0_7) := (blk_cell BK125.out 7).trans rfl
                      have hc8_ : w'.cell? ⟨gb125, 8, none⟩ = some (.int .u16 a0_8) := (blk_cell BK125.out 8).trans rfl
                      have hc9_ : w'.cell? ⟨gb125, 9, none⟩ = some (.int .u16 a0_9) := (blk_cell BK125.out 9).trans rfl
                      have hc10_ : w'.cell? ⟨gb125, 10, none⟩ = some (.int .u32 a0_10) := (blk_cell BK125.out 10).trans rfl
                      have hc11_ : w'.cell? ⟨gb125, 11, none⟩ = some (.int .u32 a0_11) := (blk_cell BK125.out 11).trans rfl
                      have hc12_ : w'.cell? ⟨gb125, 12, none⟩ = some (.string a0_12) := (blk_cell BK125.out 12).trans rfl
                      have hc13_ : w'.cell? ⟨gb125, 13, none⟩ = some (.string a0_13) := (blk_cell BK125.out 13).trans rfl
                      have hc14_ : w'.cell? ⟨gb125, 14, none⟩ = some (.string a0_14) := (blk_cell BK125.out 14).trans rfl
                      refine value_ (w1 := w') (v := .int .u16 a0_8) (by rfl) rfl ?_ ?_
                      · go_simp
                        (try simp only [i64_w])
                        try rfl
                      refine hK.out _ _ ⟨v131, v135, v139, v143, (by rw [ha.out]; exact putSel_upk 23 hb_ rfl rfl rfl), Q_HO128, Q_BK125, Q_HB, Q_HO132, Q_HO136, fun h0_ => absurd ((hoff 38 (by kernel_rfl)).symm.trans h0_) (by decide), Q_HO144⟩
                    refine steps_cons ?_ ?_
                    · rintro b a w' ⟨v131, v135, v139, v143, ha, Q_HO128, Q_BK125, Q_HB, Q_HO132, Q_HO136, Q_HO140, Q_HO144⟩ hb_ hon hoff
                      refine ⟨_, rfl, fun K hK => ?_⟩
                      have e48 : a.tmps[48]? = some (.pointer (some ⟨gb125, 9, none⟩)) := by rw [ha]; exact (putSel_off rfl).trans rfl
                      replace ha := Aside0.mk ha
                      have HO128 := Aside0.mk Q_HO128
                      have BK125 := Aside0.mk Q_BK125
                      have HB := Aside0.mk Q_HB
                      have hc0_ : w'.cell? ⟨gb125, 0, none⟩ = some (.int .u16 a0_0) := (blk_cell BK125.out 0).trans rfl
                      have hc1_ : w'.cell? ⟨gb125, 1, none⟩ = some (.int .u16 a0_1) := (blk_cell BK125.out 1).trans rfl
                      have hc2_ : w'.cell? ⟨gb125, 2, none⟩ = some (.int .u16 a0_2) := (blk_cell BK125.out 2).trans rfl
                      have hc3_ : w'.cell? ⟨gb125, 3, none⟩ = some (.int .u16 a0_3) := (blk_cell BK125.out 3).trans rfl
                      have hc4_ : w'.cell? ⟨gb125, 4, none⟩ = some (.int .u32 a0_4) := (blk_cell BK125.out 4).trans rfl
                      have hc5_ : w'.cell? ⟨gb125, 5, none⟩ = some (.int .u32 a0_5) := (blk_cell BK125.out 5).trans rfl
                      have hc6_ : w'.cell? ⟨gb125, 6, none⟩ = some (.int .u32 a0_6) := (blk_cell BK125.out 6).trans rfl
                      have hc7_ : w'.cell? ⟨gb125, 7, none⟩ = some (.int .u32 a0_7) := (blk_cell BK125.out 7).trans rfl
                      have hc8_ : w'.cell? ⟨gb125, 8, none⟩ = some (.int .u16 a0_8) := (blk_cell BK125.out 8).trans rfl
                      have hc9_ : w'.cell? ⟨gb125, 9, none⟩ = some (.int .u16 a0_9) := (blk_cell BK125.out 9).trans rfl
                      have hc10_ : w'.cell? ⟨gb125, 10, none⟩ = some (.int .u32 a0_10) := (blk_cell BK125.out 10).trans rfl
                      have hc11_ : w'.cell? ⟨gb125, 11, none⟩ = some (.int .u32 a0_11) := (blk_cell BK125.out 11).trans rfl
                      have hc12_ : w'.cell? ⟨gb125, 12, none⟩ = some (.string a0_12) := (blk_cell BK125.out 12).trans rfl
                      have hc13_ : w'.cell? ⟨gb125, 13, none⟩ = some (.string a0_13) := (blk_cell BK125.out 13).trans rfl
                      have hc14_ : w'.cell? ⟨gb125, 14, none⟩ = some (.string a0_14) := (blk_cell BK125.out 14).trans rfl
                      refine value_ (w1 := w') (v := .int .u16 a0_9) (by rfl) rfl ?_ ?_
                      · go_simp
                        (try simp only [i64_w])
                        try rfl
                      refine hK.out _ _ ⟨v131, v135, v139, v143, (by rw [ha.out]; exact putSel_upk 24 hb_ rfl rfl rfl), Q_HO128, Q_BK125, Q_HB, Q_HO132, Q_HO136, fun h0_ => absurd ((hoff 38 (by kernel_rfl)).symm.trans h0_) (by decide), Q_HO144⟩
                    refine steps_cons ?_ ?_
                    · rintro b a w' ⟨v131, v135, v139, v143, ha, Q_HO128, Q_BK125, Q_HB, Q_HO132, Q_HO136, Q_HO140, Q_HO144⟩ hb_ hon hoff
                      refine ⟨_, rfl, fun K hK => ?_⟩
                      have e37 : a.tmps[37]? = some (.int .u16 (IntKind.u16.wrap ((a0_12.size : Int)))) := by rw [ha]; exact putSel_on (e := (25, 37, .int .u16 (IntKind.u16.wrap ((a0_12.size : Int))))) 16 rfl rfl (hon 25 (by kernel_rfl)) rfl
                      have e41 : a.tmps[41]? = some (.int .u16 (IntKind.u16.wrap ((a0_13.size : Int)))) := by rw [ha]; exact putSel_on (e := (29, 41, .int .u16 (IntKind.u16.wrap ((a0_13.size : Int))))) 19 rfl rfl (hon 29 (by kernel_rfl)) rfl
                      have e45 : a.tmps[45]? = some (.int .u16 (IntKind.u16.wrap ((a0_14.size : Int)))) := by rw [ha]; exact putSel_on (e := (33, 45, .int .u16 (IntKind.u16.wrap ((a0_14.size : Int))))) 22 rfl rfl (hon 33 (by kernel_rfl)) rfl
                      have e47 : a.tmps[47]? = some (.int .u16 a0_8) := by rw [ha]; exact putSel_on (e := (35, 47, .int .u16 a0_8)) 23 rfl rfl (hon 35 (by kernel_rfl)) rfl
                      have e49 : a.tmps[49]? = some (.int .u16 a0_9) := by rw [ha]; exact putSel_on (e := (37, 49, .int .u16 a0_9)) 24 rfl rfl (hon 37 (by kernel_rfl)) rfl
                      replace ha := Aside0.mk ha
                      have HO128 := Aside0.mk Q_HO128
                      have BK125 := Aside0.mk Q_BK125
                      have HB := Aside0.mk Q_HB
                      refine Kd.R_lit_step (Kd.int .u16) _ 22 ?hg (N := 50) ?hd (xs := ([IntKind.u16.wrap ((a0_12.size : Int)), IntKind.u16.wrap ((a0_13.size : Int)), IntKind.u16.wrap ((a0_14.size : Int)), a0_8, a0_9] : List Int)) (inner := [.int .u16 (IntKind.u16.wrap ((a0_12.size : Int))), .int .u16 (IntKind.u16.wrap ((a0_13.size : Int))), .int .u16 (IntKind.u16.wrap ((a0_14.size : Int))), .int .u16 a0_8, .int .u16 a0_9]) (ok := fun _ => True) (okp := fun _ => True) ?hr ?hp (fun _ hk => hk) trivial (Below.refl _ _) (Nat.le_refl _) (by simp) ?_; (case hd => rfl); (case hg => rfl); (case hr => first | (go_simp; done) | (go_simp; rfl)); (case hp => exact (Reps.one (show Kd.M (Kd.int .u16) _ _ _ (IntKind.u16.wrap ((a0_12.size : Int))) [.int .u16 (IntKind.u16.wrap ((a0_12.size : Int)))] from rfl) (Reps.one (show Kd.M (Kd.int .u16) _ _ _ (IntKind.u16.wrap ((a0_13.size : Int))) [.int .u16 (IntKind.u16.wrap ((a0_13.size : Int)))] from rfl) (Reps.one (show Kd.M (Kd.int .u16) _ _ _ (IntKind.u16.wrap ((a0_14.size : Int))) [.int .u16 (IntKind.u16.wrap ((a0_14.size : Int)))] from rfl) (Reps.one (show Kd.M (Kd.int .u16) _ _ _ a0_8 [.int .u16 a0_8] from rfl) (Reps.one (show Kd.M (Kd.int .u16) _ _ _ a0_9 [.int .u16 a0_9] from rfl) (Reps.none _ _)))))))
                      intro v139 w26 ho27 hb hg_ hnew_
                      clear hg_ hnew_
                      (first | rw [← Ny138.out] at ho27 | (simp only [Int.reduceToNat] at ho27; rw [← Ny138.out] at ho27))
                      have n0_ := Aside0.mk (Kd.R_below (by (with_reducible repeat (first | apply Kd.R_alloc | apply Kd.R_drewN | apply Kd.R_drew)); exact HO128.out) hb)
                      have n1_ := Aside0.mk (Kd.R_lower ho27 (below_size (by repeat (first | (with_reducible first | exact HB.out | apply below_alloc | apply pw_below_drewN | apply below_drew1 | refine below_set ?_ GE125.out) | exact HB.out))))
                      have n2_ := Aside0.mk (blk_below (g := gb125) (o := .cells #[.int .u16 a0_0, .int .u16 a0_1, .int .u16 a0_2, .int .u16 a0_3, .int .u32 a0_4, .int .u32 a0_5, .int .u32 a0_6, .int .u32 a0_7, .int .u16 a0_8, .int .u16 a0_9, .int .u32 a0_10, .int .u32 a0_11, .string a0_12, .string a0_13, .string a0_14] 27 (0, 0)) (by (with_reducible repeat (first | refine blk_drewN ?_ _ | refine blk_drew ?_ | refine blk_alloc ?_ _)); exact BK125.out) hb)
                      have n3_ := Aside0.mk (below_step (by repeat (first | (with_reducible first | exact HB.out | apply below_alloc | apply pw_below_drewN | apply below_drew1 | refine below_set ?_ GE125.out) | exact HB.out)) hb)
                      have z_HO132 := fun (h0_ : b 8 = true) => (show Kd.R (Kd.int .u16) 22 w26 w.heap.size (fun _ => True) v131 y130 from by first | exact (Kd.R_elder' (by (with_reducible repeat (first | apply Kd.R_alloc | apply Kd.R_drewN | apply Kd.R_drew)); exact (Q_HO132 h0_)) (Kd.R_base ho27) hb) | exact Kd.R_mono (Kd.R_elder' (by (with_reducible repeat (first | apply Kd.R_alloc | apply Kd.R_drewN | apply Kd.R_drew)); exact (Q_HO132 h0_)) (Kd.R_base ho27) hb) (fun _ h_ => by first | trivial | exact h_ | exact h_.1))
                      have z_HO136 := fun (h0_ : b 19 = true) => (show Kd.R (Kd.int .u32) 23 w26 w.heap.size (fun _ => True) v135 y134 from by first | exact (Kd.R_below (by (with_reducible repeat (first | apply Kd.R_alloc | apply Kd.R_drewN | apply Kd.R_drew)); exact (Q_HO136 h0_)) hb) | exact Kd.R_mono (Kd.R_below (by (with_reducible repeat (first | apply Kd.R_alloc | apply Kd.R_drewN | apply Kd.R_drew)); exact (Q_HO136 h0_)) hb) (fun _ h_ => by first | trivial | exact h_ | exact h_.1))
                      have z_HO144 := fun (h0_ : b 45 = true) => (show Kd.R (Kd.int .u32) 23 w26 w.heap.size (fun _ => True) v143 y142 from by first | exact (Kd.R_below (by (with_reducible repeat (first | apply Kd.R_alloc | apply Kd.R_drewN | apply Kd.R_drew)); exact (Q_HO144 h0_)) hb) | exact Kd.R_mono (Kd.R_below (by (with_reducible repeat (first | apply Kd.R_alloc | apply Kd.R_drewN | apply Kd.R_drew)); exact (Q_HO144 h0_)) hb) (fun _ h_ => by first | trivial | exact h_ | exact h_.1))
                      clear HO128
                      clear BK125
                      clear HB
                      have HO128 := n0_
                      have HO140 := n1_
                      have BK125 := n2_
                      have HB := n3_
                      clear n0_ n1_ n2_ n3_
                      clear hb ho27
                      refine hK.out _ _ ⟨v131, v135, v139, v143, (by rw [ha.out]; exact putSel_upk 25 hb_ rfl rfl rfl), (by (with_reducible repeat (first | apply Kd.R_alloc | apply Kd.R_drewN | apply Kd.R_drew)); exact HO128.out), (by (with_reducible repeat (first | refine blk_drewN ?_ _ | refine blk_drew ?_ | refine blk_alloc ?_ _)); exact BK125.out), (by repeat (first | (with_reducible first | exact HB.out | apply below_alloc | apply pw_below_drewN | apply below_drew1 | refine below_set ?_ GE125.out) | exact HB.out)), z_HO132, z_HO136, fun _ => (by (with_reducible repeat (first | apply Kd.R_alloc | apply Kd.R_drewN | apply Kd.R_drew)); exact HO140.out), z_HO144⟩
                    refine steps_cons ?_ ?_
                    · rintro b a w' ⟨v131, v135, v139, v143, ha, Q_HO128, Q_BK125, Q_HB, Q_HO132, Q_HO136, Q_HO140, Q_HO144⟩ hb_ hon hoff
                      refine ⟨_, rfl, fun K hK => ?_⟩
                      have e50 : a.tmps[50]? = some (v139) := by rw [ha]; exact putSel_on (e := (38, 50, v139)) 25 rfl rfl (hon 38 (by kernel_rfl)) rfl
                      replace ha := Aside0.mk ha
                      have HO128 := Aside0.mk Q_HO128
                      have BK125 := Aside0.mk Q_BK125
                      have HB := Aside0.mk Q_HB
                      have HO132 := Aside0.mk (Q_HO132 (hon 8 (by kernel_rfl)))
                      have HO136 := Aside0.mk (Q_HO136 (hon 19 (by kernel_rfl)))
                      have HO140 := Aside0.mk (Q_HO140 (hon 38 (by kernel_rfl)))
                      obtain ⟨Ao37, co37, eo37⟩ := Kd.R_slice HO140.out
                      (first | subst eo37 | (injection eo37 with f1_ f2_ f3_; have f4_ := f1_.symm; have f5_ := f3_.symm; clear f1_ f2_ f3_; subst f4_; subst f5_))
                      refine goes_ Try.func23 (by kernel_rfl) rfl #[.slice Ao37 y138.length co37] (by rfl) rfl rfl (by first | (simp only [List.map_toArray, List.map_cons, List.map_nil, Act.eval, Array.getD_eq_getD_getElem?, Option.getD_some, e50]; done) | (simp only [List.map_toArray, List.map_cons, List.map_nil, Act.eval, Array.getD_eq_getD_getElem?, Option.getD_some, e50]; rfl)) ?_
                      with_reducible refine (header_twos.calls _ _ y138 t141 _ ?side1 ?side2 A13.out).mono ?_
                      (case side1 => repeat (first | exact (Kd.R_reads' HO140.out).2.2 | (with_reducible refine Kd.C_alloc ?_ _) | (with_reducible refine Kd.C_drewN ?_ _) | (with_reducible refine Kd.C_drew ?_)))
                      (case side2 => exact (Kd.R_reads' HO140.out).2.1)
                      rintro e w38 ⟨rfl, hb⟩
                      refine ⟨_, rfl, ?_⟩
                      have n0_ := Aside0.mk (Kd.R_below (by (with_reducible repeat (first | apply Kd.R_alloc | apply Kd.R_drewN | apply Kd.R_drew)); exact HO128.out) hb)
                      have n1_ := Aside0.mk (Kd.R_below (by (with_reducible repeat (first | apply Kd.R_alloc | apply Kd.R_drewN | apply Kd.R_drew)); exact HO132.out) hb)
                      have n2_ := Aside0.mk (Kd.R_below (by (with_reducible repeat (first | apply Kd.R_alloc | apply Kd.R_drewN | apply Kd.R_drew)); exact HO136.out) hb)
                      have n3_ := Aside0.mk (Kd.R_below (by (with_reducible repeat (first | apply Kd.R_alloc | apply Kd.R_drewN | apply Kd.R_drew)); exact HO140.out) hb)
                      have n4_ := Aside0.mk (blk_below (g := gb125) (o := .cells #[.int .u16 a0_0, .int .u16 a0_1, .int .u16 a0_2, .int .u16 a0_3, .int .u32 a0_4, .int .u32 a0_5, .int .u32 a0_6, .int .u32 a0_7, .int .u16 a0_8, .int .u16 a0_9, .int .u32 a0_10, .int .u32 a0_11, .string a0_12, .string a0_13, .string a0_14] 27 (0, 0)) (by (with_reducible repeat (first | refine blk_drewN ?_ _ | refine blk_drew ?_ | refine blk_alloc ?_ _)); exact BK125.out) hb)
                      have n5_ := Aside0.mk (below_step (by repeat (first | (with_reducible first | exact HB.out | apply below_alloc | apply pw_below_drewN | apply below_drew1 | refine below_set ?_ GE125.out) | exact HB.out)) hb)
                      have z_HO144 := fun (h0_ : b 45 = true) => (show Kd.R (Kd.int .u32) 23 w38 w.heap.size (fun _ => True) v143 y142 from by first | exact (Kd.R_below (by (with_reducible repeat (first | apply Kd.R_alloc | apply Kd.R_drewN | apply Kd.R_drew)); exact (Q_HO144 h0_)) hb) | exact Kd.R_mono (Kd.R_below (by (with_reducible repeat (first | apply Kd.R_alloc | apply Kd.R_drewN | apply Kd.R_drew)); exact (Q_HO144 h0_)) hb) (fun _ h_ => by first | trivial | exact h_ | exact h_.1))
                      clear HO128
                      clear HO132
                      clear HO136
                      clear HO140
                      clear BK125
                      clear HB
                      have HO128 := n0_
                      have HO132 := n1_
                      have HO136 := n2_
                      have HO140 := n3_
                      have BK125 := n4_
                      have HB := n5_
                      clear n0_ n1_ n2_ n3_ n4_ n5_
                      (try clear hb)
                      (try clear hb2)
                      (try clear hk)
                      (try clear hi)
                      refine hK.out _ _ ⟨v131, v135, .slice Ao37 y138.length co37, v143, (by rw [ha.out]; exact putSel_upk 26 hb_ rfl rfl rfl), (by (with_reducible repeat (first | apply Kd.R_alloc | apply Kd.R_drewN | apply Kd.R_drew)); exact HO128.out), (by (with_reducible repeat (first | refine blk_drewN ?_ _ | refine blk_drew ?_ | refine blk_alloc ?_ _)); exact BK125.out), (by repeat (first | (with_reducible first | exact HB.out | apply below_alloc | apply pw_below_drewN | apply below_drew1 | refine below_set ?_ GE125.out) | exact HB.out)), fun _ => (by (with_reducible repeat (first | apply Kd.R_alloc | apply Kd.R_drewN | apply Kd.R_drew)); exact HO132.out), fun _ => (by (with_reducible repeat (first | apply Kd.R_alloc | apply Kd.R_drewN | apply Kd.R_drew)); exact HO136.out), fun _ => (by (with_reducible repeat (first | apply Kd.R_alloc | apply Kd.R_drewN | apply Kd.R_drew)); exact HO140.out), z_HO144⟩
                    refine steps_cons ?_ ?_
                    · rintro b a w' ⟨v131, v135, v139, v143, ha, Q_HO128, Q_BK125, Q_HB, Q_HO132, Q_HO136, Q_HO140, Q_HO144⟩ hb_ hon hoff
                      refine ⟨_, rfl, fun K hK => ?_⟩
                      have e33 : a.tmps[33]? = some (.string (((⟨#[80, 75, 1, 2]⟩ : ByteArray) ++ t133) ++ t137)) := by rw [ha]; exact putSel_on (e := (21, 33, .string (((⟨#[80, 75, 1, 2]⟩ : ByteArray) ++ t133) ++ t137))) 13 rfl rfl (hon 21 (by kernel_rfl)) rfl
                      have e51 : a.tmps[51]? = some (.string t141) := by rw [ha]; exact putSel_on (e := (39, 51, .string t141)) 26 rfl rfl (hon 39 (by kernel_rfl)) rfl
                      replace ha := Aside0.mk ha
                      have HO128 := Aside0.mk Q_HO128
                      have BK125 := Aside0.mk Q_BK125
                      have HB := Aside0.mk Q_HB
                      have HO132 := Aside0.mk (Q_HO132 (hon 8 (by kernel_rfl)))
                      have HO136 := Aside0.mk (Q_HO136 (hon 19 (by kernel_rfl)))
                      have HO140 := Aside0.mk (Q_HO140 (hon 38 (by kernel_rfl)))
                      refine value_ (w1 := w') (v := .string ((((⟨#[80, 75, 1, 2]⟩ : ByteArray) ++ t133) ++ t137) ++ t141)) (by rfl) rfl ?_ ?_
                      · go_simp
                        (try simp only [i64_w])
                        try rfl
                      refine hK.out _ _ ⟨v131, v135, v139, v143, (by rw [ha.out]; exact putSel_upk 27 hb_ rfl rfl rfl), Q_HO128, Q_BK125, Q_HB, Q_HO132, Q_HO136, Q_HO140, Q_HO144⟩
                    refine steps_cons ?_ ?_
                    · rintro b a w' ⟨v131, v135, v139, v143, ha, Q_HO128, Q_BK125, Q_HB, Q_HO132, Q_HO136, Q_HO140, Q_HO144⟩ hb_ hon hoff
                      refine ⟨_, rfl, fun K hK => ?_⟩
                      have e53 : a.tmps[53]? = some (.pointer (some ⟨gb125, 10, none⟩)) := by rw [ha]; exact (putSel_off rfl).trans rfl
                      replace ha := Aside0.mk ha
                      have HO128 := Aside0.mk Q_HO128
                      have BK125 := Aside0.mk Q_BK125
                      have HB := Aside0.mk Q_HB
                      have hc0_ : w'.cell? ⟨gb125, 0, none⟩ = some (.int .u16 a0_0) := (blk_cell BK125.out 0).trans rfl
                      have hc1_ : w'.cell? ⟨gb125, 1, none⟩ = some (.int .u16 a0_1) := (blk_cell BK125.out 1).trans rfl
                      have hc2_ : w'.cell? ⟨gb125, 2, none⟩ = some (.int .u16 a0_2) := (blk_cell BK125.out 2).trans rfl
                      have hc3_ : w'.cell? ⟨gb125, 3, none⟩ = some (.int .u16 a0_3) := (blk_cell BK125.out 3).trans rfl
                      have hc4_ : w'.cell? ⟨gb125, 4, none⟩ = some (.int .u32 a0_4) := (blk_cell BK125.out 4).trans rfl
                      have hc5_ : w'.cell? ⟨gb125, 5, none⟩ = some (.int .u32 a0_5) := (blk_cell BK125.out 5).trans rfl
                      have hc6_ : w'.cell? ⟨gb125, 6, none⟩ = some (.int .u32 a0_6) := (blk_cell BK125.out 6).trans rfl
                      have hc7_ : w'.cell? ⟨gb125, 7, none⟩ = some (.int .u32 a0_7) := (blk_cell BK125.out 7).trans rfl
                      have hc8_ : w'.cell? ⟨gb125, 8, none⟩ = some (.int .u16 a0_8) := (blk_cell BK125.out 8).trans rfl
                      have hc9_ : w'.cell? ⟨gb125, 9, none⟩ = some (.int .u16 a0_9) := (blk_cell BK125.out 9).trans rfl
                      have hc10_ : w'.cell? ⟨gb125, 10, none⟩ = some (.int .u32 a0_10) := (blk_cell BK125.out 10).trans rfl
                      have hc11_ : w'.cell? ⟨gb125, 11, none⟩ = some (.int .u32 a0_11) := (blk_cell BK125.out 11).trans rfl
                      have hc12_ : w'.cell? ⟨gb125, 12, none⟩ = some (.string a0_12) := (blk_cell BK125.out 12).trans rfl
                      have hc13_ : w'.cell? ⟨gb125, 13, none⟩ = some (.string a0_13) := (blk_cell BK125.out 13).trans rfl
                      have hc14_ : w'.cell? ⟨gb125, 14, none⟩ = some (.string a0_14) := (blk_cell BK125.out 14).trans rfl
                      refine value_ (w1 := w') (v := .int .u32 a0_10) (by rfl) rfl ?_ ?_
                      · go_simp
                        (try simp only [i64_w])
                        try rfl
                      refine hK.out _ _ ⟨v131, v135, v139, v143, (by rw [ha.out]; exact putSel_upk 28 hb_ rfl rfl rfl), Q_HO128, Q_BK125, Q_HB, Q_HO132, Q_HO136, Q_HO140, fun h0_ => absurd ((hoff 45 (by kernel_rfl)).symm.trans h0_) (by decide)⟩
                    refine steps_cons ?_ ?_
                    · rintro b a w' ⟨v131, v135, v139, v143, ha, Q_HO128, Q_BK125, Q_HB, Q_HO132, Q_HO136, Q_HO140, Q_HO144⟩ hb_ hon hoff
                      refine ⟨_, rfl, fun K hK => ?_⟩
                      have e55 : a.tmps[55]? = some (.pointer (some ⟨gb125, 11, none⟩)) := by rw [ha]; exact (putSel_off rfl).trans rfl
                      replace ha := Aside0.mk ha
                      have HO128 := Aside0.mk Q_HO128
                      have BK125 := Aside0.mk Q_BK125
                      have HB := Aside0.mk Q_HB
                      have hc0_ : w'.cell? ⟨gb125, 0, none⟩ = some (.int .u16 a0_0) := (blk_cell BK125.out 0).trans rfl
                      have hc1_ : w'.cell? ⟨gb125, 1, none⟩ = some (.int .u16 a0_1) := (blk_cell BK125.out 1).trans rfl
                      have hc2_ : w'.cell? ⟨gb125, 2, none⟩ = some (.int .u16 a0_2) := (blk_cell BK125.out 2).trans rfl
                      have hc3_ : w'.cell? ⟨gb125, 3, none⟩ = some (.int .u16 a0_3) := (blk_cell BK125.out 3).trans rfl
                      have hc4_ : w'.cell? ⟨gb125, 4, none⟩ = some (.int .u32 a0_4) := (blk_cell BK125.out 4).trans rfl
                      have hc5_ : w'.cell? ⟨gb125, 5, none⟩ = some (.int .u32 a0_5) := (blk_cell BK125.out 5).trans rfl
                      have hc6_ : w'.cell? ⟨gb125, 6, none⟩ = some (.int .u32 a0_6) := (blk_cell BK125.out 6).trans rfl
                      have hc7_ : w'.cell? ⟨gb125, 7, none⟩ = some (.int .u32 a0_7) := (blk_cell BK125.out 7).trans rfl
                      have hc8_ : w'.cell? ⟨gb125, 8, none⟩ = some (.int .u16 a0_8) := (blk_cell BK125.out 8).trans rfl
                      have hc9_ : w'.cell? ⟨gb125, 9, none⟩ = some (.int .u16 a0_9) := (blk_cell BK125.out 9).trans rfl
                      have hc10_ : w'.cell? ⟨gb125, 10, none⟩ = some (.int .u32 a0_10) := (blk_cell BK125.out 10).trans rfl
                      have hc11_ : w'.cell? ⟨gb125, 11, none⟩ = some (.int .u32 a0_11) := (blk_cell BK125.out 11).trans rfl
                      have hc12_ : w'.cell? ⟨gb125, 12, none⟩ = some (.string a0_12) := (blk_cell BK125.out 12).trans rfl
                      have hc13_ : w'.cell? ⟨gb125, 13, none⟩ = some (.string a0_13) := (blk_cell BK125.out 13).trans rfl
                      have hc14_ : w'.cell? ⟨gb125, 14, none⟩ = some (.string a0_14) := (blk_cell BK125.out 14).trans rfl
                      refine value_ (w1 := w') (v := .int .u32 a0_11) (by rfl) rfl ?_ ?_
                      · go_simp
                        (try simp only [i64_w])
                        try rfl
                      refine hK.out _ _ ⟨v131, v135, v139, v143, (by rw [ha.out]; exact putSel_upk 29 hb_ rfl rfl rfl), Q_HO128, Q_BK125, Q_HB, Q_HO132, Q_HO136, Q_HO140, fun h0_ => absurd ((hoff 45 (by kernel_rfl)).symm.trans h0_) (by decide)⟩
                    refine steps_cons ?_ ?_
                    · rintro b a w' ⟨v131, v135, v139, v143, ha, Q_HO128, Q_BK125, Q_HB, Q_HO132, Q_HO136, Q_HO140, Q_HO144⟩ hb_ hon hoff
                      refine ⟨_, rfl, fun K hK => ?_⟩
                      have e54 : a.tmps[54]? = some (.int .u32 a0_10) := by rw [ha]; exact putSel_on (e := (42, 54, .int .u32 a0_10)) 28 rfl rfl (hon 42 (by kernel_rfl)) rfl
                      have e56 : a.tmps[56]? = some (.int .u32 a0_11) := by rw [ha]; exact putSel_on (e := (44, 56, .int .u32 a0_11)) 29 rfl rfl (hon 44 (by kernel_rfl)) rfl
                      replace ha := Aside0.mk ha
                      have HO128 := Aside0.mk Q_HO128
                      have BK125 := Aside0.mk Q_BK125
                      have HB := Aside0.mk Q_HB
                      refine Kd.R_lit_step (Kd.int .u32) _ 23 ?hg (N := 57) ?hd (xs := ([a0_10, a0_11] : List Int)) (inner := [.int .u32 a0_10, .int .u32 a0_11]) (ok := fun _ => True) (okp := fun _ => True) ?hr ?hp (fun _ hk => hk) trivial (Below.refl _ _) (Nat.le_refl _) (by simp) ?_; (case hd => rfl); (case hg => rfl); (case hr => first | (go_simp; done) | (go_simp; rfl)); (case hp => exact (Reps.one (show Kd.M (Kd.int .u32) _ _ _ a0_10 [.int .u32 a0_10] from rfl) (Reps.one (show Kd.M (Kd.int .u32) _ _ _ a0_11 [.int .u32 a0_11] from rfl) (Reps.none _ _))))
                      intro v143 w26 ho27 hb hg_ hnew_
                      clear hg_ hnew_
                      (first | rw [← Ny142.out] at ho27 | (simp only [Int.reduceToNat] at ho27; rw [← Ny142.out] at ho27))
                      have n0_ := Aside0.mk (Kd.R_below (by (with_reducible repeat (first | apply Kd.R_alloc | apply Kd.R_drewN | apply Kd.R_drew)); exact HO128.out) hb)
                      have n1_ := Aside0.mk (Kd.R_lower ho27 (below_size (by repeat (first | (with_reducible first | exact HB.out | apply below_alloc | apply pw_below_drewN | apply below_drew1 | refine below_set ?_ GE125.out) | exact HB.out))))
                      have n2_ := Aside0.mk (blk_below (g := gb125) (o := .cells #[.int .u16 a0_0, .int .u16 a0_1, .int .u16 a0_2, .int .u16 a0_3, .int .u32 a0_4, .int .u32 a0_5, .int .u32 a0_6, .int .u32 a0_7, .int .u16 a0_8, .int .u16 a0_9, .int .u32 a0_10, .int .u32 a0_11, .string a0_12, .string a0_13, .string a0_14] 27 (0, 0)) (by (with_reducible repeat (first | refine blk_drewN ?_ _ | refine blk_drew ?_ | refine blk_alloc ?_ _)); exact BK125.out) hb)
                      have n3_ := Aside0.mk (below_step (by repeat (first | (with_reducible first | exact HB.out | apply below_alloc | apply pw_below_drewN | apply below_drew1 | refine below_set ?_ GE125.out) | exact HB.out)) hb)
                      have z_HO132 := fun (h0_ : b 8 = true) => (show Kd.R (Kd.int .u16) 22 w26 w.heap.size (fun _ => True) v131 y130 from by first | exact (Kd.R_below (by (with_reducible repeat (first | apply Kd.R_alloc | apply Kd.R_drewN | apply Kd.R_drew)); exact (Q_HO132 h0_)) hb) | exact Kd.R_mono (Kd.R_below (by (with_reducible repeat (first | apply Kd.R_alloc | apply Kd.R_drewN | apply Kd.R_drew)); exact (Q_HO132 h0_)) hb) (fun _ h_ => by first | trivial | exact h_ | exact h_.1))
                      have z_HO136 := fun (h0_ : b 19 = true) => (show Kd.R (Kd.int .u32) 23 w26 w.heap.size (fun _ => True) v135 y134 from by first | exact (Kd.R_elder' (by (with_reducible repeat (first | apply Kd.R_alloc | apply Kd.R_drewN | apply Kd.R_drew)); exact (Q_HO136 h0_)) (Kd.R_base ho27) hb) | exact Kd.R_mono (Kd.R_elder' (by (with_reducible repeat (first | apply Kd.R_alloc | apply Kd.R_drewN | apply Kd.R_drew)); exact (Q_HO136 h0_)) (Kd.R_base ho27) hb) (fun _ h_ => by first | trivial | exact h_ | exact h_.1))
                      have z_HO140 := fun (h0_ : b 38 = true) => (show Kd.R (Kd.int .u16) 22 w26 w.heap.size (fun _ => True) v139 y138 from by first | exact (Kd.R_below (by (with_reducible repeat (first | apply Kd.R_alloc | apply Kd.R_drewN | apply Kd.R_drew)); exact (Q_HO140 h0_)) hb) | exact Kd.R_mono (Kd.R_below (by (with_reducible repeat (first | apply Kd.R_alloc | apply Kd.R_drewN | apply Kd.R_drew)); exact (Q_HO140 h0_)) hb) (fun _ h_ => by first | trivial | exact h_ | exact h_.1))
                      clear HO128
                      clear BK125
                      clear HB
                      have HO128 := n0_
                      have HO144 := n1_
                      have BK125 := n2_
                      have HB := n3_
                      clear n0_ n1_ n2_ n3_
                      clear hb ho27
                      refine hK.out _ _ ⟨v131, v135, v139, v143, (by rw [ha.out]; exact putSel_upk 30 hb_ rfl rfl rfl), (by (with_reducible repeat (first | apply Kd.R_alloc | apply Kd.R_drewN | apply Kd.R_drew)); exact HO128.out), (by (with_reducible repeat (first | refine blk_drewN ?_ _ | refine blk_drew ?_ | refine blk_alloc ?_ _)); exact BK125.out), (by repeat (first | (with_reducible first | exact HB.out | apply below_alloc | apply pw_below_drewN | apply below_drew1 | refine below_set ?_ GE125.out) | exact HB.out)), z_HO132, z_HO136, z_HO140, fun _ => (by (with_reducible repeat (first | apply Kd.R_alloc | apply Kd.R_drewN | apply Kd.R_drew)); exact HO144.out)⟩
                    refine steps_cons ?_ ?_
                    · rintro b a w' ⟨v131, v135, v139, v143, ha, Q_HO128, Q_BK125, Q_HB, Q_HO132, Q_HO136, Q_HO140, Q_HO144⟩ hb_ hon hoff
                      refine ⟨_, rfl, fun K hK => ?_⟩
                      have e57 : a.tmps[57]? = some (v143) := by rw [ha]; exact putSel_on (e := (45, 57, v143)) 30 rfl rfl (hon 45 (by kernel_rfl)) rfl
                      replace ha := Aside0.mk ha
                      have HO128 := Aside0.mk Q_HO128
                      have BK125 := Aside0.mk Q_BK125
                      have HB := Aside0.mk Q_HB
                      have HO132 := Aside0.mk (Q_HO132 (hon 8 (by kernel_rfl)))
                      have HO136 := Aside0.mk (Q_HO136 (hon 19 (by kernel_rfl)))
                      have HO140 := Aside0.mk (Q_HO140 (hon 38 (by kernel_rfl)))
                      have HO144 := Aside0.mk (Q_HO144 (hon 45 (by kernel_rfl)))
                      obtain ⟨Ao41, co41, eo41⟩ := Kd.R_slice HO144.out
                      (first | subst eo41 | (injection eo41 with f1_ f2_ f3_; have f4_ := f1_.symm; have f5_ := f3_.symm; clear f1_ f2_ f3_; subst f4_; subst f5_))
                      refine goes_ Try.func24 (by kernel_rfl) rfl #[.slice Ao41 y142.length co41] (by rfl) rfl rfl (by first | (simp only [List.map_toArray, List.map_cons, List.map_nil, Act.eval, Array.getD_eq_getD_getElem?, Option.getD_some, e57]; done) | (simp only [List.map_toArray, List.map_cons, List.map_nil, Act.eval, Array.getD_eq_getD_getElem?, Option.getD_some, e57]; rfl)) ?_
                      with_reducible refine (header_fours.calls _ _ y142 t145 _ ?side1 ?side2 A15.out).mono ?_
                      (case side1 => repeat (first | exact (Kd.R_reads' HO144.out).2.2 | (with_reducible refine Kd.C_alloc ?_ _) | (with_reducible refine Kd.C_drewN ?_ _) | (with_reducible refine Kd.C_drew ?_)))
                      (case side2 => exact (Kd.R_reads' HO144.out).2.1)
                      rintro e w42 ⟨rfl, hb⟩
                      refine ⟨_, rfl, ?_⟩
                      have n0_ := Aside0.mk (Kd.R_below (by (with_reducible repeat (first | apply Kd.R_alloc | apply Kd.R_drewN | apply Kd.R_drew)); exact HO128.out) hb)
                      have n1_ := Aside0.mk (Kd.R_below (by (with_reducible repeat (first | apply Kd.R_alloc | apply Kd.R_drewN | apply Kd.R_drew)); exact HO132.out) hb)
                      have n2_ := Aside0.mk (Kd.R_below (by (with_reducible repeat (first | apply Kd.R_alloc | apply Kd.R_drewN | apply Kd.R_drew)); exact HO136.out) hb)
                      have n3_ := Aside0.mk (Kd.R_below (by (with_reducible repeat (first | apply Kd.R_alloc | apply Kd.R_drewN | apply Kd.R_drew)); exact HO140.out) hb)
                      have n4_ := Aside0.mk (Kd.R_below (by (with_reducible repeat (first | apply Kd.R_alloc | apply Kd.R_drewN | apply Kd.R_drew)); exact HO144.out) hb)
                      have n5_ := Aside0.mk (blk_below (g := gb125) (o := .cells #[.int .u16 a0_0, .int .u16 a0_1, .int .u16 a0_2, .int .u16 a0_3, .int .u32 a0_4, .int .u32 a0_5, .int .u32 a0_6, .int .u32 a0_7, .int .u16 a0_8, .int .u16 a0_9, .int .u32 a0_10, .int .u32 a0_11, .string a0_12, .string a0_13, .string a0_14] 27 (0, 0)) (by (with_reducible repeat (first | refine blk_drewN ?_ _ | refine blk_drew ?_ | refine blk_alloc ?_ _)); exact BK125.out) hb)
                      have n6_ := Aside0.mk (below_step (by repeat (first | (with_reducible first | exact HB.out | apply below_alloc | apply pw_below_drewN | apply below_drew1 | refine below_set ?_ GE125.out) | exact HB.out)) hb)
                      clear HO128
                      clear HO132
                      clear HO136
                      clear HO140
                      clear HO144
                      clear BK125
                      clear HB
                      have HO128 := n0_
                      have HO132 := n1_
                      have HO136 := n2_
                      have HO140 := n3_
                      have HO144 := n4_
                      have BK125 := n5_
                      have HB := n6_
                      clear n0_ n1_ n2_ n3_ n4_ n5_ n6_
                      (try clear hb)
                      (try clear hb2)
                      (try clear hk)
                      (try clear hi)
                      refine hK.out _ _ ⟨v131, v135, v139, .slice Ao41 y142.length co41, (by rw [ha.out]; exact putSel_upk 31 hb_ rfl rfl rfl), (by (with_reducible repeat (first | apply Kd.R_alloc | apply Kd.R_drewN | apply Kd.R_drew)); exact HO128.out), (by (with_reducible repeat (first | refine blk_drewN ?_ _ | refine blk_drew ?_ | refine blk_alloc ?_ _)); exact BK125.out), (by repeat (first | (with_reducible first | exact HB.out | apply below_alloc | apply pw_below_drewN | apply below_drew1 | refine below_set ?_ GE125.out) | exact HB.out)), fun _ => (by (with_reducible repeat (first | apply Kd.R_alloc | apply Kd.R_drewN | apply Kd.R_drew)); exact HO132.out), fun _ => (by (with_reducible repeat (first | apply Kd.R_alloc | apply Kd.R_drewN | apply Kd.R_drew)); exact HO136.out), fun _ => (by (with_reducible repeat (first | apply Kd.R_alloc | apply Kd.R_drewN | apply Kd.R_drew)); exact HO140.out), fun _ => (by (with_reducible repeat (first | apply Kd.R_alloc | apply Kd.R_drewN | apply Kd.R_drew)); exact HO144.out)⟩
                    refine steps_cons ?_ ?_
                    · rintro b a w' ⟨v131, v135, v139, v143, ha, Q_HO128, Q_BK125, Q_HB, Q_HO132, Q_HO136, Q_HO140, Q_HO144⟩ hb_ hon hoff
                      refine ⟨_, rfl, fun K hK => ?_⟩
                      have e52 : a.tmps[52]? = some (.string ((((⟨#[80, 75, 1, 2]⟩ : ByteArray) ++ t133) ++ t137) ++ t141)) := by rw [ha]; exact putSel_on (e := (40, 52, .string ((((⟨#[80, 75, 1, 2]⟩ : ByteArray) ++ t133) ++ t137) ++ t141))) 27 rfl rfl (hon 40 (by kernel_rfl)) rfl
                      have e58 : a.tmps[58]? = some (.string t145) := by rw [ha]; exact putSel_on (e := (46, 58, .string t145)) 31 rfl rfl (hon 46 (by kernel_rfl)) rfl
                      replace ha := Aside0.mk ha
                      have HO128 := Aside0.mk Q_HO128
                      have BK125 := Aside0.mk Q_BK125
                      have HB := Aside0.mk Q_HB
                      have HO132 := Aside0.mk (Q_HO132 (hon 8 (by kernel_rfl)))
                      have HO136 := Aside0.mk (Q_HO136 (hon 19 (by kernel_rfl)))
                      have HO140 := Aside0.mk (Q_HO140 (hon 38 (by kernel_rfl)))
                      have HO144 := Aside0.mk (Q_HO144 (hon 45 (by kernel_rfl)))
                      refine value_ (w1 := w') (v := .string (((((⟨#[80, 75, 1, 2]⟩ : ByteArray) ++ t133) ++ t137) ++ t141) ++ t145)) (by rfl) rfl ?_ ?_
                      · go_simp
                        (try simp only [i64_w])
                        try rfl
                      refine hK.out _ _ ⟨v131, v135, v139, v143, (by rw [ha.out]; exact putSel_upk 32 hb_ rfl rfl rfl), Q_HO128, Q_BK125, Q_HB, Q_HO132, Q_HO136, Q_HO140, Q_HO144⟩
                    refine steps_cons ?_ ?_
                    · rintro b a w' ⟨v131, v135, v139, v143, ha, Q_HO128, Q_BK125, Q_HB, Q_HO132, Q_HO136, Q_HO140, Q_HO144⟩ hb_ hon hoff
                      refine ⟨_, rfl, fun K hK => ?_⟩
                      have e60 : a.tmps[60]? = some (.pointer (some ⟨gb125, 12, none⟩)) := by rw [ha]; exact (putSel_off rfl).trans rfl
                      replace ha := Aside0.mk ha
                      have HO128 := Aside0.mk Q_HO128
                      have BK125 := Aside0.mk Q_BK125
                      have HB := Aside0.mk Q_HB
                      have hc0_ : w'.cell? ⟨gb125, 0, none⟩ = some (.int .u16 a0_0) := (blk_cell BK125.out 0).trans rfl
                      have hc1_ : w'.cell? ⟨gb125, 1, none⟩ = some (.int .u16 a0_1) := (blk_cell BK125.out 1).trans rfl
                      have hc2_ : w'.cell? ⟨gb125, 2, none⟩ = some (.int .u16 a0_2) := (blk_cell BK125.out 2).trans rfl
                      have hc3_ : w'.cell? ⟨gb125, 3, none⟩ = some (.int .u16 a0_3) := (blk_cell BK125.out 3).trans rfl
                      have hc4_ : w'.cell? ⟨gb125, 4, none⟩ = some (.int .u32 a0_4) := (blk_cell BK125.out 4).trans rfl
                      have hc5_ : w'.cell? ⟨gb125, 5, none⟩ = some (.int .u32 a0_5) := (blk_cell BK125.out 5).trans rfl
                      have hc6_ : w'.cell? ⟨gb125, 6, none⟩ = some (.int .u32 a0_6) := (blk_cell BK125.out 6).trans rfl
                      have hc7_ : w'.cell? ⟨gb125, 7, none⟩ = some (.int .u32 a0_7) := (blk_cell BK125.out 7).trans rfl
                      have hc8_ : w'.cell? ⟨gb125, 8, none⟩ = some (.int .u16 a0_8) := (blk_cell BK125.out 8).trans rfl
                      have hc9_ : w'.cell? ⟨gb125, 9, none⟩ = some (.int .u16 a0_9) := (blk_cell BK125.out 9).trans rfl
                      have hc10_ : w'.cell? ⟨gb125, 10, none⟩ = some (.int .u32 a0_10) := (blk_cell BK125.out 10).trans rfl
                      have hc11_ : w'.cell? ⟨gb125, 11, none⟩ = some (.int .u32 a0_11) := (blk_cell BK125.out 11).trans rfl
                      have hc12_ : w'.cell? ⟨gb125, 12, none⟩ = some (.string a0_12) := (blk_cell BK125.out 12).trans rfl
                      have hc13_ : w'.cell? ⟨gb125, 13, none⟩ = some (.string a0_13) := (blk_cell BK125.out 13).trans rfl
                      have hc14_ : w'.cell? ⟨gb125, 14, none⟩ = some (.string a0_14) := (blk_cell BK125.out 14).trans rfl
                      refine value_ (w1 := w') (v := .string a0_12) (by rfl) rfl ?_ ?_
                      · go_simp
                        (try simp only [i64_w])
                        try rfl
                      refine hK.out _ _ ⟨v131, v135, v139, v143, (by rw [ha.out]; exact putSel_upk 33 hb_ rfl rfl rfl), Q_HO128, Q_BK125, Q_HB, Q_HO132, Q_HO136, Q_HO140, Q_HO144⟩
                    refine steps_cons ?_ ?_
                    · rintro b a w' ⟨v131, v135, v139, v143, ha, Q_HO128, Q_BK125, Q_HB, Q_HO132, Q_HO136, Q_HO140, Q_HO144⟩ hb_ hon hoff
                      refine ⟨_, rfl, fun K hK => ?_⟩
                      have e59 : a.tmps[59]? = some (.string (((((⟨#[80, 75, 1, 2]⟩ : ByteArray) ++ t133) ++ t137) ++ t141) ++ t145)) := by rw [ha]; exact putSel_on (e := (47, 59, .string (((((⟨#[80, 75, 1, 2]⟩ : ByteArray) ++ t133) ++ t137) ++ t141) ++ t145))) 32 rfl rfl (hon 47 (by kernel_rfl)) rfl
                      have e61 : a.tmps[61]? = some (.string a0_12) := by rw [ha]; exact putSel_on (e := (49, 61, .string a0_12)) 33 rfl rfl (hon 49 (by kernel_rfl)) rfl
                      replace ha := Aside0.mk ha
                      have HO128 := Aside0.mk Q_HO128
                      have BK125 := Aside0.mk Q_BK125
                      have HB := Aside0.mk Q_HB
                      have HO132 := Aside0.mk (Q_HO132 (hon 8 (by kernel_rfl)))
                      have HO136 := Aside0.mk (Q_HO136 (hon 19 (by kernel_rfl)))
                      have HO140 := Aside0.mk (Q_HO140 (hon 38 (by kernel_rfl)))
                      have HO144 := Aside0.mk (Q_HO144 (hon 45 (by kernel_rfl)))
                      refine value_ (w1 := w') (v := .string ((((((⟨#[80, 75, 1, 2]⟩ : ByteArray) ++ t133) ++ t137) ++ t141) ++ t145) ++ a0_12)) (by rfl) rfl ?_ ?_
                      · go_simp
                        (try simp only [i64_w])
                        try rfl
                      refine hK.out _ _ ⟨v131, v135, v139, v143, (by rw [ha.out]; exact putSel_upk 34 hb_ rfl rfl rfl), Q_HO128, Q_BK125, Q_HB, Q_HO132, Q_HO136, Q_HO140, Q_HO144⟩
                    refine steps_cons ?_ ?_
                    · rintro b a w' ⟨v131, v135, v139, v143, ha, Q_HO128, Q_BK125, Q_HB, Q_HO132, Q_HO136, Q_HO140, Q_HO144⟩ hb_ hon hoff
                      refine ⟨_, rfl, fun K hK => ?_⟩
                      have e63 : a.tmps[63]? = some (.pointer (some ⟨gb125, 13, none⟩)) := by rw [ha]; exact (putSel_off rfl).trans rfl
                      replace ha := Aside0.mk ha
                      have HO128 := Aside0.mk Q_HO128
                      have BK125 := Aside0.mk Q_BK125
                      have HB := Aside0.mk Q_HB
                      have hc0_ : w'.cell? ⟨gb125, 0, none⟩ = some (.int .u16 a0_0) := (blk_cell BK125.out 0).trans rfl
                      have hc1_ : w'.cell? ⟨gb125, 1, none⟩ = some (.int .u16 a0_1) := (blk_cell BK125.out 1).trans rfl
                      have hc2_ : w'.cell? ⟨gb125, 2, none⟩ = some (.int .u16 a0_2) := (blk_cell BK125.out 2).trans rfl
                      have hc3_ : w'.cell? ⟨gb125, 3, none⟩ = some (.int .u16 a0_3) := (blk_cell BK125.out 3).trans rfl
                      have hc4_ : w'.cell? ⟨gb125, 4, none⟩ = some (.int .u32 a0_4) := (blk_cell BK125.out 4).trans rfl
                      have hc5_ : w'.cell? ⟨gb125, 5, none⟩ = some (.int .u32 a0_5) := (blk_cell BK125.out 5).trans rfl
                      have hc6_ : w'.cell? ⟨gb125, 6, none⟩ = some (.int .u32 a0_6) := (blk_cell BK125.out 6).trans rfl
                      have hc7_ : w'.cell? ⟨gb125, 7, none⟩ = some (.int .u32 a0_7) := (blk_cell BK125.out 7).trans rfl
                      have hc8_ : w'.cell? ⟨gb125, 8, none⟩ = some (.int .u16 a0_8) := (blk_cell BK125.out 8).trans rfl
                      have hc9_ : w'.cell? ⟨gb125, 9, none⟩ = some (.int .u16 a0_9) := (blk_cell BK125.out 9).trans rfl
                      have hc10_ : w'.cell? ⟨gb125, 10, none⟩ = some (.int .u32 a0_10) := (blk_cell BK125.out 10).trans rfl
                      have hc11_ : w'.cell? ⟨gb125, 11, none⟩ = some (.int .u32 a0_11) := (blk_cell BK125.out 11).trans rfl
                      have hc12_ : w'.cell? ⟨gb125, 12, none⟩ = some (.string a0_12) := (blk_cell BK125.out 12).trans rfl
                      have hc13_ : w'.cell? ⟨gb125, 13, none⟩ = some (.string a0_13) := (blk_cell BK125.out 13).trans rfl
                      have hc14_ : w'.cell? ⟨gb125, 14, none⟩ = some (.string a0_14) := (blk_cell BK125.out 14).trans rfl
                      refine value_ (w1 := w') (v := .string a0_13) (by rfl) rfl ?_ ?_
                      · go_simp
                        (try simp only [i64_w])
                        try rfl
                      refine hK.out _ _ ⟨v131, v135, v139, v143, (by rw [ha.out]; exact putSel_upk 35 hb_ rfl rfl rfl), Q_HO128, Q_BK125, Q_HB, Q_HO132, Q_HO136, Q_HO140, Q_HO144⟩
                    refine steps_cons ?_ ?_
                    · rintro b a w' ⟨v131, v135, v139, v143, ha, Q_HO128, Q_BK125, Q_HB, Q_HO132, Q_HO136, Q_HO140, Q_HO144⟩ hb_ hon hoff
                      refine ⟨_, rfl, fun K hK => ?_⟩
                      have e62 : a.tmps[62]? = some (.string ((((((⟨#[80, 75, 1, 2]⟩ : ByteArray) ++ t133) ++ t137) ++ t141) ++ t145) ++ a0_12)) := by rw [ha]; exact putSel_on (e := (50, 62, .string ((((((⟨#[80, 75, 1, 2]⟩ : ByteArray) ++ t133) ++ t137) ++ t141) ++ t145) ++ a0_12))) 34 rfl rfl (hon 50 (by kernel_rfl)) rfl
                      have e64 : a.tmps[64]? = some (.string a0_13) := by rw [ha]; exact putSel_on (e := (52, 64, .string a0_13)) 35 rfl rfl (hon 52 (by kernel_rfl)) rfl
                      replace ha := Aside0.mk ha
                      have HO128 := Aside0.mk Q_HO128
                      have BK125 := Aside0.mk Q_BK125
                      have HB := Aside0.mk Q_HB
                      have HO132 := Aside0.mk (Q_HO132 (hon 8 (by kernel_rfl)))
                      have HO136 := Aside0.mk (Q_HO136 (hon 19 (by kernel_rfl)))
                      have HO140 := Aside0.mk (Q_HO140 (hon 38 (by kernel_rfl)))
                      have HO144 := Aside0.mk (Q_HO144 (hon 45 (by kernel_rfl)))
                      refine value_ (w1 := w') (v := .string (((((((⟨#[80, 75, 1, 2]⟩ : ByteArray) ++ t133) ++ t137) ++ t141) ++ t145) ++ a0_12) ++ a0_13)) (by rfl) rfl ?_ ?_
                      · go_simp
                        (try simp only [i64_w])
                        try rfl
                      refine hK.out _ _ ⟨v131, v135, v139, v143, (by rw [ha.out]; exact putSel_upk 36 hb_ rfl rfl rfl), Q_HO128, Q_BK125, Q_HB, Q_HO132, Q_HO136, Q_HO140, Q_HO144⟩
                    refine steps_cons ?_ ?_
                    · rintro b a w' ⟨v131, v135, v139, v143, ha, Q_HO128, Q_BK125, Q_HB, Q_HO132, Q_HO136, Q_HO140, Q_HO144⟩ hb_ hon hoff
                      refine ⟨_, rfl, fun K hK => ?_⟩
                      have e66 : a.tmps[66]? = some (.pointer (some ⟨gb125, 14, none⟩)) := by rw [ha]; exact (putSel_off rfl).trans rfl
                      replace ha := Aside0.mk ha
                      have HO128 := Aside0.mk Q_HO128
                      have BK125 := Aside0.mk Q_BK125
                      have HB := Aside0.mk Q_HB
                      have hc0_ : w'.cell? ⟨gb125, 0, none⟩ = some (.int .u16 a0_0) := (blk_cell BK125.out 0).trans rfl
                      have hc1_ : w'.cell? ⟨gb125, 1, none⟩ = some (.int .u16 a0_1) := (blk_cell BK125.out 1).trans rfl
                      have hc2_ : w'.cell? ⟨gb125, 2, none⟩ = some (.int .u16 a0_2) := (blk_cell BK125.out 2).trans rfl
                      have hc3_ : w'.cell? ⟨gb125, 3, none⟩ = some (.int .u16 a0_3) := (blk_cell BK125.out 3).trans rfl
                      have hc4_ : w'.cell? ⟨gb125, 4, none⟩ = some (.int .u32 a0_4) := (blk_cell BK125.out 4).trans rfl
                      have hc5_ : w'.cell? ⟨gb125, 5, none⟩ = some (.int .u32 a0_5) := (blk_cell BK125.out 5).trans rfl
                      have hc6_ : w'.cell? ⟨gb125, 6, none⟩ = some (.int .u32 a0_6) := (blk_cell BK125.out 6).trans rfl
                      have hc7_ : w'.cell? ⟨gb125, 7, none⟩ = some (.int .u32 a0_7) := (blk_cell BK125.out 7).trans rfl
                      have hc8_ : w'.cell? ⟨gb125, 8, none⟩ = some (.int .u16 a0_8) := (blk_cell BK125.out 8).trans rfl
                      have hc9_ : w'.cell? ⟨gb125, 9, none⟩ = some (.int .u16 a0_9) := (blk_cell BK125.out 9).trans rfl
                      have hc10_ : w'.cell? ⟨gb125, 10, none⟩ = some (.int .u32 a0_10) := (blk_cell BK125.out 10).trans rfl
                      have hc11_ : w'.cell? ⟨gb125, 11, none⟩ = some (.int .u32 a0_11) := (blk_cell BK125.out 11).trans rfl
                      have hc12_ : w'.cell? ⟨gb125, 12, none⟩ = some (.string a0_12) := (blk_cell BK125.out 12).trans rfl
                      have hc13_ : w'.cell? ⟨gb125, 13, none⟩ = some (.string a0_13) := (blk_cell BK125.out 13).trans rfl
                      have hc14_ : w'.cell? ⟨gb125, 14, none⟩ = some (.string a0_14) := (blk_cell BK125.out 14).trans rfl
                      refine value_ (w1 := w') (v := .string a0_14) (by rfl) rfl ?_ ?_
                      · go_simp
                        (try simp only [i64_w])
                        try rfl
                      refine hK.out _ _ ⟨v131, v135, v139, v143, (by rw [ha.out]; exact putSel_upk 37 hb_ rfl rfl rfl), Q_HO128, Q_BK125, Q_HB, Q_HO132, Q_HO136, Q_HO140, Q_HO144⟩
                    refine steps_cons ?_ ?_
                    · rintro b a w' ⟨v131, v135, v139, v143, ha, Q_HO128, Q_BK125, Q_HB, Q_HO132, Q_HO136, Q_HO140, Q_HO144⟩ hb_ hon hoff
                      refine ⟨_, rfl, fun K hK => ?_⟩
                      have e65 : a.tmps[65]? = some (.string (((((((⟨#[80, 75, 1, 2]⟩ : ByteArray) ++ t133) ++ t137) ++ t141) ++ t145) ++ a0_12) ++ a0_13)) := by rw [ha]; exact putSel_on (e := (53, 65, .string (((((((⟨#[80, 75, 1, 2]⟩ : ByteArray) ++ t133) ++ t137) ++ t141) ++ t145) ++ a0_12) ++ a0_13))) 36 rfl rfl (hon 53 (by kernel_rfl)) rfl
                      have e67 : a.tmps[67]? = some (.string a0_14) := by rw [ha]; exact putSel_on (e := (55, 67, .string a0_14)) 37 rfl rfl (hon 55 (by kernel_rfl)) rfl
                      replace ha := Aside0.mk ha
                      have HO128 := Aside0.mk Q_HO128
                      have BK125 := Aside0.mk Q_BK125
                      have HB := Aside0.mk Q_HB
                      have HO132 := Aside0.mk (Q_HO132 (hon 8 (by kernel_rfl)))
                      have HO136 := Aside0.mk (Q_HO136 (hon 19 (by kernel_rfl)))
                      have HO140 := Aside0.mk (Q_HO140 (hon 38 (by kernel_rfl)))
                      have HO144 := Aside0.mk (Q_HO144 (hon 45 (by kernel_rfl)))
                      refine value_ (w1 := w') (v := .string ((((((((⟨#[80, 75, 1, 2]⟩ : ByteArray) ++ t133) ++ t137) ++ t141) ++ t145) ++ a0_12) ++ a0_13) ++ a0_14)) (by rfl) rfl ?_ ?_
                      · go_simp
                        (try simp only [i64_w])
                        try rfl
                      refine hK.out _ _ ⟨v131, v135, v139, v143, (by rw [ha.out]; exact putSel_upk 38 hb_ rfl rfl rfl), Q_HO128, Q_BK125, Q_HB, Q_HO132, Q_HO136, Q_HO140, Q_HO144⟩
                    refine steps_cons ?_ ?_
                    · rintro b a w' ⟨v131, v135, v139, v143, ha, Q_HO128, Q_BK125, Q_HB, Q_HO132, Q_HO136, Q_HO140, Q_HO144⟩ hb_ hon hoff
                      refine ⟨_, rfl, fun K hK => ?_⟩
                      have e68 : a.tmps[68]? = some (.string ((((((((⟨#[80, 75, 1, 2]⟩ : ByteArray) ++ t133) ++ t137) ++ t141) ++ t145) ++ a0_12) ++ a0_13) ++ a0_14)) := by rw [ha]; exact putSel_on (e := (56, 68, .string ((((((((⟨#[80, 75, 1, 2]⟩ : ByteArray) ++ t133) ++ t137) ++ t141) ++ t145) ++ a0_12) ++ a0_13) ++ a0_14))) 38 rfl rfl (hon 56 (by kernel_rfl)) rfl
                      replace ha := Aside0.mk ha
                      have HO128 := Aside0.mk Q_HO128
                      have BK125 := Aside0.mk Q_BK125
                      have HB := Aside0.mk Q_HB
                      have HO132 := Aside0.mk (Q_HO132 (hon 8 (by kernel_rfl)))
                      have HO136 := Aside0.mk (Q_HO136 (hon 19 (by kernel_rfl)))
                      have HO140 := Aside0.mk (Q_HO140 (hon 38 (by kernel_rfl)))
                      have HO144 := Aside0.mk (Q_HO144 (hon 45 (by kernel_rfl)))
                      refine value_ (w1 := w') (v := .string ((((((((⟨#[80, 75, 1, 2]⟩ : ByteArray) ++ t133) ++ t137) ++ t141) ++ t145) ++ a0_12) ++ a0_13) ++ a0_14)) (by rfl) rfl ?_ ?_
                      · go_simp
                        (try simp only [i64_w])
                        try rfl
                      refine hK.out _ _ ⟨v131, v135, v139, v143, (by rw [ha.out]; exact putSel_upk 39 hb_ rfl rfl rfl), Q_HO128, Q_BK125, Q_HB, Q_HO132, Q_HO136, Q_HO140, Q_HO144⟩
                    refine steps_cons ?_ ?_
                    · rintro b a w' ⟨v131, v135, v139, v143, ha, Q_HO128, Q_BK125, Q_HB, Q_HO132, Q_HO136, Q_HO140, Q_HO144⟩ hb_ hon hoff
                      refine ⟨_, rfl, fun K hK => ?_⟩
                      replace ha := Aside0.mk ha
                      have HO128 := Aside0.mk Q_HO128
                      have BK125 := Aside0.mk Q_BK125
                      have HB := Aside0.mk Q_HB
                      have HO132 := Aside0.mk (Q_HO132 (hon 8 (by kernel_rfl)))
                      have HO136 := Aside0.mk (Q_HO136 (hon 19 (by kernel_rfl)))
                      have HO140 := Aside0.mk (Q_HO140 (hon 38 (by kernel_rfl)))
                      have HO144 := Aside0.mk (Q_HO144 (hon 45 (by kernel_rfl)))
                      refine value_ (w1 := w') (v := .int .i64 0) (by rfl) rfl ?_ ?_
                      · go_simp
                        (try simp only [i64_w])
                        try rfl
                      refine hK.out _ _ ⟨v131, v135, v139, v143, (by rw [ha.out]; exact putSel_upk 40 hb_ rfl rfl rfl), Q_HO128, Q_BK125, Q_HB, Q_HO132, Q_HO136, Q_HO140, Q_HO144⟩
                    exact steps_nil
                  rintro b a w42 hall ⟨v131, v135, v139, v143, ha, Q_HO128, Q_BK125, Q_HB, Q_HO132, Q_HO136, Q_HO140, Q_HO144⟩
                  clear BK125 HB HO128
                  have hb1_ := hall 1 (by kernel_rfl)
                  have hb3_ := hall 3 (by kernel_rfl)
                  have hb5_ := hall 5 (by kernel_rfl)
                  have hb7_ := hall 7 (by kernel_rfl)
                  have hb8_ := hall 8 (by kernel_rfl)
                  have hb9_ := hall 9 (by kernel_rfl)
                  have hb10_ := hall 10 (by kernel_rfl)
                  have hb12_ := hall 12 (by kernel_rfl)
                  have hb14_ := hall 14 (by kernel_rfl)
                  have hb16_ := hall 16 (by kernel_rfl)
                  have hb18_ := hall 18 (by kernel_rfl)
                  have hb19_ := hall 19 (by kernel_rfl)
                  have hb20_ := hall 20 (by kernel_rfl)
                  have hb21_ := hall 21 (by kernel_rfl)
                  have hb23_ := hall 23 (by kernel_rfl)
                  have hb24_ := hall 24 (by kernel_rfl)
                  have hb25_ := hall 25 (by kernel_rfl)
                  have hb27_ := hall 27 (by kernel_rfl)
                  have hb28_ := hall 28 (by kernel_rfl)
                  have hb29_ := hall 29 (by kernel_rfl)
                  have hb31_ := hall 31 (by kernel_rfl)
                  have hb32_ := hall 32 (by kernel_rfl)
                  have hb33_ := hall 33 (by kernel_rfl)
                  have hb35_ := hall 35 (by kernel_rfl)
                  have hb37_ := hall 37 (by kernel_rfl)
                  have hb38_ := hall 38 (by kernel_rfl)
                  have hb39_ := hall 39 (by kernel_rfl)
                  have hb40_ := hall 40 (by kernel_rfl)
                  have hb42_ := hall 42 (by kernel_rfl)
                  have hb44_ := hall 44 (by kernel_rfl)
                  have hb45_ := hall 45 (by kernel_rfl)
                  have hb46_ := hall 46 (by kernel_rfl)
                  have hb47_ := hall 47 (by kernel_rfl)
                  have hb49_ := hall 49 (by kernel_rfl)
                  have hb50_ := hall 50 (by kernel_rfl)
                  have hb52_ := hall 52 (by kernel_rfl)
                  have hb53_ := hall 53 (by kernel_rfl)
                  have hb55_ := hall 55 (by kernel_rfl)
                  have hb56_ := hall 56 (by kernel_rfl)
                  have hb57_ := hall 57 (by kernel_rfl)
                  have hb58_ := hall 58 (by kernel_rfl)
                  subst ha
                  simp only [putSel, hb1_, hb3_, hb5_, hb7_, hb8_, hb9_, hb10_, hb12_, hb14_, hb16_, hb18_, hb19_, hb20_, hb21_, hb23_, hb24_, hb25_, hb27_, hb28_, hb29_, hb31_, hb32_, hb33_, hb35_, hb37_, hb38_, hb39_, hb40_, hb42_, hb44_, hb45_, hb46_, hb47_, hb49_, hb50_, hb52_, hb53_, hb55_, hb56_, hb57_, hb58_, if_true, Act.put, List.setIfInBounds_toArray, List.set_cons_zero, List.set_cons_succ]
                  have HO128 := Aside0.mk Q_HO128
                  clear Q_HO128
                  have BK125 := Aside0.mk Q_BK125
                  clear Q_BK125
                  have HB := Aside0.mk Q_HB
                  clear Q_HB
                  have HO132 := Aside0.mk (Q_HO132 hb8_)
                  clear Q_HO132
                  have HO136 := Aside0.mk (Q_HO136 hb19_)
                  clear Q_HO136
                  have HO140 := Aside0.mk (Q_HO140 hb38_)
                  clear Q_HO140
                  have HO144 := Aside0.mk (Q_HO144 hb45_)
                  clear Q_HO144
                  clear hall hb1_ hb3_ hb5_ hb7_ hb8_ hb9_ hb10_ hb12_ hb14_ hb16_ hb18_ hb19_ hb20_ hb21_ hb23_ hb24_ hb25_ hb27_ hb28_ hb29_ hb31_ hb32_ hb33_ hb35_ hb37_ hb38_ hb39_ hb40_ hb42_ hb44_ hb45_ hb46_ hb47_ hb49_ hb50_ hb52_ hb53_ hb55_ hb56_ hb57_ hb58_
                  try go_wp2
                  go_ret2
                  exact ⟨by first | rfl | (simp [errW_none, errW_some] <;> rfl) | (simp [*, errW_none, errW_some] <;> rfl), by repeat (first | (with_reducible first | exact HB.out | apply below_alloc | apply pw_below_drewN | apply below_drew1 | refine below_set ?_ GE125.out) | exact HB.out)⟩
                · rw [if_neg c19] at H
                  exact absurd H (by simp)
              · rw [if_neg c18] at H
                exact absurd H (by simp)
            · rw [if_neg c17] at H
              exact absurd H (by simp)
          · rw [if_neg c16] at H
            exact absurd H (by simp)
        · rw [if_neg c14] at H
          exact absurd H (by simp)
      · rw [if_neg c12] at H
        exact absurd H (by simp)
    · rw [if_neg c10] at H
      exact absurd H (by simp)
end Go.Proofs.Ytnjfddmajiihjaa.P
