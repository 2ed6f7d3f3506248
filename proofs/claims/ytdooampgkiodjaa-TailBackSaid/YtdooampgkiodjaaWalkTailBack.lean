/- TailBack: what is printed behind any bytes is found as it was: the walk. Printed by genback18.py; its arms after the printer's own. -/
import Derived.Test.YtdooampgkiodjaaPlainTailBack
import Derived.Test.YtdooampgkiodjaaPx10
import Derived.Test.YtdooampgkiodjaaPx8
namespace Go.Proofs.Ytdooampgkiodjaa.Walk
set_option linter.unusedVariables false
set_option linter.unusedSimpArgs false
open Go Go.RowKit Go.Proofs.Ytdooampgkiodjaa.P Go.Proofs.Ytdooampgkiodjaa.B Go.Proofs.Ytdooampgkiodjaa.D18 Go.Proofs.YtdooampgkiodjaaW.PrintWords Go.Proofs.YtdooampgkiodjaaW.PrintLast Go.Proofs.YtdooampgkiodjaaW.PrintMore
set_option maxHeartbeats 4000000 in
set_option maxRecDepth 100000 in
theorem back_big0 (a0 a1 : ByteArray) (a2 a3 : Int) (a4 : Bool) (w : World) (h : 2000 < a0.size) :
    Calls Try.prog 5 #[.string a0, .string a1, .int .u64 a2, .int .u64 a3, .bool a4] w fun e w' => e = .returned (.bool true) ∧ Below w.heap.size w w' := by
  have hz1 : decide (2000 < a0.size) = true := decide_eq_true h
  have hz2 : decide ((2000 : Int) < (a0.size : Int)) = true := decide_eq_true (by omega)
  clear h
  have hu25 := Try.underlying25
  have HB := Aside0.mk (Below.refl w.heap.size w)
  have HA := Aside0.mk (awake_up 2000 (by decide))
  go_enter Try.func5, Try.ntmps5
  go_wp2_with (go_at_call 7; (with_reducible refine (portmanteaulaw18_awake.calls 2000 true _ HA.out).mono ?_); rintro e w9 ⟨rfl, hb⟩; have n0_ := Aside0.mk (below_step HB.out hb); clear HB; have HB := n0_; clear n0_ hb)
  go_ret
  exact ⟨rfl, HB.out⟩
set_option maxHeartbeats 4000000 in
set_option maxRecDepth 100000 in
theorem back_big1 (a0 a1 : ByteArray) (a2 a3 : Int) (a4 : Bool) (w : World) (h0 : ¬ 2000 < a0.size) (h : 1000 < a1.size) :
    Calls Try.prog 5 #[.string a0, .string a1, .int .u64 a2, .int .u64 a3, .bool a4] w fun e w' => e = .returned (.bool true) ∧ Below w.heap.size w w' := by
  have hy1 : decide (2000 < a0.size) = false := decide_eq_false h0
  have hy2 : decide ((2000 : Int) < (a0.size : Int)) = false := decide_eq_false (by omega)
  have hz1 : decide (1000 < a1.size) = true := decide_eq_true h
  have hz2 : decide ((1000 : Int) < (a1.size : Int)) = true := decide_eq_true (by omega)
  clear h
  have hu25 := Try.underlying25
  have HB := Aside0.mk (Below.refl w.heap.size w)
  have HA := Aside0.mk (awake_up 2000 (by decide))
  go_enter Try.func5, Try.ntmps5
  go_wp2_with (go_at_call 7; (with_reducible refine (portmanteaulaw18_awake.calls 2000 true _ HA.out).mono ?_); rintro e w9 ⟨rfl, hb⟩; have n0_ := Aside0.mk (below_step HB.out hb); clear HB; have HB := n0_; clear n0_ hb)
  go_ret
  exact ⟨rfl, HB.out⟩
set_option maxHeartbeats 16000000 in
set_option maxRecDepth 100000 in
theorem back_core (a0 a1 : ByteArray) (a2 a3 : Int) (a4 : Bool) (w : World) (z off er li : Int) (t : ByteArray) (k : Nat) (h0 : ¬ 2000 < a0.size) (h1 : ¬ 1000 < a1.size) (ht : t.size ≤ 10000)
    (hz : Int.tmod a3 ((a0.size : Int) + 1) = z) (hoff : IntKind.u64.wrap ((a0.size : Int) - z) = off)
    (hP : tail_Print.f (a0.size : Int) a2 z off a1 a4 = some (t, er)) (hL : strings_LastIndex.f t (⟨#[80, 75, 5, 6]⟩ : ByteArray) = some li)
    (hcase : (er ≠ 0 ∧ a4 = false ∧ 65535 ≤ a2) ∨ (er = 0 ∧ (t.size : Int) - 22 - (a1.size : Int) < li) ∨ (er = 0 ∧ ¬ (t.size : Int) - 22 - (a1.size : Int) < li ∧ tail_Find.f k (a0 ++ t) = some ((a0.size : Int), a2, z, off, a1, a4, 0))) :
    Calls Try.prog 5 #[.string a0, .string a1, .int .u64 a2, .int .u64 a3, .bool a4] w fun e w' => e = .returned (.bool true) ∧ Below w.heap.size w w' := by
  have HU := Aside0.mk (u64_id (x := (a0.size : Int)) (by omega) (by omega))
  have HU1 := Aside0.mk (u64_id (x := (a0.size : Int) + 1) (by omega) (by omega))
  have HNE := Aside0.mk (show (IntKind.u64.wrap ((a0.size : Int) + 1) == 0) = false by rw [HU1.out]; exact beq_eq_false_iff_ne.mpr (by omega))
  have HNE1 := Aside0.mk (show ((a0.size : Int) + 1 == 0) = false from beq_eq_false_iff_ne.mpr (by omega))
  have HW := Aside0.mk (show wrap64 ((wrap64 ((t.size : Int) - 22)) - (a1.size : Int)) = (t.size : Int) - 22 - (a1.size : Int) by rw [wrap_id (x := (t.size : Int) - 22) (by omega) (by omega), wrap_id (by omega) (by omega)])
  have HSZ := Aside0.mk (show a0.size + t.size ≤ 9223372036854775807 by omega)
  have HZ := Aside0.mk hz
  have HO := Aside0.mk hoff
  have HP := Aside0.mk hP
  have HL := Aside0.mk hL
  have HCASE := Aside0.mk hcase
  have hy1 : decide (2000 < a0.size) = false := decide_eq_false h0
  have hy2 : decide ((2000 : Int) < (a0.size : Int)) = false := decide_eq_false (by omega)
  have hx1 : decide (1000 < a1.size) = false := decide_eq_false h1
  have hx2 : decide ((1000 : Int) < (a1.size : Int)) = false := decide_eq_false (by omega)
  clear h0 h1 ht hz hoff hP hL hcase
  have hu25 := Try.underlying25
  have HB := Aside0.mk (Below.refl w.heap.size w)
  have HA := Aside0.mk (awake_up 2000 (by decide))
  go_enter Try.func5, Try.ntmps5
  go_upto_region 6 with (go_at_call 7; (with_reducible refine (portmanteaulaw18_awake.calls 2000 true _ HA.out).mono ?_); rintro e w9 ⟨rfl, hb⟩; have n0_ := Aside0.mk (below_step HB.out hb); clear HB; have HB := n0_; clear n0_ hb)
  rw [HU.out]
  clear hy1 hy2 hx1 hx2
  have hne := HNE.out
  have hne1 := HNE1.out
  go_upto_region 7 with ((with_reducible refine gate_dst (N := 12) rfl ?_); (try (refine gate_guard (by rfl) ?_; dsimp only)); refine box_event ?hg (N := 12) ?hd (cs := #[.int .i64 0, .int .u64 0, .int .u64 0, .int .u64 0, .string (⟨#[]⟩ : ByteArray), .bool false]) (t := 25) ?hr ?_; (case hd => rfl); (case hg => rfl); (case hr => first | (go_simp; done) | (go_simp; rfl)); intro gb hg w17 hbox hb; have n0_ := Aside0.mk (below_step (by repeat (first | (with_reducible first | exact HB.out | apply below_alloc | apply pw_below_drewN | apply below_drew1) | exact HB.out)) hb); have n1_ := Aside0.mk (hbox); have n3_ := Aside0.mk ((by rw [hg]; exact (below_size (by repeat (first | (with_reducible first | exact HB.out | apply below_alloc | apply pw_below_drewN | apply below_drew1) | exact HB.out)))) : w.heap.size ≤ gb); clear HB; have HB := n0_; have BK := n1_; have GE := n3_; clear n0_ n1_ n3_; clear hb hbox hg; have hcza_0 : w17.cell? ⟨gb, 0, none⟩ = some (.int .i64 0) := (blk_cell BK.out 0).trans rfl; have hcza_1 : w17.cell? ⟨gb, 1, none⟩ = some (.int .u64 0) := (blk_cell BK.out 1).trans rfl; have hcza_2 : w17.cell? ⟨gb, 2, none⟩ = some (.int .u64 0) := (blk_cell BK.out 2).trans rfl; have hcza_3 : w17.cell? ⟨gb, 3, none⟩ = some (.int .u64 0) := (blk_cell BK.out 3).trans rfl; have hcza_4 : w17.cell? ⟨gb, 4, none⟩ = some (.string (⟨#[]⟩ : ByteArray)) := (blk_cell BK.out 4).trans rfl; have hcza_5 : w17.cell? ⟨gb, 5, none⟩ = some (.bool false) := (blk_cell BK.out 5).trans rfl; have hfza_0 := blk_frozen BK.out 0; have hfza_1 := blk_frozen BK.out 1; have hfza_2 := blk_frozen BK.out 2; have hfza_3 := blk_frozen BK.out 3; have hfza_4 := blk_frozen BK.out 4; have hfza_5 := blk_frozen BK.out 5)
  all_goals (try (exfalso; rename_i hh; (first | rw [HU1.out] at hh | skip); omega))
  (try rw [HU1.out]); (try rw [HZ.out])
  clear hne hne1
  go_upto_region 8 with (fail)
  (try rw [HO.out])
  have hb8 : Below w.heap.size w (((((((w17.setCell ⟨gb, 0, none⟩ (.int .i64 (a0.size : Int))).setCell ⟨gb, 1, none⟩ (.int .u64 a2)).setCell ⟨gb, 2, none⟩ (.int .u64 z)).setCell ⟨gb, 3, none⟩ (.int .u64 0)).setCell ⟨gb, 4, none⟩ (.string a1)).setCell ⟨gb, 5, none⟩ (.bool a4)).setCell ⟨gb, 3, none⟩ (.int .u64 off)) := (by repeat (first | (with_reducible first | exact HB.out | apply below_alloc | apply pw_below_drewN | apply below_drew1 | refine below_set ?_ GE.out) | exact HB.out))
  have hk8 : (((((((w17.setCell ⟨gb, 0, none⟩ (.int .i64 (a0.size : Int))).setCell ⟨gb, 1, none⟩ (.int .u64 a2)).setCell ⟨gb, 2, none⟩ (.int .u64 z)).setCell ⟨gb, 3, none⟩ (.int .u64 0)).setCell ⟨gb, 4, none⟩ (.string a1)).setCell ⟨gb, 5, none⟩ (.bool a4)).setCell ⟨gb, 3, none⟩ (.int .u64 off)).heap[gb]? = some (.cells #[.int .i64 (a0.size : Int), .int .u64 a2, .int .u64 z, .int .u64 off, .string a1, .bool a4] 25 (0, 0)) := (by (with_reducible repeat (first | refine blk_drewN ?_ _ | refine blk_drew ?_ | refine blk_alloc ?_ _)); refine blk_put (cs := #[.int .i64 (a0.size : Int), .int .u64 a2, .int .u64 z, .int .u64 0, .string a1, .bool a4]) ?_ 3 _ rfl; (with_reducible repeat (first | refine blk_drewN ?_ _ | refine blk_drew ?_ | refine blk_alloc ?_ _)); refine blk_put (cs := #[.int .i64 (a0.size : Int), .int .u64 a2, .int .u64 z, .int .u64 0, .string a1, .bool false]) ?_ 5 _ rfl; (with_reducible repeat (first | refine blk_drewN ?_ _ | refine blk_drew ?_ | refine blk_alloc ?_ _)); refine blk_put (cs := #[.int .i64 (a0.size : Int), .int .u64 a2, .int .u64 z, .int .u64 0, .string (⟨#[]⟩ : ByteArray), .bool false]) ?_ 4 _ rfl; (with_reducible repeat (first | refine blk_drewN ?_ _ | refine blk_drew ?_ | refine blk_alloc ?_ _)); refine blk_put (cs := #[.int .i64 (a0.size : Int), .int .u64 a2, .int .u64 z, .int .u64 0, .string (⟨#[]⟩ : ByteArray), .bool false]) ?_ 3 _ rfl; (with_reducible repeat (first | refine blk_drewN ?_ _ | refine blk_drew ?_ | refine blk_alloc ?_ _)); refine blk_put (cs := #[.int .i64 (a0.size : Int), .int .u64 a2, .int .u64 0, .int .u64 0, .string (⟨#[]⟩ : ByteArray), .bool false]) ?_ 2 _ rfl; (with_reducible repeat (first | refine blk_drewN ?_ _ | refine blk_drew ?_ | refine blk_alloc ?_ _)); refine blk_put (cs := #[.int .i64 (a0.size : Int), .int .u64 0, .int .u64 0, .int .u64 0, .string (⟨#[]⟩ : ByteArray), .bool false]) ?_ 1 _ rfl; (with_reducible repeat (first | refine blk_drewN ?_ _ | refine blk_drew ?_ | refine blk_alloc ?_ _)); refine blk_put (cs := #[.int .i64 0, .int .u64 0, .int .u64 0, .int .u64 0, .string (⟨#[]⟩ : ByteArray), .bool false]) ?_ 0 _ rfl; (with_reducible repeat (first | refine blk_drewN ?_ _ | refine blk_drew ?_ | refine blk_alloc ?_ _)); exact BK.out)
  generalize (((((((w17.setCell ⟨gb, 0, none⟩ (.int .i64 (a0.size : Int))).setCell ⟨gb, 1, none⟩ (.int .u64 a2)).setCell ⟨gb, 2, none⟩ (.int .u64 z)).setCell ⟨gb, 3, none⟩ (.int .u64 0)).setCell ⟨gb, 4, none⟩ (.string a1)).setCell ⟨gb, 5, none⟩ (.bool a4)).setCell ⟨gb, 3, none⟩ (.int .u64 off)) = w18 at hb8 hk8 ⊢
  clear BK HB
  have BK := Aside0.mk hk8
  have HB := Aside0.mk hb8
  clear hb8 hk8
  clear hcza_0 hfza_0; clear hcza_1 hfza_1; clear hcza_2 hfza_2; clear hcza_3 hfza_3; clear hcza_4 hfza_4; clear hcza_5 hfza_5
  have hczd_0 : w18.cell? ⟨gb, 0, none⟩ = some (.int .i64 (a0.size : Int)) := (blk_cell BK.out 0).trans rfl; have hczd_1 : w18.cell? ⟨gb, 1, none⟩ = some (.int .u64 a2) := (blk_cell BK.out 1).trans rfl; have hczd_2 : w18.cell? ⟨gb, 2, none⟩ = some (.int .u64 z) := (blk_cell BK.out 2).trans rfl; have hczd_3 : w18.cell? ⟨gb, 3, none⟩ = some (.int .u64 off) := (blk_cell BK.out 3).trans rfl; have hczd_4 : w18.cell? ⟨gb, 4, none⟩ = some (.string a1) := (blk_cell BK.out 4).trans rfl; have hczd_5 : w18.cell? ⟨gb, 5, none⟩ = some (.bool a4) := (blk_cell BK.out 5).trans rfl; have hfzd_0 := blk_frozen BK.out 0; have hfzd_1 := blk_frozen BK.out 1; have hfzd_2 := blk_frozen BK.out 2; have hfzd_3 := blk_frozen BK.out 3; have hfzd_4 := blk_frozen BK.out 4; have hfzd_5 := blk_frozen BK.out 5
  go_upto_region 9 with (go_at_call 10; (with_reducible refine (tail_Print.calls (a0.size : Int) a2 z off a1 a4 t er _ HP.out).mono ?_); rintro e w19 ⟨rfl, hb⟩; have n0_ := Aside0.mk (blk_below (g := gb) (o := .cells #[.int .i64 (a0.size : Int), .int .u64 a2, .int .u64 z, .int .u64 off, .string a1, .bool a4] 25 (0, 0)) (by (with_reducible repeat (first | refine blk_drewN ?_ _ | refine blk_drew ?_ | refine blk_alloc ?_ _)); exact BK.out) hb); have n1_ := Aside0.mk (below_step (by repeat (first | (with_reducible first | exact HB.out | apply below_alloc | apply pw_below_drewN | apply below_drew1 | refine below_set ?_ GE.out) | exact HB.out)) hb); clear BK; clear HB; have BK := n0_; have HB := n1_; clear n0_ n1_; clear hb)
  clear hczd_0 hfzd_0; clear hczd_1 hfzd_1; clear hczd_2 hfzd_2; clear hczd_3 hfzd_3; clear hczd_4 hfzd_4; clear hczd_5 hfzd_5
  rcases HCASE.out with ⟨hne, rfl, hge⟩ | ⟨rfl, hfar⟩ | ⟨rfl, hnear, hF⟩
  · have c1 : (er == 0) = false := beq_eq_false_iff_ne.mpr hne
    have c2 : (er != 0) = true := bne_iff_ne.mpr hne
    have c3 : decide (a2 ≥ 65535) = true := decide_eq_true hge
    have c4 : decide (65535 ≤ a2) = true := decide_eq_true hge
    clear hne hge
    go_wp2_with (fail)
    go_ret
    exact ⟨by first | rfl | (simp [*]; done), (by repeat (first | (with_reducible first | exact HB.out | apply below_alloc | apply pw_below_drewN | apply below_drew1 | refine below_set ?_ GE.out) | exact HB.out))⟩
  · have hW := HW.out
    have c3 : decide ((t.size : Int) - 22 - (a1.size : Int) < li) = true := decide_eq_true hfar
    have c4 : decide (wrap64 ((wrap64 ((t.size : Int) - 22)) - (a1.size : Int)) < li) = true := by rw [hW]; exact c3
    clear hfar
    go_wp2_with (go_at_call 12; (with_reducible refine (strings_LastIndex.calls t (⟨#[80, 75, 5, 6]⟩ : ByteArray) li _ HL.out).mono ?_); rintro e w20 ⟨rfl, hb⟩; have n0_ := Aside0.mk (blk_below (g := gb) (o := .cells #[.int .i64 (a0.size : Int), .int .u64 a2, .int .u64 z, .int .u64 off, .string a1, .bool a4] 25 (0, 0)) (by (with_reducible repeat (first | refine blk_drewN ?_ _ | refine blk_drew ?_ | refine blk_alloc ?_ _)); exact BK.out) hb); have n1_ := Aside0.mk (below_step (by repeat (first | (with_reducible first | exact HB.out | apply below_alloc | apply pw_below_drewN | apply below_drew1 | refine below_set ?_ GE.out) | exact HB.out)) hb); clear BK; clear HB; have BK := n0_; have HB := n1_; clear n0_ n1_; clear hb)
    go_ret
    exact ⟨by first | rfl | (simp [*]; done), (by repeat (first | (with_reducible first | exact HB.out | apply below_alloc | apply pw_below_drewN | apply below_drew1 | refine below_set ?_ GE.out) | exact HB.out))⟩
  · have HF := Aside0.mk hF
    have hW := HW.out
    have c3 : decide ((t.size : Int) - 22 - (a1.size : Int) < li) = false := decide_eq_false (by omega)
    have c4 : decide (wrap64 ((wrap64 ((t.size : Int) - 22)) - (a1.size : Int)) < li) = false := by rw [hW]; exact c3
    clear hnear hF
    have c21 := HSZ.out
    have c21b0 := eq_true c21
    have c21b1 : decide (a0.size + t.size ≤ 9223372036854775807) = true := decide_eq_true c21
    have c21b2 : (9223372036854775807 < a0.size + t.size) = False := eq_false (Nat.not_lt.2 c21)
    go_wp2_with (first | (go_at_call 12; (with_reducible refine (strings_LastIndex.calls t (⟨#[80, 75, 5, 6]⟩ : ByteArray) li _ HL.out).mono ?_); rintro e w20 ⟨rfl, hb⟩; have n0_ := Aside0.mk (blk_below (g := gb) (o := .cells #[.int .i64 (a0.size : Int), .int .u64 a2, .int .u64 z, .int .u64 off, .string a1, .bool a4] 25 (0, 0)) (by (with_reducible repeat (first | refine blk_drewN ?_ _ | refine blk_drew ?_ | refine blk_alloc ?_ _)); exact BK.out) hb); have n1_ := Aside0.mk (below_step (by repeat (first | (with_reducible first | exact HB.out | apply below_alloc | apply pw_below_drewN | apply below_drew1 | refine below_set ?_ GE.out) | exact HB.out)) hb); clear BK; clear HB; have BK := n0_; have HB := n1_; clear n0_ n1_; clear hb) | (go_at_call 8; (with_reducible refine (tail_Find.calls k (a0 ++ t) (a0.size : Int) a2 z off a1 a4 0 _ HF.out).mono ?_); rintro e w28 ⟨rfl, hb⟩; have n0_ := Aside0.mk (blk_below (g := gb) (o := .cells #[.int .i64 (a0.size : Int), .int .u64 a2, .int .u64 z, .int .u64 off, .string a1, .bool a4] 25 (0, 0)) (by (with_reducible repeat (first | refine blk_drewN ?_ _ | refine blk_drew ?_ | refine blk_alloc ?_ _)); exact BK.out) hb); have n1_ := Aside0.mk (below_step (by repeat (first | (with_reducible first | exact HB.out | apply below_alloc | apply pw_below_drewN | apply below_drew1 | refine below_set ?_ GE.out) | exact HB.out)) hb); clear BK; clear HB; have BK := n0_; have HB := n1_; clear n0_ n1_; clear hb) | ((with_reducible refine gate_dst (N := 15) rfl ?_); (try (refine gate_guard (by rfl) ?_; dsimp only)); refine box_event ?hg (N := 15) ?hd (cs := #[.int .i64 0, .int .u64 0, .int .u64 0, .int .u64 0, .string (⟨#[]⟩ : ByteArray), .bool false]) (t := 25) ?hr ?_; (case hd => rfl); (case hg => rfl); (case hr => first | (go_simp; done) | (go_simp; rfl)); intro gc hg w29 hbox hb; have n0_ := Aside0.mk (blk_below (g := gb) (o := .cells #[.int .i64 (a0.size : Int), .int .u64 a2, .int .u64 z, .int .u64 off, .string a1, .bool a4] 25 (0, 0)) (by (with_reducible repeat (first | refine blk_drewN ?_ _ | refine blk_drew ?_ | refine blk_alloc ?_ _)); exact BK.out) hb); have n1_ := Aside0.mk (below_step (by repeat (first | (with_reducible first | exact HB.out | apply below_alloc | apply pw_below_drewN | apply below_drew1 | refine below_set ?_ GE.out) | exact HB.out)) hb); have n2_ := Aside0.mk (hbox); have n3_ := Aside0.mk ((by rw [hg]; exact (below_size (by repeat (first | (with_reducible first | exact HB.out | apply below_alloc | apply pw_below_drewN | apply below_drew1 | refine below_set ?_ GE.out) | exact HB.out)))) : w.heap.size ≤ gc); have n5_ := Aside0.mk ((by rw [hg]; exact Nat.ne_of_lt (blk_lt (g := gb) (o := .cells #[.int .i64 (a0.size : Int), .int .u64 a2, .int .u64 z, .int .u64 off, .string a1, .bool a4] 25 (0, 0)) (by (with_reducible repeat (first | refine blk_drewN ?_ _ | refine blk_drew ?_ | refine blk_alloc ?_ _)); exact BK.out))) : gb ≠ gc); have n6_ := Aside0.mk ((by rw [hg]; exact Nat.ne_of_gt (blk_lt (g := gb) (o := .cells #[.int .i64 (a0.size : Int), .int .u64 a2, .int .u64 z, .int .u64 off, .string a1, .bool a4] 25 (0, 0)) (by (with_reducible repeat (first | refine blk_drewN ?_ _ | refine blk_drew ?_ | refine blk_alloc ?_ _)); exact BK.out))) : gc ≠ gb); clear BK; clear HB; have BK := n0_; have HB := n1_; have BC := n2_; have GC := n3_; clear n0_ n1_ n2_ n3_; clear hb hbox hg; have hnb := n6_.out; have hnc := n5_.out; have hczb_0 : w29.cell? ⟨gc, 0, none⟩ = some (.int .i64 0) := (blk_cell BC.out 0).trans rfl; have hczb_1 : w29.cell? ⟨gc, 1, none⟩ = some (.int .u64 0) := (blk_cell BC.out 1).trans rfl; have hczb_2 : w29.cell? ⟨gc, 2, none⟩ = some (.int .u64 0) := (blk_cell BC.out 2).trans rfl; have hczb_3 : w29.cell? ⟨gc, 3, none⟩ = some (.int .u64 0) := (blk_cell BC.out 3).trans rfl; have hczb_4 : w29.cell? ⟨gc, 4, none⟩ = some (.string (⟨#[]⟩ : ByteArray)) := (blk_cell BC.out 4).trans rfl; have hczb_5 : w29.cell? ⟨gc, 5, none⟩ = some (.bool false) := (blk_cell BC.out 5).trans rfl; have hfzb_0 := blk_frozen BC.out 0; have hfzb_1 := blk_frozen BC.out 1; have hfzb_2 := blk_frozen BC.out 2; have hfzb_3 := blk_frozen BC.out 3; have hfzb_4 := blk_frozen BC.out 4; have hfzb_5 := blk_frozen BC.out 5; have hczc_0 : w29.cell? ⟨gb, 0, none⟩ = some (.int .i64 (a0.size : Int)) := (blk_cell BK.out 0).trans rfl; have hczc_1 : w29.cell? ⟨gb, 1, none⟩ = some (.int .u64 a2) := (blk_cell BK.out 1).trans rfl; have hczc_2 : w29.cell? ⟨gb, 2, none⟩ = some (.int .u64 z) := (blk_cell BK.out 2).trans rfl; have hczc_3 : w29.cell? ⟨gb, 3, none⟩ = some (.int .u64 off) := (blk_cell BK.out 3).trans rfl; have hczc_4 : w29.cell? ⟨gb, 4, none⟩ = some (.string a1) := (blk_cell BK.out 4).trans rfl; have hczc_5 : w29.cell? ⟨gb, 5, none⟩ = some (.bool a4) := (blk_cell BK.out 5).trans rfl; have hfzc_0 := blk_frozen BK.out 0; have hfzc_1 := blk_frozen BK.out 1; have hfzc_2 := blk_frozen BK.out 2; have hfzc_3 := blk_frozen BK.out 3; have hfzc_4 := blk_frozen BK.out 4; have hfzc_5 := blk_frozen BK.out 5))
    all_goals (go_ret; exact ⟨by first | rfl | (simp [*]; done), (by repeat (first | (with_reducible first | exact HB.out | apply below_alloc | apply pw_below_drewN | apply below_drew1 | refine below_set ?_ GE.out | refine below_set ?_ GC.out) | exact HB.out))⟩)
end Go.Proofs.Ytdooampgkiodjaa.Walk
