/- StampDates: the date of any time, the time of any date: the walk through the law's own code. Printed by gendates.py. -/
import Derived.Test.YtpolblaahifjiaaDoorCalSec
import Derived.Test.YtpolblaahifjiaaDoorGiveawake12
import Derived.Test.YtpolblaahifjiaaDoorPx2
namespace Go.Proofs.YtpolblaahifjiaaDoor.Walk
set_option linter.unusedVariables false
set_option linter.unusedSimpArgs false
open Go Go.RowKit Go.Proofs.YtpolblaahifjiaaDoor.P Go.Proofs.YtpolblaahifjiaaDoor.Cal Go.Proofs.YtpolblaahifjiaaDoor.Fmt Go.Proofs.YtpolblaahifjiaaDoorW.PrintWords Go.Proofs.YtpolblaahifjiaaDoorW.PrintLast Go.Proofs.YtpolblaahifjiaaDoorW.PrintMore
theorem wf_i64 {x : Int} (h : (Lit.int .i64 x).wf = true) : -9223372036854775808 ≤ x ∧ x ≤ 9223372036854775807 := by
  simp [Lit.wf, IntKind.min, IntKind.max, IntKind.signed, IntKind.bits] at h; omega
set_option maxHeartbeats 12800000 in
set_option maxRecDepth 100000 in
theorem dates_walk (t a0 a1 a2 a3 a4 a5 : Int) (w : World) (ht : -9223372036854775808 ≤ t ∧ t ≤ 9223372036854775807) (hT0 : Tab w) :
    Calls Tryd.prog 5 #[.int .i64 t, .agg #[.int .i64 a0, .int .i64 a1, .int .i64 a2, .int .i64 a3, .int .i64 a4, .int .i64 a5]] w fun e w' => e = .returned (.bool true) ∧ Below w.heap.size w w' := by
  have hu1 := Tryd.underlying24
  have hu2 := Tryd.underlying34
  obtain ⟨y0, y1, y2, y3, y4, y5, y6, hp⟩ : ∃ y0 y1 y2 y3 y4 y5 y6, stamp_Of.f t = some (y0, y1, y2, y3, y4, y5, y6) := by
    rcases has_date t with h | ⟨y, m, d, ok, e⟩
    · exact ⟨_, _, _, _, _, _, _, of_out t ht h⟩
    · exact ⟨_, _, _, _, _, _, _, of_eq t ok ht e⟩
  have hq := (of_same t ht).trans hp
  obtain ⟨z0, z1, hs⟩ : ∃ z0 z1, stamp_Date_Seconds.f a0 a1 a2 a3 a4 a5 = some (z0, z1) := by
    by_cases k : OkT a0 a1 a2 a3 a4 a5
    · exact ⟨_, _, sec_ok k⟩
    · exact ⟨_, _, sec_bad k⟩
  have hr := (sec_same a0 a1 a2 a3 a4 a5).trans hs
  have HP := Aside0.mk hp
  have HQ := Aside0.mk hq
  have HS := Aside0.mk hs
  have HR := Aside0.mk hr
  have HT := Aside0.mk (tab_at hT0 (below_alloc (Below.refl w.heap.size w) (.cells #[.int .i64 a0, .int .i64 a1, .int .i64 a2, .int .i64 a3, .int .i64 a4, .int .i64 a5] 24)))
  have HB0 := Aside0.mk (below_alloc (Below.refl w.heap.size w) (.cells #[.int .i64 a0, .int .i64 a1, .int .i64 a2, .int .i64 a3, .int .i64 a4, .int .i64 a5] 24))
  have H30 := Aside0.mk (heap_alloc_new w (.cells #[.int .i64 a0, .int .i64 a1, .int .i64 a2, .int .i64 a3, .int .i64 a4, .int .i64 a5] 24))
  clear hp hq hs hr hT0 ht
  obtain ⟨g3, hg3⟩ : ∃ g, w.heap.size = g := ⟨_, rfl⟩
  go_enter Tryd.func5, Tryd.ntmps5
  go_upto_region 3 with (go_at_call 8; (with_reducible refine (portmanteaulaw12_awake.calls true _ rfl HT.out).mono ?_); rintro e w1 ⟨rfl, hb⟩; have HB1 := Aside0.mk (below_step HB0.out hb); have H31 := Aside0.mk (blk_below H30.out hb); clear hb)
  rw [hg3] at H31
  clear HT H30 HB0
  go_upto_region 4 with (go_at_call 9; (with_reducible refine (stamp_Of.calls t _ _ _ _ _ _ _ _ HP.out).mono ?_); rintro e w2 ⟨rfl, hb⟩; have HB2 := Aside0.mk (below_step HB1.out hb); have H32 := Aside0.mk (blk_below H31.out hb); clear hb)
  have HB3 := Aside0.mk (below_alloc HB2.out (.cells #[.int .i64 y0, .int .i64 y1, .int .i64 y2, .int .i64 y3, .int .i64 y4, .int .i64 y5] 24))
  have H33 := Aside0.mk (blk_alloc H32.out (.cells #[.int .i64 y0, .int .i64 y1, .int .i64 y2, .int .i64 y3, .int .i64 y4, .int .i64 y5] 24))
  have H53 := Aside0.mk (heap_alloc_new w2 (.cells #[.int .i64 y0, .int .i64 y1, .int .i64 y2, .int .i64 y3, .int .i64 y4, .int .i64 y5] 24))
  generalize w2.alloc (.cells #[.int .i64 y0, .int .i64 y1, .int .i64 y2, .int .i64 y3, .int .i64 y4, .int .i64 y5] 24) = w3 at HB3 H33 H53 ⊢
  generalize w2.heap.size = g5 at H53 ⊢
  clear HB2 H32 HB1 H31
  go_upto_region 5 with (go_at_call 13; (with_reducible refine (portmanteauref12_Of.calls 20000 t _ _ _ _ _ _ _ _ HQ.out).mono ?_); rintro e w4 ⟨rfl, hb⟩; have HB4 := Aside0.mk (below_step HB3.out hb); have H34 := Aside0.mk (blk_below H33.out hb); have H54 := Aside0.mk (blk_below H53.out hb); clear hb)
  have HB5 := Aside0.mk (below_alloc HB4.out (.cells #[.int .i64 y0, .int .i64 y1, .int .i64 y2, .int .i64 y3, .int .i64 y4, .int .i64 y5] 34))
  have H35 := Aside0.mk (blk_alloc H34.out (.cells #[.int .i64 y0, .int .i64 y1, .int .i64 y2, .int .i64 y3, .int .i64 y4, .int .i64 y5] 34))
  have H55 := Aside0.mk (blk_alloc H54.out (.cells #[.int .i64 y0, .int .i64 y1, .int .i64 y2, .int .i64 y3, .int .i64 y4, .int .i64 y5] 34))
  have H75 := Aside0.mk (heap_alloc_new w4 (.cells #[.int .i64 y0, .int .i64 y1, .int .i64 y2, .int .i64 y3, .int .i64 y4, .int .i64 y5] 34))
  generalize w4.alloc (.cells #[.int .i64 y0, .int .i64 y1, .int .i64 y2, .int .i64 y3, .int .i64 y4, .int .i64 y5] 34) = w5 at HB5 H35 H55 H75 ⊢
  generalize w4.heap.size = g7 at H75 ⊢
  clear HB3 H33 H53 HB4 H34 H54
  have cH350 : w5.cell? ⟨g3, 0, none⟩ = some (.int .i64 a0) := blk_cell H35.out 0
  have cH351 : w5.cell? ⟨g3, 1, none⟩ = some (.int .i64 a1) := blk_cell H35.out 1
  have cH352 : w5.cell? ⟨g3, 2, none⟩ = some (.int .i64 a2) := blk_cell H35.out 2
  have cH353 : w5.cell? ⟨g3, 3, none⟩ = some (.int .i64 a3) := blk_cell H35.out 3
  have cH354 : w5.cell? ⟨g3, 4, none⟩ = some (.int .i64 a4) := blk_cell H35.out 4
  have cH355 : w5.cell? ⟨g3, 5, none⟩ = some (.int .i64 a5) := blk_cell H35.out 5
  go_upto_region 6 with (go_at_call 14; (with_reducible refine (stamp_Date_Seconds.calls _ _ _ _ _ _ _ _ _ HS.out).mono ?_); rintro e w6 ⟨rfl, hb⟩; have HB6 := Aside0.mk (below_step HB5.out hb); have H36 := Aside0.mk (blk_below H35.out hb); have H56 := Aside0.mk (blk_below H55.out hb); have H76 := Aside0.mk (blk_below H75.out hb); clear hb)
  clear cH350 cH351 cH352 cH353 cH354 cH355
  clear HB5 H35 H55 H75
  have cH360 : w6.cell? ⟨g3, 0, none⟩ = some (.int .i64 a0) := blk_cell H36.out 0
  have cH361 : w6.cell? ⟨g3, 1, none⟩ = some (.int .i64 a1) := blk_cell H36.out 1
  have cH362 : w6.cell? ⟨g3, 2, none⟩ = some (.int .i64 a2) := blk_cell H36.out 2
  have cH363 : w6.cell? ⟨g3, 3, none⟩ = some (.int .i64 a3) := blk_cell H36.out 3
  have cH364 : w6.cell? ⟨g3, 4, none⟩ = some (.int .i64 a4) := blk_cell H36.out 4
  have cH365 : w6.cell? ⟨g3, 5, none⟩ = some (.int .i64 a5) := blk_cell H36.out 5
  go_upto_region 7 with (go_at_call 15; (with_reducible refine (portmanteauref12_Seconds.calls 20000 _ _ _ _ _ _ _ _ _ HR.out).mono ?_); rintro e w7 ⟨rfl, hb⟩; have HB7 := Aside0.mk (below_step HB6.out hb); have H57 := Aside0.mk (blk_below H56.out hb); have H77 := Aside0.mk (blk_below H76.out hb); clear hb)
  clear cH360 cH361 cH362 cH363 cH364 cH365
  clear HB6 H36 H56 H76
  have cH570 : w7.cell? ⟨g5, 0, none⟩ = some (.int .i64 y0) := blk_cell H57.out 0
  have cH571 : w7.cell? ⟨g5, 1, none⟩ = some (.int .i64 y1) := blk_cell H57.out 1
  have cH572 : w7.cell? ⟨g5, 2, none⟩ = some (.int .i64 y2) := blk_cell H57.out 2
  have cH573 : w7.cell? ⟨g5, 3, none⟩ = some (.int .i64 y3) := blk_cell H57.out 3
  have cH574 : w7.cell? ⟨g5, 4, none⟩ = some (.int .i64 y4) := blk_cell H57.out 4
  have cH575 : w7.cell? ⟨g5, 5, none⟩ = some (.int .i64 y5) := blk_cell H57.out 5
  have cH770 : w7.cell? ⟨g7, 0, none⟩ = some (.int .i64 y0) := blk_cell H77.out 0
  have cH771 : w7.cell? ⟨g7, 1, none⟩ = some (.int .i64 y1) := blk_cell H77.out 1
  have cH772 : w7.cell? ⟨g7, 2, none⟩ = some (.int .i64 y2) := blk_cell H77.out 2
  have cH773 : w7.cell? ⟨g7, 3, none⟩ = some (.int .i64 y3) := blk_cell H77.out 3
  have cH774 : w7.cell? ⟨g7, 4, none⟩ = some (.int .i64 y4) := blk_cell H77.out 4
  have cH775 : w7.cell? ⟨g7, 5, none⟩ = some (.int .i64 y5) := blk_cell H77.out 5
  go_wp2
  go_ret
  exact ⟨rfl, HB7.out⟩
theorem StampDates (t : Int) (x : S24) (cs : Array Value) (w : World) (w0 : (Lit.int .i64 t).wf = true) (hK : k24.K w x cs.toList)
    (hok : ((Lit.int .i64 x.f0).wf = true) ∧ ((Lit.int .i64 x.f1).wf = true) ∧ ((Lit.int .i64 x.f2).wf = true) ∧ ((Lit.int .i64 x.f3).wf = true) ∧ ((Lit.int .i64 x.f4).wf = true) ∧ ((Lit.int .i64 x.f5).wf = true)) (hT : Tab w) :
    Calls Tryd.prog 5 #[.int .i64 t, .agg cs] w fun e w' => e = .returned (.bool true) ∧ Below w.heap.size w w' := by
  have hcs := k24_open hK
  obtain rfl : cs = #[.int .i64 x.f0, .int .i64 x.f1, .int .i64 x.f2, .int .i64 x.f3, .int .i64 x.f4, .int .i64 x.f5] := Array.toList_inj.1 (by rw [hcs])
  exact dates_walk t x.f0 x.f1 x.f2 x.f3 x.f4 x.f5 w (wf_i64 w0) hT
end Go.Proofs.YtpolblaahifjiaaDoor.Walk
