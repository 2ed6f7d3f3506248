/- awake of the third chapter: its example, closed. -/
import Derived.Test.YtdbekngboogaoaaBitWM
import Derived.Test.YtdbekngboogaoaaPx1
import Derived.Test.YtdbekngboogaoaaPx3
namespace Go.Proofs.Ytdbekngboogaoaa.Walk
set_option linter.unusedVariables false
set_option linter.unusedSimpArgs false
open Go Go.RowKit Go.Proofs.Ytdbekngboogaoaa.P Go.Proofs.Ytdbekngboogaoaa.B Go.Proofs.Ytdbekngboogaoaa.Bn Go.Proofs.Ytdbekngboogaoaa.Hd Go.Proofs.Ytdbekngboogaoaa.Bw Go.Proofs.YtdbekngboogaoaaW.PrintWords Go.Proofs.YtdbekngboogaoaaW.PrintLast Go.Proofs.YtdbekngboogaoaaW.PrintMore

theorem read1 : bits_Reader_Read.f 40 (⟨#[5]⟩ : ByteArray) 0 0 1 = some (1, (⟨#[5]⟩ : ByteArray), 1, 0) := by decide +kernel
theorem read2 : bits_Reader_Read.f 40 (⟨#[5]⟩ : ByteArray) 1 0 2 = some (2, (⟨#[5]⟩ : ByteArray), 3, 0) := by decide +kernel
theorem done5 (base g : Nat) (v : Value) (W : World) (hI : IsBW base W g v 5 3) : Calls Try.prog 17 #[.pointer (some ⟨g, 0, none⟩)] W fun e W' => e = .returned (.string ⟨#[5]⟩) ∧ Below W.heap.size W W' := by
  have h := done_calls base g v 5 3 W hI (by decide)
  rwa [show (⟨(ofN ((3 + 7) / 8) 5).toArray⟩ : ByteArray) = ⟨#[5]⟩ from by decide +kernel] at h
set_option maxHeartbeats 1000000 in
theorem awake_calls (w : World) : Calls Try.prog 8 #[] w fun e w' => e = .returned (.bool true) ∧ Below w.heap.size w w' := by
  have R1 := Aside0.mk read1
  have R2 := Aside0.mk read2
  have HN := Aside0.mk (IsBW.new w.heap.size w (Nat.le_refl _))
  have HB := Aside0.mk (below_alloc (Below.refl w.heap.size w) (.cells #[.slice none 0 0, .int .i64 0] 31))
  go_enter Try.func8, Try.ntmps8
  go_upto_region 2 with (fail)
  generalize w.alloc (.cells #[.slice none 0 0, .int .i64 0] 31) = wa at HN HB ⊢
  go_upto_region 3 with (go_at_call 10; refine (write_calls w.heap.size w.heap.size _ 0 0 1 1 _ HN.out (by decide) (by decide) (by decide) (by decide)).mono ?_; rintro e w1 ⟨rfl, v1, hi, hw⟩; have HI1 := Aside0.mk (show IsBW w.heap.size w1 w.heap.size v1 1 1 from hi); have HB1 := Aside0.mk (HN.out.under hw HB.out); clear hi hw)
  go_upto_region 4 with (go_at_call 10; refine (write_calls w.heap.size w.heap.size _ 1 1 2 2 _ HI1.out (by decide) (by decide) (by decide) (by decide)).mono ?_; rintro e w2 ⟨rfl, v2, hi, hw⟩; have HI2 := Aside0.mk (show IsBW w.heap.size w2 w.heap.size v2 5 3 from hi); have HB2 := Aside0.mk (HI1.out.under hw HB1.out); clear hi hw)
  go_upto_region 5 with (go_at_call 20; refine (bits_Over.calls _ _ _ _ w _ HB2.out rfl).mono ?_; rintro e w3 ⟨g3, rfl, hi, hb, hb2⟩; have HS3 := Aside0.mk hi; have HB3 := Aside0.mk hb; have HI3 := Aside0.mk (HI2.out.below hb2); clear hi hb hb2)
  clear HN HB HB1 HI1 HB2 HI2
  go_wp2_with (first
    | (go_at_call 17; refine (done5 w.heap.size w.heap.size v2 _ HI3.out).mono ?_; rintro e w4 ⟨rfl, hb⟩; have HS4 := Aside0.mk (HS3.out.below hb); have HB4 := Aside0.mk (below_step HB3.out hb); clear hb)
    | (go_at_call 21; (with_reducible refine (bits_Reader_Read.calls 40 g3 _ _ _ 1 _ _ _ _ w _ HS4.out HB4.out R1.out).mono ?_); rintro e w5 ⟨rfl, hi, hb, _⟩; have HS5 := Aside0.mk hi; have HB5 := Aside0.mk hb; clear hi hb)
    | (go_at_call 21; (with_reducible refine (bits_Reader_Read.calls 40 g3 _ _ _ 2 _ _ _ _ w _ HS5.out HB5.out R2.out).mono ?_); rintro e w6 ⟨rfl, hi, hb, _⟩; have HS6 := Aside0.mk hi; have HB6 := Aside0.mk hb; clear hi hb)
    | (go_at_call 24; refine (bits_Reader_At.calls g3 _ _ _ _ _ _ _ w _ HS6.out HB6.out rfl).mono ?_; rintro e w7 ⟨rfl, hi, hb, _⟩; have HB7 := Aside0.mk hb; clear hi hb))
  go_ret
  exact ⟨rfl, HB7.out⟩
end Go.Proofs.Ytdbekngboogaoaa.Walk
