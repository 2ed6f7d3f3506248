/- PrefixWhole: of a whole code any bits are signs: the walk through the law's own code. -/
import Derived.Test.YtlfcepdaicngjaaLaw4
import Derived.Test.YtlfcepdaicngjaaNew4
import Derived.Test.YtlfcepdaicngjaaAwake4
import Derived.Test.YtlfcepdaicngjaaOpens
import Derived.Test.YtlfcepdaicngjaaPx2
namespace Go.Proofs.Ytlfcepdaicngjaa.Walk
set_option linter.unusedVariables false
set_option linter.unusedSimpArgs false
open Go Go.RowKit Go.Proofs.Ytlfcepdaicngjaa.P Go.Proofs.Ytlfcepdaicngjaa.Pk Go.Proofs.Ytlfcepdaicngjaa.B Go.Proofs.Ytlfcepdaicngjaa.Bn Go.Proofs.Ytlfcepdaicngjaa.Rd Go.Proofs.YtlfcepdaicngjaaW.PrintWords Go.Proofs.YtlfcepdaicngjaaW.PrintLast Go.Proofs.YtlfcepdaicngjaaW.PrintMore
/-- New, with its answer as one tuple. -/
theorem new_tells (A0 : Option Addr) (c0 : Nat) (l0 : List Int) (o : Bool) (w : World) (hr0 : Kd.C (Kd.int .u8) w A0 l0.length l0) (hc0 : l0.length ≤ c0) (hu : ∀ x ∈ l0, 0 ≤ x) :
    Calls Try.prog 8 #[.slice A0 l0.length c0, .bool o] w fun e w' => ∃ c r, e = .returned (.tuple #[c, .int .i64 r]) ∧ Below w.heap.size w w' ∧
      ((r ≠ 0 ∧ c = .pointer none) ∨ ∃ p n, r = 0 ∧ c = .pointer (some ⟨p, 0, none⟩) ∧ prefix_Fill.f 5000 l0 = some (n, 0) ∧ n ≤ 32768 ∧ okW l0 = true ∧ (32768 ≤ n ∨ o = true ∧ prefix_few.f 5000 l0 = some true) ∧ IsCode w' p l0 (wordsW l0).2) :=
  (new_says A0 c0 l0 o w hr0 hc0 hu).mono fun e w' ⟨hb, h⟩ => by
    rcases h with ⟨r, h1, h2⟩ | ⟨p, n, h0, h1, h2, h3, h4, h5, h6⟩
    · exact ⟨_, _, h2, hb, .inl ⟨h1, rfl⟩⟩
    · exact ⟨_, _, h5, hb, .inr ⟨p, n, rfl, rfl, h1, h2, h3, h4, h6⟩⟩
set_option maxHeartbeats 8000000 in
set_option maxRecDepth 100000 in
theorem PrefixWhole (A : Option Addr) (cap : Nat) (l : List Int) (s : ByteArray) (w : World) (hl : l.length ≤ cap) (hC : Kd.C (Kd.int .u8) w A l.length l) (hok : ∀ x ∈ l, (Lit.int .u8 x).wf = true) (hz : l.length * 1 ≤ 140737488351232) (hs : s.size ≤ 140737488351232) :
    Calls Try.prog 3 #[.slice A l.length cap, .string s] w fun e w' => e = .returned (.bool true) ∧ Below w.heap.size w w' := by
  have hu : ∀ x ∈ l, 0 ≤ x := fun x hx => by
    have := hok x hx
    simp [Lit.wf, IntKind.min, IntKind.max, IntKind.signed, IntKind.bits] at this
    omega
  have HU := Aside0.mk hu
  have HC := Aside0.mk hC
  have HL := Aside0.mk hl
  clear hu hok hC hl hz
  by_cases h4 : 400 < l.length
  · have hd : decide (400 < l.length) = true := decide_eq_true h4
    go_enter Try.func3, Try.ntmps3
    go_wp2_with (go_at_call 7; refine (awake_calls _).mono ?_; rintro e w1 ⟨rfl, hb⟩)
    go_ret
    exact ⟨rfl, by assumption⟩
  have hd : decide (400 < l.length) = false := decide_eq_false h4
  by_cases h2 : 200 < s.size
  · have hd2 : decide (200 < s.size) = true := decide_eq_true h2
    go_enter Try.func3, Try.ntmps3
    go_wp2_with (go_at_call 7; refine (awake_calls _).mono ?_; rintro e w1 ⟨rfl, hb⟩)
    go_ret
    exact ⟨rfl, by assumption⟩
  have hd2 : decide (200 < s.size) = false := decide_eq_false h2
  go_enter Try.func3, Try.ntmps3
  go_upto_region 5 with (go_at_call 7; refine (awake_calls _).mono ?_; rintro e w1 ⟨rfl, hb⟩; have HB1 := Aside0.mk hb; clear hb)
  go_upto_region 6 with (go_at_call 8; refine (new_tells _ _ l false _ (Kd.C_below HC.out HB1.out) HL.out HU.out).mono ?_; rintro e w2 ⟨c, r, rfl, hb, hor⟩; have HB2 := Aside0.mk (below_step HB1.out hb); have HOR := Aside0.mk hor; clear hb hor)
  rcases HOR.out with ⟨hr, rfl⟩ | ⟨p, n, rfl, rfl, hF, hn, hok, hcond, hC2⟩
  · have hrb : (r != 0) = true := bne_iff_ne.2 hr
    clear HOR
    go_wp2
    go_ret
    exact ⟨rfl, HB2.out⟩
  have hn2 : n = 32768 := by
    rcases hcond with h | h
    · omega
    · cases h.1
  have hfill := fill_is l n hok hF
  have HK := Aside0.mk (code_ok l n hok hF hn)
  have HF := Aside0.mk (show fillN (nat l) = 32768 by omega)
  have HP := Aside0.mk hC2
  clear HOR hF hn hok hcond hC2 hn2 hfill
  go_wp2_with (go_at_call 9; refine (bits_Over.calls _ _ _ _ w2 w2 (Below.refl _ _) rfl).mono ?_; rintro e w3 ⟨g, rfl, hi, hb, _⟩; have HI3 := Aside0.mk hi; have HB3 := Aside0.mk hb; clear hi hb)
  go_loopw [36] (fun v36 wr => ∃ (j a : Nat), v36 = .int .i64 j ∧ j ≤ a ∧ a ≤ 8 * s.size ∧ Aside0 (IsS70 w2 wr g s a 0) ∧ Aside0 (Below w2.heap.size w2 wr))
    (fun v36 _ => 8 * s.size + 1 - (intOf v36).toNat)
  case atStart => exact ⟨0, 0, rfl, by omega, by omega, HI3, HB3⟩
  case round =>
    clear HI3 HB3
    obtain ⟨j, a, rfl, hja, ha, HI, HB⟩ := hrel
    have hlt : decide ((j : Int) < 8 * (s.size : Int) + 1) = true := decide_eq_true (by omega)
    have hlt2 : decide (j < 8 * s.size + 1) = true := decide_eq_true (by omega)
    go_upto_region 13 with (first
      | (go_at_call 10; refine (bits_Reader_At.calls g s (a : Int) 0 _ _ _ _ w2 _ HI.out HB.out rfl).mono ?_; rintro e w4 ⟨rfl, hi, hb, _⟩; have HI4 := Aside0.mk hi; have HB4 := Aside0.mk hb; clear hi hb)
      | (go_at_call 11; refine (sign_calls p g a s l _ w2 _ HK.out HP.out HI4.out HB4.out (by omega) ha).mono ?_; rintro e w5 ⟨x, er, a', rfl, hsr, ha', hi, hb, _⟩; have HSR := Aside0.mk hsr; have HI5 := Aside0.mk hi; have HB5 := Aside0.mk hb; clear hi hb hsr))
    rcases whole_sign _ _ s a x er a' HK.out HF.out ha HSR.out with ⟨rfl, h0, h1, h2, h3⟩ | ⟨rfl, rfl, h1, rfl⟩
    · have hx0 : decide (x < 0) = false := decide_eq_false (by omega)
      have hx1 : decide ((l.length : Int) ≤ x) = false := decide_eq_false (by omega)
      have hne : ((a' : Int) - (a : Int) != (a' : Int) - (a : Int)) = false := by simp
      have HLE := Aside0.mk (show (if 0 ≤ x ∧ x < l.length then l.getD x.toNat 0 else 0) = (a' : Int) - (a : Int) by rw [if_pos ⟨h0, h1⟩, h2])
      go_wp2_with (first
        | (go_at_call 12; refine (length_calls p x l _ _ HK.out (HP.out.below HB5.out)).mono ?_; rintro e w6 ⟨rfl, hb⟩; rw [HLE.out]; have HI6 := Aside0.mk (IsS70.below HI5.out hb); have HB6 := Aside0.mk (below_step HB5.out hb); clear hb)
        | (go_at_call 10; refine (bits_Reader_At.calls g s (a' : Int) 0 _ _ _ _ w2 _ HI6.out HB6.out rfl).mono ?_; rintro e w7 ⟨rfl, hi, hb, _⟩; have HI7 := Aside0.mk hi; have HB7 := Aside0.mk hb; clear hi hb))
      go_roundw
      case rel => exact ⟨j + 1, a', by go_num, by omega, ha', HI7, HB7⟩
      case measure => simp [intOf]; omega
    · have hsz : decide (8 * (s.size : Int) - (a' : Int) < 15) = true := decide_eq_true (by omega)
      go_wp2_with (go_at_call 10; refine (bits_Reader_At.calls g s (a' : Int) 0 _ _ _ _ w2 _ HI5.out HB5.out rfl).mono ?_; rintro e w7 ⟨rfl, hi, hb, _⟩; have HB7 := Aside0.mk hb; clear hi hb)
      go_ret
      exact ⟨by simp, below_step HB2.out HB7.out⟩
end Go.Proofs.Ytlfcepdaicngjaa.Walk
