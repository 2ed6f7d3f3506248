/- MatchLong: texts that are too long: the walk through the law's own code. A closed sentence: no condition. -/
import Derived.Test.YtgpmhdefpbmhjaaAwake
namespace Go.Proofs.Ytgpmhdefpbmhjaa.Walk
set_option linter.unusedVariables false
set_option linter.unusedSimpArgs false
open Go Go.RowKit Go.Proofs.Ytgpmhdefpbmhjaa.P Go.Proofs.Ytgpmhdefpbmhjaa.B Go.Proofs.Ytgpmhdefpbmhjaa.D7 Go.Proofs.Ytgpmhdefpbmhjaa.Ch Go.Proofs.Ytgpmhdefpbmhjaa.MapG Go.Proofs.YtgpmhdefpbmhjaaW.PrintWords Go.Proofs.YtgpmhdefpbmhjaaW.PrintLast Go.Proofs.YtgpmhdefpbmhjaaW.PrintMore

theorem info5 : (Try.prog.info? 5).map (fun i => (i.zero, i.size, i.bytes)) = some (some (.int .u8 0), 1, 1) := by kernel_rfl
theorem find_long (s : ByteArray) (w : World) (h : 1048576 < s.size) : Calls Try.prog 17 #[.string s, .int .i64 1] w fun e w' => e = .returned (.tuple #[.slice none 0 0, .int .i64 5]) ∧ w' = w := by
  have hd1 : decide (1048576 < s.size) = true := decide_eq_true h
  have hd2 : decide ((1048576 : Int) < (s.size : Int)) = true := decide_eq_true (by omega)
  go_enter Try.func17, Try.ntmps17
  go_wp2
  first | go_ret2 | go_ret
  exact ⟨rfl, rfl⟩
theorem size_nums (xs : List Int) (n : Nat) (h : xs.length = n) : (strOfNums xs).size = n := by
  rw [← h]
  simp [strOfNums, ByteArray.size]
set_option maxHeartbeats 4000000 in
set_option maxRecDepth 100000 in
theorem MatchLong (w : World) : Calls Try.prog 8 #[] w fun e w' => e = .returned (.bool true) ∧ Below w.heap.size w w' := by
  obtain ⟨lz, hlz⟩ : ∃ y_ : List Int, y_ = (List.replicate 1048577 0) := ⟨_, rfl⟩
  have HLZ := Aside0.mk hlz
  clear hlz
  go_enter Try.func8, Try.ntmps8
  go_upto_region 1 with (fail)
  go_upto_region 2 with ((with_reducible refine gate_dst (N := 4) rfl ?_); refine Kd.R_make (Kd.int .u8) _ 5 rfl (N := 4) rfl 47 _ _ rfl 1048577 rfl rfl Try.underlying47 (.int .u8 0) 1 info5 rfl (by decide) (by omega) 0 (ok := fun _ => True) (okp := fun _ => True) rfl (fun _ hk => hk) trivial (by omega) (by omega) (Below.refl _ _) (Nat.le_refl _) ?_; intro vm wm hom hb hg_ hnew_; clear hg_ hnew_; (first | rw [← HLZ.out] at hom | (simp only [Int.reduceToNat] at hom; rw [← HLZ.out] at hom)); have HB1 := Aside0.mk hb; have HOM := Aside0.mk hom; clear hb hom)
  have hcv := own_string (P := Try.prog) Try.underlying47 Try.underlying5 Try.underlying9 (Kd.own_of_R HOM.out)
  obtain ⟨L, hL⟩ : ∃ L, strOfNums lz = L := ⟨_, rfl⟩
  have HLS := Aside0.mk (show L.size = 1048577 by rw [← hL]; exact size_nums lz 1048577 (by rw [HLZ.out]; exact List.length_replicate))
  have HL := Aside0.mk hL
  rw [hL] at hcv
  have HP := Aside0.mk (show (chL L (places L)).length = 0 by
    have h1 : places L = 0 := by unfold places; rw [if_neg (by have := HLS.out; omega)]
    rw [h1]; rfl)
  clear hL
  go_wp2_with (first
    | (go_at_call 17; (with_reducible refine (find_long L _ (by have := HLS.out; omega)).mono ?_); rintro e w2 ⟨rfl, rfl⟩)
    | (go_at_call 9; (with_reducible refine (awake_calls _).mono ?_); rintro e w3 ⟨rfl, hb⟩; have HB3 := Aside0.mk (below_step HB1.out hb); have hcv2 := own_string (P := Try.prog) Try.underlying47 Try.underlying5 Try.underlying9 (Kd.own_of_R (Kd.R_below HOM.out hb)); rw [HL.out] at hcv2; clear hb)
    | (go_at_call 15; (with_reducible refine (chains_calls L _ (by have := HLS.out; omega)).mono ?_); rintro e w4 ⟨rfl, ho, hb⟩; have hlen : ∀ ty, (Builtin.len_ #[37] ty #[.map (some w3.heap.size)]).run Try.prog w4 = .ok (.int .i64 0) w4 := fun ty => by { have h := ho.len Try.underlying37 ty; rw [HP.out] at h; exact h }; have HB4 := Aside0.mk (below_step HB3.out hb); clear ho hb))
  go_ret
  exact ⟨rfl, HB4.out⟩
end Go.Proofs.Ytgpmhdefpbmhjaa.Walk
