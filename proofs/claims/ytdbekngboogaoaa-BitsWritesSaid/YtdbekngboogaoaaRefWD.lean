/- portmanteauref03.Writer: Done: its bits as bytes. -/
import Derived.Test.YtdbekngboogaoaaRefW
namespace Go.Proofs.Ytdbekngboogaoaa.Rw
set_option linter.unusedVariables false
set_option linter.unusedSimpArgs false
open Go Go.RowKit Go.Proofs.Ytdbekngboogaoaa.P Go.Proofs.Ytdbekngboogaoaa.B Go.Proofs.Ytdbekngboogaoaa.Bn Go.Proofs.Ytdbekngboogaoaa.Hd Go.Proofs.Ytdbekngboogaoaa.Bw Go.Proofs.YtdbekngboogaoaaW.PrintWords Go.Proofs.YtdbekngboogaoaaW.PrintLast Go.Proofs.YtdbekngboogaoaaW.PrintMore

set_option maxHeartbeats 4000000 in
set_option maxRecDepth 100000 in
theorem rdone_calls (base g : Nat) (v : Value) (N len : Nat) (W : World) (hI : IsRW base W g v N len) (hl : len ≤ 1099511627776) :
    Calls Try.prog 18 #[.pointer (some ⟨g, 0, none⟩)] W fun e W' => e = .returned (.string ⟨(ofN ((len + 7) / 8) N).toArray⟩) ∧ Below W.heap.size W W' := by
  have HI0 := Aside0.mk hI
  clear hI
  go_enter Try.func18, Try.ntmps18
  go_wp2
  go_loopw [3, 4] (fun v3 v4 wr => ∃ (i : Nat), v4 = .int .i64 i ∧ i ≤ len ∧ Aside0 (Kd.R (Kd.int .u8) 5 wr W.heap.size (fun k => some k = v3.ownBlock) v3 (byt (N % 2 ^ i) ((i + 7) / 8))) ∧ Aside0 (Below W.heap.size W wr))
    (fun _ v4 _ => len - (intOf v4).toNat)
  case atStart => exact ⟨0, rfl, by omega, ⟨Kd.R_nil _ _ _ _ _⟩, ⟨Below.refl _ _⟩⟩
  case round =>
    obtain ⟨i, rfl, hi, HO, HB⟩ := hrel
    have HI := Aside0.mk (HI0.out.below HB.out)
    by_cases hlt : i < len
    · have hd : decide (i < len) = true := decide_eq_true hlt
      obtain ⟨gb, c', hu, hgb1, hgb2, _⟩ := Kd.R_form HI.out.1.row (by rw [bitl_len]; omega)
      rw [bitl_len] at hu
      have HU := Aside0.mk hu
      clear hu
      have hcg : wr.cell? ⟨g, 0, none⟩ = some (.slice (some ⟨gb, 0, none⟩) len c') := by rw [← HU.out]; exact (blk_cell HI.out.1.blk 0).trans rfl
      obtain ⟨t, ht⟩ : ∃ t, i % 8 = t := ⟨_, rfl⟩
      obtain ⟨c, hc⟩ : ∃ c, i / 8 = c := ⟨_, rfl⟩
      obtain ⟨M, hM⟩ : ∃ M, N % 2 ^ i = M := ⟨_, rfl⟩
      have hMl : M < 2 ^ i := by rw [← hM]; exact Nat.mod_lt _ (Nat.pow_pos (by decide))
      have HML := Aside0.mk hMl
      obtain ⟨q, hq⟩ : ∃ q, N / 2 ^ i % 2 = q := ⟨_, rfl⟩
      have hq2 : q < 2 := by omega
      have HM2 := Aside0.mk (show N % 2 ^ (i + 1) = M + 2 ^ i * q by rw [Nat.pow_succ, Nat.mod_mul, hM, hq])
      have HQ := Aside0.mk (bitl_get N len i hlt)
      rw [hq] at HQ
      rw [hM] at HO
      clear hM hq hMl
      have ht8 : t < 8 := by omega
      have h8c : 8 * c + t = i := by omega
      have hti : (i : Int) % 8 = (t : Int) := by omega
      have hib : i ≤ 1099511627776 := by omega
      go_upto_if 18 with (fail)
      go_cut [3] (fun v3 wc => Aside0 (∃ b cap, v3 = .slice (some ⟨b, 0, none⟩) (c + 1) cap ∧ Kd.R (Kd.int .u8) 5 wc W.heap.size (fun k => some k = v3.ownBlock) v3 (byt M (c + 1)) ∧ Below W.heap.size W wc))
      case first =>
        by_cases h0 : t = 0
        · subst h0
          have e7 : (i + 7) / 8 = c := by omega
          rw [e7] at HO
          have hz : byt M c ++ [0] = byt M (c + 1) := (byt_zero M c (by rw [pow256, show 8 * c = i by omega]; exact HML.out)).symm
          have HZ := Aside0.mk hz
          have hxl : (byt M c).length = c := byt_len _ _
          obtain ⟨xs, hxs⟩ : ∃ xs, byt M c = xs := ⟨_, rfl⟩
          rw [hxs] at HO hxl HZ
          clear hz hxs
          obtain ⟨A3, c3, hu3⟩ := Kd.R_slice HO.out
          rw [hxl] at hu3
          subst hu3
          go_wp2_with ((with_reducible refine gate_builtin (b := .append) (xs := #[.tmp 19, .tmp 20]) rfl ?_); at_builtin; refine Kd.R_append (Kd.int .u8) (w0 := W) W.heap.size rfl (.tmp 19) (.tmp 20) 29 5 (.int .u8 0) 1 rfl Try.underlying29 z5 rfl (by decide) (by omega) (.slice A3 c c3) xs (0 : Int) [.int .u8 0] (fun k => some k = (Value.slice A3 c c3).ownBlock ∨ wr.heap.size ≤ k) (fun _ => False) rfl rfl ?aP (fun _ hk => hk.elim) ?aF ?aO ?aB ?aS ?aL ?_; (case aP => rfl); (case aF => exact (fun _ hk => .inr hk)); (case aO => exact Kd.R_mono HO.out (fun _ hk => .inl hk)); (case aB => exact HB.out); (case aS => exact HB.out.size); (case aL => omega); intro v6 w6 ho hb hg hat; obtain ⟨b6, c6, hv6, _, _, _⟩ := Kd.R_form ho (by simp); have HO6 := Aside0.mk (Kd.R_reok rfl ho (fun k hk => hk.symm) : Kd.R (Kd.int .u8) 5 w6 W.heap.size (fun k => some k = v6.ownBlock) v6 (xs ++ [(0 : Int)])); have hv6' := Aside0.mk hv6; have HB6 := Aside0.mk hb; clear ho hb hg hat hv6)
          go_meet
          refine ⟨b6, c6, ?_, ?_, HB6.out⟩
          · rw [hv6'.out, List.length_append, hxl]; rfl
          · rw [← HZ.out]; exact HO6.out
        · have hb : ((t : Int) == 0) = false := by simp; omega
          have hb2 : (t == 0) = false := by simp; omega
          have e7 : (i + 7) / 8 = c + 1 := by omega
          rw [e7] at HO
          go_wp2
          go_meet
          obtain ⟨b6, c6, hv6, _, _, _⟩ := Kd.R_form HO.out (by rw [byt_len]; omega)
          rw [byt_len] at hv6
          exact ⟨b6, c6, hv6, HO.out, HB.out⟩
      case rest =>
        clear HO HB hcg HI
        obtain ⟨b, cap, rfl, hro, hbw⟩ := hcut.out
        have HO := Aside0.mk hro
        have HB := Aside0.mk hbw
        clear hcut hro hbw
        have HI := Aside0.mk (HI0.out.below HB.out)
        have hcg : wc.cell? ⟨g, 0, none⟩ = some (.slice (some ⟨gb, 0, none⟩) len c') := by rw [← HU.out]; exact (blk_cell HI.out.1.blk 0).trans rfl
        go_wp2
        go_loop [5, 6] (fun v5 v6 => ∃ (j k : Nat), j ≤ t ∧ v6 = .int .i64 j ∧ v5 = .int .u8 k ∧ Aside0 (k = 2 ^ j)) (fun _ v6 => t - (intOf v6).toNat)
        case atStart => exact ⟨0, 1, by omega, rfl, rfl, ⟨rfl⟩⟩
        case round =>
          obtain ⟨j, k, hj, rfl, rfl, HK⟩ := hrel
          have hk1 : k ≤ 2 ^ j := Nat.le_of_eq HK.out
          by_cases hjt : j < t
          · have hd2 : decide (j < t) = true := decide_eq_true hjt
            have hk2 : 2 ^ j ≤ 2 ^ 6 := Nat.pow_le_pow_right (by decide) (by omega)
            have hk3 : k ≤ 64 := Nat.le_trans hk1 hk2
            clear hk1 hk2
            go_wp2
            go_round
            case rel => exact ⟨j + 1, k * 2, by omega, by go_num, by go_num, ⟨by rw [Nat.pow_succ, HK.out]⟩⟩
            case measure => simp [intOf]; omega
          have hd2 : decide (j < t) = false := decide_eq_false hjt
          obtain rfl : j = t := by omega
          clear hk1
          have hbyte : ∃ bb, M / 256 ^ c = bb ∧ bb < 2 ^ j := by
            refine ⟨_, rfl, ?_⟩
            rw [Nat.div_lt_iff_lt_mul (Nat.pow_pos (by decide)), pow256, ← Nat.pow_add, show j + 8 * c = i by omega]
            exact HML.out
          obtain ⟨bb, hbb, hbt⟩ := hbyte
          have hkk : k = 2 ^ j := HK.out
          rw [← hkk] at hbt
          have hk128 : k ≤ 128 := by rw [hkk]; calc 2 ^ j ≤ 2 ^ 7 := Nat.pow_le_pow_right (by decide) (by omega)
            _ = 128 := by decide
          have hput := byt_put M i c q HML.out (by omega) (by rw [show i - 8 * c = j by omega, hbb, ← hkk]; have : k * q ≤ k * 1 := Nat.mul_le_mul_left _ (by omega); omega)
          rw [show i - 8 * c = j by omega, hbb, ← hkk] at hput
          have HPUT := Aside0.mk hput
          clear hput hkk
          have hcb := (Kd.R_celln (0 : Int) HO.out ((c : Nat) : Int) (by omega) (by omega)).1
          have hfb := (Kd.R_celln (0 : Int) HO.out ((c : Nat) : Int) (by omega) (by omega)).2
          have hlast : rdOf 0 (byt M (c + 1)) ((c : Nat) : Int) = (bb : Int) := by
            unfold rdOf
            rw [List.getD_eq_getElem?_getD, Int.toNat_natCast, byt_get _ _ _ (by omega), hbb, Option.getD_some, Nat.mod_eq_of_lt (by omega)]
          rw [hlast] at hcb
          simp only [Int.toNat_natCast] at hcb hfb
          have HR2 := HI.out.1.row
          rw [HU.out] at HR2
          have hcq := (Kd.R_celln (0 : Int) HR2 ((i : Nat) : Int) (by omega) (by omega)).1
          have hlq : rdOf 0 (bitl N len) ((i : Nat) : Int) = (q : Int) := by
            unfold rdOf
            rw [List.getD_eq_getElem?_getD, Int.toNat_natCast, HQ.out, Option.getD_some]
          rw [hlq] at hcq
          simp only [Int.toNat_natCast] at hcq
          clear hbb HR2 hlast hlq
          have hqk : k * q ≤ k := by have : k * q ≤ k * 1 := Nat.mul_le_mul_left _ (by omega); omega
          obtain ⟨z, hz⟩ : ∃ z, k * q = z := ⟨_, rfl⟩
          have hz2 : (q : Int) * (k : Int) = (z : Int) := by rw [← hz, Nat.mul_comm]; simp
          rw [hz] at HPUT hqk
          clear hz
          have hv1 : IntKind.u8.wrap ((q : Int) * (k : Int)) = (z : Int) := by rw [hz2]; simp [IntKind.wrap, IntKind.bits, IntKind.signed]; omega
          have hv2 : IntKind.u8.wrap ((bb : Int) + (z : Int)) = (bb : Int) + (z : Int) := by simp [IntKind.wrap, IntKind.bits, IntKind.signed]; omega
          have hv3 : ((q : Int) * (k : Int)) % 256 = (z : Int) := by rw [hz2]; omega
          have hv4 : ((bb : Int) + (z : Int)) % 256 = (bb : Int) + (z : Int) := by omega
          have hv5 : IntKind.i64.wrap ((c : Int) + 1 - 1) = (c : Int) := by rw [show (c : Int) + 1 - 1 = (c : Int) by omega]; exact IntWalk.i64_in _ (by omega)
          have p0 : (0 : Int) ≤ (c : Int) := by omega
          have p1 : (c : Int) < (c : Int) + 1 := by omega
          have p2 : (0 : Int) ≤ (i : Int) := by omega
          have p3 : (i : Int) < (len : Int) := by omega
          clear hz2
          go_upto_region 12 with (fail)
          have hv6 : wrap64 (c : Int) = (c : Int) := wrap_id (by omega) (by omega)
          refine start_ (n := 22) (S := fun w' => w'.cell? ⟨b, c, none⟩ = some (.int .u8 (bb : Int)) ∧ w'.cell? ⟨g, 0, none⟩ = some (.slice (some ⟨gb, 0, none⟩) len c') ∧ w'.cell? ⟨gb, i, none⟩ = some (.int .u8 (q : Int))) (ds := [21]) #[false, false, false, false, false, false, false, false, false, false, false, false, false, false, false, false, false, false, false, false, false, false] (by kernel_rfl) rfl rfl ⟨hcb, hcg, hcq⟩ (fun hHeld => ?_)
          refine pure_ (i := 0) (N := some 30) (v := ?_) (a' := ?_) #[true, false, false, false, false, false, false, false, false, false, false, false, false, false, false, false, false, false, false, false, false, false] rfl rfl (by kernel_rfl) (fun _ _ _ h => h) (Or.inl ⟨by rfl, ?_⟩) ?_ ?_
          rotate_left
          · intro w'
            go_simp
            with_reducible rfl
          rotate_left
          · simp only [Act.put, List.setIfInBounds_toArray, List.set_cons_zero, List.set_cons_succ, i64_w, i32_w]
            rfl
          refine pure_ (i := 1) (N := some 31) (v := ?_) (a' := ?_) #[true, true, false, false, false, false, false, false, false, false, false, false, false, false, false, false, false, false, false, false, false, false] rfl rfl (by kernel_rfl) (fun _ _ _ h => h) (Or.inl ⟨by rfl, ?_⟩) ?_ ?_
          rotate_left
          · intro w'
            go_simp
            with_reducible rfl
          rotate_left
          · simp only [Act.put, List.setIfInBounds_toArray, List.set_cons_zero, List.set_cons_succ, i64_w, i32_w]
            rfl
          refine pure_ (i := 2) (N := some 32) (v := ?_) (a' := ?_) #[true, true, true, false, false, false, false, false, false, false, false, false, false, false, false, false, false, false, false, false, false, false] rfl rfl (by kernel_rfl) (fun _ _ _ h => h) (Or.inl ⟨by rfl, ?_⟩) ?_ ?_
          rotate_left
          · intro w'
            go_simp
            with_reducible rfl
          rotate_left
          · simp only [Act.put, List.setIfInBounds_toArray, List.set_cons_zero, List.set_cons_succ, i64_w, i32_w]
            rfl
          refine pure_ (i := 3) (N := some 33) (v := ?_) (a' := ?_) #[true, true, true, true, false, false, false, false, false, false, false, false, false, false, false, false, false, false, false, false, false, false] rfl rfl (by kernel_rfl) (fun _ _ _ h => h) (Or.inl ⟨by rfl, ?_⟩) ?_ ?_
          rotate_left
          · intro w'
            go_simp
            with_reducible rfl
          rotate_left
          · simp only [Act.put, List.setIfInBounds_toArray, List.set_cons_zero, List.set_cons_succ, i64_w, i32_w]
            rfl
          refine pure_ (i := 4) (N := some 34) (v := ?_) (a' := ?_) #[true, true, true, true, true, false, false, false, false, false, false, false, false, false, false, false, false, false, false, false, false, false] rfl rfl (by kernel_rfl) (fun _ _ _ h => h) (Or.inl ⟨by rfl, ?_⟩) ?_ ?_
          rotate_left
          · intro w'
            go_simp
            with_reducible rfl
          rotate_left
          · simp only [Act.put, List.setIfInBounds_toArray, List.set_cons_zero, List.set_cons_succ, i64_w, i32_w]
            rfl
          refine pure_ (i := 5) (N := some 35) (v := ?_) (a' := ?_) #[true, true, true, true, true, true, false, false, false, false, false, false, false, false, false, false, false, false, false, false, false, false] rfl rfl (by kernel_rfl) (fun _ _ _ h => h) (Or.inl ⟨by rfl, ?_⟩) ?_ ?_
          rotate_left
          · intro w'
            go_simp
            with_reducible rfl
          rotate_left
          · simp only [Act.put, List.setIfInBounds_toArray, List.set_cons_zero, List.set_cons_succ, i64_w, i32_w]
            rfl
          refine pure_ (i := 6) (N := some 36) (v := ?_) (a' := ?_) #[true, true, true, true, true, true, true, false, false, false, false, false, false, false, false, false, false, false, false, false, false, false] rfl rfl (by kernel_rfl) (fun _ _ _ h => h) (Or.inl ⟨by rfl, ?_⟩) ?_ ?_
          rotate_left
          · intro w'
            go_simp
            with_reducible rfl
          rotate_left
          · simp only [Act.put, List.setIfInBounds_toArray, List.set_cons_zero, List.set_cons_succ, i64_w, i32_w]
            rfl
          refine pure_ (i := 7) (N := some 37) (v := ?_) (a' := ?_) #[true, true, true, true, true, true, true, true, false, false, false, false, false, false, false, false, false, false, false, false, false, false] rfl rfl (by kernel_rfl) (fun _ _ _ h => h) (Or.inl ⟨by rfl, ?_⟩) ?_ ?_
          rotate_left
          · intro w'
            go_simp
            with_reducible rfl
          rotate_left
          · simp only [Act.put, List.setIfInBounds_toArray, List.set_cons_zero, List.set_cons_succ, i64_w, i32_w]
            rfl
          refine pure_ (i := 8) (N := some 38) (v := ?_) (a' := ?_) #[true, true, true, true, true, true, true, true, true, false, false, false, false, false, false, false, false, false, false, false, false, false] rfl rfl (by kernel_rfl) (fun _ _ _ h => h) (Or.inl ⟨by rfl, ?_⟩) ?_ ?_
          rotate_left
          · intro w'
            go_simp
            with_reducible rfl
          rotate_left
          · simp only [Act.put, List.setIfInBounds_toArray, List.set_cons_zero, List.set_cons_succ, i64_w, i32_w]
            rfl
          refine pure_ (i := 10) (N := some 40) (v := ?_) (a' := ?_) #[true, true, true, true, true, true, true, true, true, false, true, false, false, false, false, false, false, false, false, false, false, false] rfl rfl (by kernel_rfl) (fun _ _ _ h => h) (Or.inl ⟨by rfl, ?_⟩) ?_ ?_
          rotate_left
          · intro w'
            go_simp
            with_reducible rfl
          rotate_left
          · simp only [Act.put, List.setIfInBounds_toArray, List.set_cons_zero, List.set_cons_succ, i64_w, i32_w]
            rfl
          refine pure_ (i := 11) (N := some 41) (v := ?_) (a' := ?_) #[true, true, true, true, true, true, true, true, true, false, true, true, false, false, false, false, false, false, false, false, false, false] rfl rfl (by kernel_rfl) (fun _ _ _ h => h) (Or.inl ⟨by rfl, ?_⟩) ?_ ?_
          rotate_left
          · intro w'
            go_simp
            with_reducible rfl
          rotate_left
          · simp only [Act.put, List.setIfInBounds_toArray, List.set_cons_zero, List.set_cons_succ, i64_w, i32_w]
            rfl
          refine pure_ (i := 12) (N := some 42) (v := ?_) (a' := ?_) #[true, true, true, true, true, true, true, true, true, false, true, true, true, false, false, false, false, false, false, false, false, false] rfl rfl (by kernel_rfl) (fun _ _ _ h => h) (Or.inl ⟨by rfl, ?_⟩) ?_ ?_
          rotate_left
          · intro w'
            go_simp
            with_reducible rfl
          rotate_left
          · simp only [Act.put, List.setIfInBounds_toArray, List.set_cons_zero, List.set_cons_succ, i64_w, i32_w]
            rfl
          refine pure_ (i := 14) (N := some 44) (v := ?_) (a' := ?_) #[true, true, true, true, true, true, true, true, true, false, true, true, true, false, true, false, false, false, false, false, false, false] rfl rfl (by kernel_rfl) (fun _ _ _ h => h) (Or.inl ⟨by rfl, ?_⟩) ?_ ?_
          rotate_left
          · intro w'
            go_simp
            with_reducible rfl
          rotate_left
          · simp only [Act.put, List.setIfInBounds_toArray, List.set_cons_zero, List.set_cons_succ, i64_w, i32_w]
            rfl
          refine pure_ (i := 17) (N := some 47) (v := ?_) (a' := ?_) #[true, true, true, true, true, true, true, true, true, false, true, true, true, false, true, false, false, true, false, false, false, false] rfl rfl (by kernel_rfl) (fun _ _ _ h => h) (Or.inl ⟨by rfl, ?_⟩) ?_ ?_
          rotate_left
          · intro w'
            go_simp
            with_reducible rfl
          rotate_left
          · simp only [Act.put, List.setIfInBounds_toArray, List.set_cons_zero, List.set_cons_succ, i64_w, i32_w]
            rfl
          refine take_ (i := 9) (N := some 39) (v := ?_) (a' := ?_) #[true, true, true, true, true, true, true, true, true, true, true, true, true, false, true, false, false, true, false, false, false, false] rfl rfl (by kernel_rfl) (fun _ _ _ h => h) (Or.inl ⟨by rfl, ?_⟩) hHeld ?_ ?_
          rotate_left
          · rintro w' ⟨s0, s1, s2⟩
            go_simp
            with_reducible rfl
          rotate_left
          · simp only [Act.put, List.setIfInBounds_toArray, List.set_cons_zero, List.set_cons_succ, i64_w, i32_w]
            rfl
          refine take_ (i := 13) (N := some 43) (v := ?_) (a' := ?_) #[true, true, true, true, true, true, true, true, true, true, true, true, true, true, true, false, false, true, false, false, false, false] rfl rfl (by kernel_rfl) (fun _ _ _ h => h) (Or.inl ⟨by rfl, ?_⟩) hHeld ?_ ?_
          rotate_left
          · rintro w' ⟨s0, s1, s2⟩
            go_simp
            with_reducible rfl
          rotate_left
          · simp only [Act.put, List.setIfInBounds_toArray, List.set_cons_zero, List.set_cons_succ, i64_w, i32_w]
            rfl
          refine pure_ (i := 15) (N := some 45) (v := ?_) (a' := ?_) #[true, true, true, true, true, true, true, true, true, true, true, true, true, true, true, true, false, true, false, false, false, false] rfl rfl (by kernel_rfl) (fun _ _ _ h => h) (Or.inl ⟨by rfl, ?_⟩) ?_ ?_
          rotate_left
          · intro w'
            go_simp
            with_reducible rfl
          rotate_left
          · simp only [Act.put, List.setIfInBounds_toArray, List.set_cons_zero, List.set_cons_succ, i64_w, i32_w]
            rfl
          refine take_ (i := 16) (N := some 46) (v := ?_) (a' := ?_) #[true, true, true, true, true, true, true, true, true, true, true, true, true, true, true, true, true, true, false, false, false, false] rfl rfl (by kernel_rfl) (fun _ _ _ h => h) (Or.inl ⟨by rfl, ?_⟩) hHeld ?_ ?_
          rotate_left
          · rintro w' ⟨s0, s1, s2⟩
            go_simp
            with_reducible rfl
          rotate_left
          · simp only [Act.put, List.setIfInBounds_toArray, List.set_cons_zero, List.set_cons_succ, i64_w, i32_w]
            rfl
          refine pure_ (i := 18) (N := some 48) (v := ?_) (a' := ?_) #[true, true, true, true, true, true, true, true, true, true, true, true, true, true, true, true, true, true, true, false, false, false] rfl rfl (by kernel_rfl) (fun _ _ _ h => h) (Or.inl ⟨by rfl, ?_⟩) ?_ ?_
          rotate_left
          · intro w'
            go_simp
            with_reducible rfl
          rotate_left
          · simp only [Act.put, List.setIfInBounds_toArray, List.set_cons_zero, List.set_cons_succ, i64_w, i32_w]
            rfl
          refine pure_ (i := 19) (N := some 49) (v := ?_) (a' := ?_) #[true, true, true, true, true, true, true, true, true, true, true, true, true, true, true, true, true, true, true, true, false, false] rfl rfl (by kernel_rfl) (fun _ _ _ h => h) (Or.inl ⟨by rfl, ?_⟩) ?_ ?_
          rotate_left
          · intro w'
            go_simp
            with_reducible rfl
          rotate_left
          · simp only [Act.put, List.setIfInBounds_toArray, List.set_cons_zero, List.set_cons_succ, i64_w, i32_w]
            rfl
          refine pure_ (i := 20) (N := some 50) (v := ?_) (a' := ?_) #[true, true, true, true, true, true, true, true, true, true, true, true, true, true, true, true, true, true, true, true, true, false] rfl rfl (by kernel_rfl) (fun _ _ _ h => h) (Or.inl ⟨by rfl, ?_⟩) ?_ ?_
          rotate_left
          · intro w'
            go_simp
            with_reducible rfl
          rotate_left
          · simp only [Act.put, List.setIfInBounds_toArray, List.set_cons_zero, List.set_cons_succ, i64_w, i32_w]
            rfl
          refine last_ (i := 21) (N := none) #[true, true, true, true, true, true, true, true, true, true, true, true, true, true, true, true, true, true, true, true, true, true] rfl rfl (by kernel_rfl) (by decide) (fun K hK => ?_)
          refine skip_ (w1 := ?_) (by rfl) rfl ?_ ?_
          rotate_left
          · go_simp
            rfl
          refine hK.out _ _ ?_
          clear hK K
          refine done_ (by kernel_rfl) ?_
          clear hv6
          have HP := Aside0.mk (Kd.R_putn HO.out ((c : Nat) : Int) ((bb : Int) + (z : Int)))
          go_wp2
          refine ⟨⟨i + 1, by go_num, by omega, ⟨?_⟩, ⟨pw_below_drewN (below_set HB.out (Kd.R_base HO.out b rfl)) 1⟩⟩, by simp [intOf]; omega⟩
          have h := HP.out
          rw [Int.toNat_natCast, show (bb : Int) + (z : Int) = ((bb + z : Nat) : Int) by omega, ← HPUT.out, ← HM2.out] at h
          rw [show (i + 1 + 7) / 8 = c + 1 by omega]
          exact Kd.R_drewN h 1
    · have hd : decide (i < len) = false := decide_eq_false hlt
      obtain rfl : i = len := by omega
      rw [Nat.mod_eq_of_lt HI0.out.2] at HO
      obtain ⟨A, c, hv, hlc, hC⟩ := Kd.R_reads HO.out
      have hstr := Kd.C_string (P := Try.prog) (c := c) Try.underlying29 Try.underlying5 (dst := 9) Try.underlying9 hC
      have e : strOfNums (byt N ((i + 7) / 8)) = ⟨(ofN ((i + 7) / 8) N).toArray⟩ := by
        unfold strOfNums byt
        rw [List.map_map]
        congr 2
        rw [show (fun n : Int => UInt8.ofNat n.toNat) ∘ (fun b : UInt8 => (b.toNat : Int)) = id from by funext b; simp, List.map_id]
      rw [e] at hstr
      obtain ⟨xs, hxs⟩ : ∃ xs, byt N ((i + 7) / 8) = xs := ⟨_, rfl⟩
      rw [hxs] at hstr hv
      obtain ⟨A', c', hu⟩ := HI.out.bits
      have hcg : wr.cell? ⟨g, 0, none⟩ = some (.slice A' i c') := by rw [← hu]; exact (blk_cell HI.out.1.blk 0).trans rfl
      clear hu hC hlc hxs e
      subst hv
      go_wp2
      go_ret
      exact ⟨rfl, HB.out⟩
end Go.Proofs.Ytdbekngboogaoaa.Rw
