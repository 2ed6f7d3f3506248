/- DeflateBounds: the bound of any length is the reference's, and the parts of any tokens are, one behind the other, the tokens, none of them empty or of more than 32,768 bytes: the walk through the law's own code. -/
import Derived.Test.YtolohijegkagiaaSplit
import Derived.Test.YtolohijegkagiaaFull
import Derived.Test.YtolohijegkagiaaOpens
namespace Go.Proofs.Ytolohijegkagiaa.Walk
set_option linter.unusedVariables false
set_option linter.unusedSimpArgs false
open Go Go.RowKit Go.Proofs.Ytolohijegkagiaa.P Go.Proofs.Ytolohijegkagiaa.B Go.Proofs.Ytolohijegkagiaa.D9 Go.Proofs.YtolohijegkagiaaW.PrintWords Go.Proofs.YtolohijegkagiaaW.PrintLast Go.Proofs.YtolohijegkagiaaW.PrintMore

theorem cut_all {P : Program} (t e : TypeId) (kh km : IntKind) {i : TypeInfo} (ht : P.underlying t = some (.slice e)) (hi : P.info? e = some i) (A : Option Addr) (n c : Nat) (h3 : n ≤ c) :
    ∀ W : World, (Instr.slice t (.slice A n c) none (some (.int kh (n : Int))) (some (.int km (n : Int)))).run P W = .ok (.slice A n n) W := by
  intro W
  have hel : P.elem t = e := by simp [Program.elem, ht]
  have hu : P.underlying t = some (.slice (P.elem t)) := by rw [hel]; exact ht
  rw [run_slice_hm W t A n c hu kh km n n (by omega) (by omega) (by omega), hel]
  simp [sizeOf, typeInfo, hi, sliced, Result.andThen, Addr.add]
/-- What the tokens are when they are split: read at a slice, and not too many. -/
def Toks (w wc : World) (v : Value) : Prop := ∃ (A : Option Addr) (c : Nat) (L : List S25), v = .slice A L.length c ∧ L.length ≤ c ∧ Kd.C k25 wc A L.length L ∧ L.length ≤ 20000 ∧ Below w.heap.size w wc
def copyT : S25 := ⟨0, 258, 1⟩

set_option maxHeartbeats 4000000 in
set_option maxRecDepth 100000 in
theorem DeflateBounds (n : Int) (A : Option Addr) (cap : Nat) (l : List S25) (more : Bool) (w : World) (hn : (Lit.int .i64 n).wf = true)
    (hl : l.length ≤ cap) (hC : Kd.C k25 w A l.length l) (hok : ∀ x ∈ l, ((Lit.int .u8 x.f0).wf = true) ∧ ((Lit.int .i64 x.f1).wf = true) ∧ ((Lit.int .i64 x.f2).wf = true)) (hz : l.length * 24 ≤ 140737488351232) :
    Calls Try.prog 3 #[.int .i64 n, .slice A l.length cap, .bool more] w fun e w' => e = .returned (.bool true) ∧ Below w.heap.size w w' := by
  have HC := Aside0.mk hC
  clear hC hok
  have HA := Aside0.mk awake_eq
  obtain ⟨bd, hb1, hb2⟩ := bound_eq n (wf_i64 hn).1 (wf_i64 hn).2
  have HB1 := Aside0.mk hb1
  have HB2 := Aside0.mk hb2
  clear hb1 hb2
  have hu25 := Try.underlying25
  by_cases h5 : (l.length : Int) > 400
  · have h5b : decide (400 < (l.length : Int)) = true := decide_eq_true h5
    have h5c : decide (400 < l.length) = true := decide_eq_true (by omega)
    go_enter Try.func3, Try.ntmps3
    go_wp2_with (go_at_call 5; refine (portmanteaulaw09_awake.calls true _ HA.out).mono ?_; rintro e w1 ⟨rfl, hb⟩)
    go_ret
    exact ⟨rfl, by assumption⟩
  have h5b : decide (400 < (l.length : Int)) = false := decide_eq_false h5
  have h5c : decide (400 < l.length) = false := decide_eq_false (by omega)
  go_enter Try.func3, Try.ntmps3
  go_upto_if 19 with (go_at_call 5; refine (portmanteaulaw09_awake.calls true _ HA.out).mono ?_; rintro e w1 ⟨rfl, hb⟩; have HW1 := Aside0.mk hb; clear hb)
  go_cut [1] (fun v1 wc => Aside0 (Toks w wc v1))
  case first =>
    have HC1 := Aside0.mk (Kd.C_below HC.out HW1.out)
    cases more with
    | false =>
      go_wp2
      go_meet
      exact ⟨_, _, l, rfl, hl, HC1.out, by omega, HW1.out⟩
    | true =>
      obtain ⟨iz, hi25, _, hs25, _⟩ := info_parts inf25
      have hsl := cut_all 22 25 .i64 .i64 Try.underlying22 hi25 A l.length cap hl
      clear hi25 hs25
      obtain ⟨v2, w2, hrun, hR2, hB2⟩ := Full.grow_zeros (P := Try.prog) (d := k25) 22 3 22 25 .i64 .i64 (.agg #[.int .u8 0, .int .i64 0, .int .i64 0]) 24 Try.underlying22 Try.underlying3 inf25 rfl (by decide) z25 (k25_mk w1 z25) (fun h => h) HC1.out l.length 9000 (by omega) (by omega) (by omega) (by omega)
      have hrun' : (Builtin.append_ #[22, 3] 22 #[.slice A l.length l.length, .int .i64 9000]).run Try.prog w1 = .ok v2 w2 := hrun
      have HR2 := Aside0.mk hR2
      have HB2 := Aside0.mk hB2
      have HRUN := Aside0.mk hrun'
      clear hrun hrun' hR2 hB2
      go_wp2_with ((with_reducible refine gate_builtin (b := .append) (xs := #[.tmp 25, .const (.int .i64 9000)]) rfl ?_); at_builtin; refine Full.wpList_append_run rfl (.tmp 25) (.const (.int .i64 9000)) 22 3 rfl (.slice A l.length l.length) (.int .i64 9000) v2 w2 rfl rfl HRUN.out ?_)
      clear hsl
      go_loopw [1, 27] (fun v1 v27 wr => ∃ (i : Nat) (L : List S25), v27 = .int .i64 i ∧ i ≤ 1000 ∧ L.length = l.length + 9000 + i ∧ Aside0 (Kd.R k25 25 wr w1.heap.size (fun _ => True) v1 L) ∧ Aside0 (Below w1.heap.size w1 wr))
        (fun _ v _ => 1000 - (intOf v).toNat)
      case atStart => exact ⟨0, l ++ List.replicate 9000 z25, rfl, by omega, by simp, HR2, HB2⟩
      case round =>
        obtain ⟨i, L, rfl, hi, hLl, HR, HB⟩ := hrel
        by_cases hlt : i < 1000
        · have hd : decide ((i : Int) < 1000) = true := decide_eq_true (by omega)
          go_wp2_with ((with_reducible refine gate_builtin (b := .append) (xs := #[.tmp 29, .tmp 31]) rfl ?_); at_builtin; refine Kd.R_append k25 (w0 := w1) w1.heap.size rfl (.tmp 29) (.tmp 31) 22 25 (.agg #[.int .u8 0, .int .i64 0, .int .i64 0]) 24 rfl Try.underlying22 inf25 rfl (by decide) (by omega) u1 L copyT [.int .u8 0, .int .i64 258, .int .i64 1] (fun _ => True) (fun _ => False) rfl rfl ?aP (fun _ hk => hk.elim) ?aF ?aO ?aB ?aS ?aL ?_; (case aP => exact k25_mkM _ _ _ copyT); (case aB => exact HB.out); (case aF => exact (fun _ _ => trivial)); (case aO => exact HR.out); (case aS => exact below_size HB.out); (case aL => omega); intro v6 w6 ho hb hg hat; have HR6 := Aside0.mk ho; have HB6 := Aside0.mk hb; clear ho hb hg hat)
          go_roundw
          case rel => exact ⟨i + 1, _, by go_num, by omega, by rw [List.length_append, hLl]; simp; omega, HR6, HB6⟩
          case measure => simp [intOf]; omega
        · have hd : decide ((i : Int) < 1000) = false := decide_eq_false (by omega)
          go_wp2
          go_meet
          obtain ⟨A6, c6, rfl, hl6, hC6⟩ := Kd.R_reads HR.out
          exact ⟨_, _, L, rfl, hl6, hC6, by omega, below_step HW1.out HB.out⟩
  case rest =>
    obtain ⟨A5, c5, L, rfl, hL, hCL, hLn, hB5⟩ := hcut.out
    have HC5 := Aside0.mk hCL
    have HB5 := Aside0.mk hB5
    clear hcut hCL hB5 HC HW1
    go_wp2_with (go_at_call 6; refine (split_calls A5 c5 L _ hL HC5.out (by omega)).mono ?_; rintro e w2 ⟨v, ps, rfl, hR, hfl, hps, hb⟩; obtain ⟨A2, c2, rfl, hl2, hC2⟩ := Kd.R_reads hR; have HC2 := Aside0.mk hC2; have HFL := Aside0.mk hfl; have HPS := Aside0.mk hps; have HW2 := Aside0.mk hb; clear hR hC2 hfl hps hb)
    have hflat : ∀ j, (ps.take j).flatten.length ≤ L.length := by
      intro j
      rw [← HFL.out]
      conv => rhs; rw [← List.take_append_drop j ps, List.flatten_append, List.length_append]
      omega
    have HFT := Aside0.mk hflat
    clear hflat
    have hpl : ps.length ≤ 9223372036854775807 := HC2.out.2.1
    go_loopw [8, 38] (fun v8 v38 wr => ∃ (j : Nat), v38 = .int .i64 j ∧ j ≤ ps.length ∧ v8 = .int .i64 ((ps.take j).flatten.length : Nat) ∧ Aside0 (Below w2.heap.size w2 wr))
      (fun _ v _ => ps.length - (intOf v).toNat)
    case atStart => exact ⟨0, rfl, by omega, rfl, ⟨Below.refl _ _⟩⟩
    case round =>
      obtain ⟨j, rfl, hj, rfl, HB3⟩ := hrel
      obtain ⟨m, hm⟩ : ∃ m, (ps.take j).flatten.length = m := ⟨_, rfl⟩
      rw [hm]
      have hmL : m ≤ L.length := by rw [← hm]; exact HFT.out j
      have HM := Aside0.mk hm
      clear hm
      by_cases hlt : j < ps.length
      · have hd : decide (j < ps.length) = true := decide_eq_true hlt
        obtain ⟨ad2, cc, hA2, hcl, hK, hcell⟩ := Kd.C_get (Kd.C_below HC2.out HB3.out) [] (j : Int) (by omega) (by omega)
        subst hA2
        have hp : ps.getD (j : Int).toNat [] = ps[j] := by rw [List.getD_eq_getElem?_getD, Int.toNat_natCast, List.getElem?_eq_getElem hlt]; rfl
        rw [hp] at hK
        have hmem := HPS.out ps[j] (List.getElem_mem hlt)
        have htk : (ps.take (j + 1)).flatten = (ps.take j).flatten ++ ps[j] := by rw [List.take_succ_eq_append_getElem hlt, List.flatten_append]; simp
        obtain ⟨p, hpp⟩ : ∃ p, ps[j] = p := ⟨_, rfl⟩
        rw [hpp] at hK hmem htk
        have hfull := HFT.out (j + 1)
        rw [htk, List.length_append, HM.out] at hfull
        have hnext : (ps.take (j + 1)).flatten.length = m + p.length := by rw [htk, List.length_append, HM.out]
        have HNX := Aside0.mk hnext
        have hget : ∀ q (hq : q < p.length) (r : Nat), r = m + q → ∃ hq2 : r < L.length, L[r] = p[q] := by
          intro q hq r hr
          subst hr
          refine ⟨by omega, ?_⟩
          have h1 : L[m + q]? = some p[q] := by
            rw [← HFL.out]
            conv => lhs; rw [← List.take_append_drop (j + 1) ps, List.flatten_append, htk, List.append_assoc]
            rw [List.getElem?_append_right (by rw [HM.out]; omega), HM.out, List.getElem?_append_left (by omega), show m + q - m = q by omega, List.getElem?_eq_getElem hq]
          exact (List.getElem?_eq_some_iff.1 h1).2
        have HGET := Aside0.mk hget
        clear hget htk hnext hp hpp
        obtain ⟨Ap, cp, rfl, hlp, hCp⟩ := hK
        have HCP := Aside0.mk hCp
        have hc0 : wr.cell? (ad2.add j) = some (.slice Ap p.length cp) := by
          have := hcell 0 _ rfl
          simpa [kpart, Kd.fixed, Kd.slice] using this
        have HP1 := Aside0.mk hmem.1
        have hp2 : 0 ≤ sumb p := sumb_nonneg p
        have hp3 : sumb p ≤ 32768 := hmem.2
        clear hcell hcl hCp hmem
        have hpz : p.length ≤ 20000 := by omega
        go_wp2
        go_loopw [8, 11, 44] (fun v8 v11 v44 wq => ∃ (q r : Nat), v44 = .int .i64 q ∧ q ≤ p.length ∧ v8 = .int .i64 r ∧ r = m + q ∧ v11 = .int .i64 (sumb (p.take q)) ∧ Aside0 (Below w2.heap.size w2 wq))
          (fun _ _ v _ => p.length - (intOf v).toNat)
        case atStart => exact ⟨0, m, rfl, by omega, rfl, by omega, rfl, HB3⟩
        case round =>
          obtain ⟨q, r, rfl, hq, rfl, hr, rfl, HBQ⟩ := hrel
          have hle : sumb (p.take q) ≤ sumb p := by
            have := sumb_nonneg (p.drop q)
            have h2 : sumb p = sumb (p.take q) + sumb (p.drop q) := by
              conv => lhs; rw [← List.take_append_drop q p]
              rw [sumb_append]
            omega
          have h0 := sumb_nonneg (p.take q)
          by_cases hqlt : q < p.length
          · have hqd : decide (q < p.length) = true := decide_eq_true hqlt
            obtain ⟨hmq, hLq⟩ := HGET.out q hqlt r hr
            have HRQ := Aside0.mk hr
            clear hr
            have HBW := Aside0.mk (below_step HW2.out HBQ.out)
            obtain ⟨adp, hAp, hc10, hc11, hc12⟩ := at_T25 (Kd.C_below HCP.out HBW.out) (q : Int) (by omega) (by omega)
            subst hAp
            obtain ⟨ad5, hA5, hc20, hc21, hc22⟩ := at_T25 (Kd.C_below HC5.out HBW.out) (r : Int) (by omega) (by omega)
            subst hA5
            have hr1 : rd_T25 p (q : Int) = p[q] := by unfold rd_T25; rw [List.getD_eq_getElem?_getD, Int.toNat_natCast, List.getElem?_eq_getElem hqlt]; rfl
            have hr2 : rd_T25 L (r : Int) = p[q] := by unfold rd_T25; rw [List.getD_eq_getElem?_getD, Int.toNat_natCast, List.getElem?_eq_getElem hmq, Option.getD_some, hLq]
            rw [hr1] at hc10 hc11 hc12
            rw [hr2] at hc20 hc21 hc22
            have hsn : sumb (p.take (q + 1)) = sumb (p.take q) + tb p[q] := by rw [List.take_succ_eq_append_getElem hqlt, sumb_snoc]
            obtain ⟨t, ht⟩ : ∃ t, p[q] = t := ⟨_, rfl⟩
            rw [ht] at hc10 hc11 hc12 hc20 hc21 hc22 hsn
            simp only [Int.toNat_natCast] at hc10 hc11 hc12 hc20 hc21 hc22
            obtain ⟨_, hb, hb1, hb2⟩ := tb_eq t
            have HT := Aside0.mk hb
            have HSN := Aside0.mk hsn
            have hcmp : decide (L.length ≤ r) = false := decide_eq_false (by omega)
            have hcmp2 : decide ((L.length : Int) ≤ (r : Int)) = false := decide_eq_false (by omega)
            clear hr1 hr2 hLq ht hb hsn
            generalize sumb (p.take q) = sq at *
            obtain ⟨b, hbb⟩ : ∃ b, tb t = b := ⟨_, rfl⟩
            rw [hbb] at HT HSN hb1 hb2
            clear hbb
            go_upto_region 20 with (fail)
            have hnb : Below wr.heap.size wr (wr.alloc (.cells #[.int .u8 t.f0, .int .i64 t.f1, .int .i64 t.f2] 25)) := below_alloc (Below.refl _ _) _
            have hd20 := pw_cell_below hnb hc20
            have hd21 := pw_cell_below hnb hc21
            have hd22 := pw_cell_below hnb hc22
            clear hnb
            go_quiet (fail)
            go_wp2_with (go_at_call 7; refine (portmanteauref09_Bytes.calls t.f0 t.f1 t.f2 b _ HT.out).mono ?_; rintro e w7 ⟨rfl, hb⟩; have HB7 := Aside0.mk (below_step (pw_below_drewN (below_alloc HBQ.out _) _) hb); clear hb)
            go_roundw
            case rel => exact ⟨q + 1, r + 1, by go_num, by omega, by go_num, by have := HRQ.out; omega, by rw [HSN.out], HB7⟩
            case measure => simp [intOf]; omega
          · have hqd : decide (q < p.length) = false := decide_eq_false hqlt
            obtain rfl : q = p.length := by omega
            rw [List.take_length] at *
            obtain ⟨x, hx⟩ : ∃ x, sumb p = x := ⟨_, rfl⟩
            rw [hx] at hp2 hp3 ⊢
            clear hx
            have g3 : decide (32768 < x) = false := decide_eq_false (by omega)
            have g4 : ((p.length : Int) == 0) = false := by
              have : p.length ≠ 0 := fun h => HP1.out (List.length_eq_zero_iff.1 h)
              simp; exact HP1.out
            have g5 : (p.length == 0) = false := by simp; exact HP1.out
            have g6 : ¬ (p = []) := HP1.out
            go_wp2
            go_roundw
            case rel => exact ⟨j + 1, by go_num, by omega, by rw [HNX.out, hr], HBQ⟩
            case measure => simp [intOf]; omega
      · have hd : decide (j < ps.length) = false := decide_eq_false hlt
        obtain rfl : j = ps.length := by omega
        have hm2 : m = L.length := by rw [← HM.out, List.take_length, HFL.out]
        subst hm2
        go_wp2_with (first
          | (go_at_call 8; refine (deflate_Bound.calls n bd _ HB1.out).mono ?_; rintro e w8 ⟨rfl, hb⟩; have HB8 := Aside0.mk (below_step HB3.out hb); clear hb)
          | (go_at_call 9; refine (portmanteauref09_Bound.calls 100 n bd _ HB2.out).mono ?_; rintro e w9 ⟨rfl, ⟨nd, rfl⟩⟩))
        go_ret
        exact ⟨rfl, pw_below_drewN (below_step HB5.out (below_step HW2.out HB8.out)) _⟩
end Go.Proofs.Ytolohijegkagiaa.Walk
