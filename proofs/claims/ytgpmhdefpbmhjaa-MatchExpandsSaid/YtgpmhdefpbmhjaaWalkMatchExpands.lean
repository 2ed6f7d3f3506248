/- MatchExpands: any tokens expand as the reference says: the walk through the law's own code. -/
import Derived.Test.YtgpmhdefpbmhjaaAwake
import Derived.Test.YtgpmhdefpbmhjaaOpens
namespace Go.Proofs.Ytgpmhdefpbmhjaa.Walk
set_option linter.unusedVariables false
set_option linter.unusedSimpArgs false
open Go Go.RowKit Go.Proofs.Ytgpmhdefpbmhjaa.P Go.Proofs.Ytgpmhdefpbmhjaa.B Go.Proofs.Ytgpmhdefpbmhjaa.D7 Go.Proofs.Ytgpmhdefpbmhjaa.Ch Go.Proofs.Ytgpmhdefpbmhjaa.MapG Go.Proofs.YtgpmhdefpbmhjaaW.PrintWords Go.Proofs.YtgpmhdefpbmhjaaW.PrintLast Go.Proofs.YtgpmhdefpbmhjaaW.PrintMore

theorem cut_all {P : Program} (t e : TypeId) (kh km : IntKind) {i : TypeInfo} (ht : P.underlying t = some (.slice e)) (hi : P.info? e = some i) (A : Option Addr) (n c : Nat) (h3 : n ≤ c) :
    ∀ W : World, (Instr.slice t (.slice A n c) none (some (.int kh (n : Int))) (some (.int km (n : Int)))).run P W = .ok (.slice A n n) W := by
  intro W
  have hel : P.elem t = e := by simp [Program.elem, ht]
  have hu : P.underlying t = some (.slice (P.elem t)) := by rw [hel]; exact ht
  rw [run_slice_hm W t A n c hu kh km n n (by omega) (by omega) (by omega), hel]
  simp [sizeOf, typeInfo, hi, sliced, Result.andThen, Addr.add]
/-- What the tokens are when they are expanded: read at a slice, and not too many. -/
def Toks (w wc : World) (v : Value) : Prop := ∃ (A : Option Addr) (c : Nat) (L : List S25), v = .slice A L.length c ∧ L.length ≤ c ∧ Kd.C k25 wc A L.length L ∧ L.length ≤ 20000 ∧ Below w.heap.size w wc
theorem inf25 : (Try.prog.info? 25).map (fun i => (i.zero, i.size, i.bytes)) = some (some (.agg #[.int .u8 0, .int .i64 0, .int .i64 0]), 3, 24) := by kernel_rfl
def copyT : S25 := ⟨0, 258, 1⟩

set_option maxHeartbeats 4000000 in
set_option maxRecDepth 100000 in
theorem MatchExpands (A : Option Addr) (cap : Nat) (l : List S25) (more : Bool) (w : World)
    (hl : l.length ≤ cap) (hC : Kd.C k25 w A l.length l) (hok : ∀ x ∈ l, ((Lit.int .u8 x.f0).wf = true) ∧ ((Lit.int .i64 x.f1).wf = true) ∧ ((Lit.int .i64 x.f2).wf = true)) (hz : l.length * 24 ≤ 140737488351232) :
    Calls Try.prog 3 #[.slice A l.length cap, .bool more] w fun e w' => e = .returned (.bool true) ∧ Below w.heap.size w w' := by
  have HC := Aside0.mk hC
  clear hC hok
  have hu25 := Try.underlying25
  by_cases h5 : (l.length : Int) > 300
  · have h5b : decide (300 < (l.length : Int)) = true := decide_eq_true h5
    have h5c : decide (300 < l.length) = true := decide_eq_true (by omega)
    go_enter Try.func3, Try.ntmps3
    go_wp2_with (go_at_call 9; refine (awake_calls _).mono ?_; rintro e w1 ⟨rfl, hb⟩)
    go_ret
    exact ⟨rfl, by assumption⟩
  have h5b : decide (300 < (l.length : Int)) = false := decide_eq_false h5
  have h5c : decide (300 < l.length) = false := decide_eq_false (by omega)
  go_enter Try.func3, Try.ntmps3
  go_wp2_with (go_at_call 9; refine (awake_calls _).mono ?_; rintro e w1 ⟨rfl, hb⟩; have HW1 := Aside0.mk hb; clear hb)
  have HC1 := Aside0.mk (Kd.C_below HC.out HW1.out)
  go_loopw [18] (fun v18 wr => ∃ (j : Nat), v18 = .int .i64 j ∧ j ≤ l.length ∧ Aside0 (Below w1.heap.size w1 wr))
    (fun v _ => l.length - (intOf v).toNat)
  case atStart => exact ⟨0, rfl, by omega, ⟨Below.refl _ _⟩⟩
  case round =>
    obtain ⟨j, rfl, hj, HB⟩ := hrel
    by_cases hlt : j < l.length
    · have hd : decide (j < l.length) = true := decide_eq_true hlt
      obtain ⟨ad, hA, hc0, hc1, hc2⟩ := at_T25 (Kd.C_below HC1.out HB.out) (j : Int) (by omega) (by omega)
      subst hA
      generalize rd_T25 l (j : Int) = t at hc0 hc1 hc2
      simp only [Int.toNat_natCast] at hc0 hc1 hc2
      obtain ⟨r, hr, _⟩ := right_some t.f0 t.f1 t.f2
      have HR1 := Aside0.mk hr
      have HR2 := Aside0.mk (show portmanteauref07_Right.f t.f0 t.f1 t.f2 = some r from by rw [← right_same]; exact hr)
      clear hr
      go_upto_region 8 with (fail)
      have H8 := Aside0.mk (heap_alloc_new wr (.cells #[.int .u8 t.f0, .int .i64 t.f1, .int .i64 t.f2] 25))
      have HB4 := Aside0.mk (below_alloc HB.out (.cells #[.int .u8 t.f0, .int .i64 t.f1, .int .i64 t.f2] 25))
      generalize wr.alloc (.cells #[.int .u8 t.f0, .int .i64 t.f1, .int .i64 t.f2] 25) = wx at H8 HB4 ⊢
      have hx0 := blk_cell H8.out 0
      have hx1 := blk_cell H8.out 1
      have hx2 := blk_cell H8.out 2
      clear hc0 hc1 hc2
      go_region_held3 (fun W' => W'.cell? ⟨wr.heap.size, 0, none⟩ = some (.int .u8 t.f0) ∧ W'.cell? ⟨wr.heap.size, 1, none⟩ = some (.int .i64 t.f1) ∧ W'.cell? ⟨wr.heap.size, 2, none⟩ = some (.int .i64 t.f2)) (first | exact ⟨hx0, hx1, hx2⟩ | exact ⟨hy0, hy1, hy2⟩ | exact ⟨hz0, hz1, hz2⟩)
        (first
          | (go_at_call 10; refine (match_Right.calls t.f0 t.f1 t.f2 r _ HR1.out).mono ?_; rintro e w5 ⟨rfl, hb⟩; have HB5 := Aside0.mk (below_step (below_drew1 HB4.out) hb); have hy0 := pw_cell_below hb hx0; have hy1 := pw_cell_below hb hx1; have hy2 := pw_cell_below hb hx2; clear hb)
          | (go_at_call 11; refine (portmanteauref07_Right.calls t.f0 t.f1 t.f2 r _ HR2.out).mono ?_; rintro e w6 ⟨rfl, hb⟩; have HB6 := Aside0.mk (below_step HB5.out hb); have hz0 := pw_cell_below hb hy0; have hz1 := pw_cell_below hb hy1; have hz2 := pw_cell_below hb hy2; clear hb))
      go_wp2
      go_roundw
      case rel => exact ⟨j + 1, by go_num, by omega, HB6⟩
      case measure => simp [intOf]; omega
    · have hd : decide (j < l.length) = false := decide_eq_false hlt
      obtain rfl : j = l.length := by omega
      go_upto_if 28 with (fail)
      go_cut [0] (fun v0 wc => Aside0 (Toks w wc v0))
      case first =>
        have HC2 := Aside0.mk (Kd.C_below HC1.out HB.out)
        cases more with
        | false =>
          go_wp2
          go_meet
          exact ⟨_, _, l, rfl, hl, HC2.out, by omega, below_step HW1.out HB.out⟩
        | true =>
          obtain ⟨iz, hi25, _, hs25, _⟩ := info_parts inf25
          have hsl := cut_all 22 25 .i64 .i64 Try.underlying22 hi25 A l.length cap hl
          clear hi25 hs25
          have hnb : Below wr.heap.size wr (wr.alloc (.cells #[.int .u8 0, .int .i64 0, .int .i64 0] 25)) := below_alloc (Below.refl _ _) _
          obtain ⟨v2, w2, hrun, hR2, hB2⟩ := Full.grow_one (P := Try.prog) (d := k25) 22 22 25 (.agg #[.int .u8 0, .int .i64 0, .int .i64 0]) 24 Try.underlying22 inf25 rfl (by decide) (fun h => h) (Kd.C_below HC2.out hnb) ⟨wr.heap.size, 0, none⟩ 1 z25 [.int .u8 0, .int .i64 0, .int .i64 0] rfl (Full.cells_new wr _ 25) (k25_mk _ z25) (by intro u hu; simp at hu; rcases hu with rfl | rfl <;> rfl) (by omega) (by omega)
          have HR2 := Aside0.mk hR2
          have HB2 := Aside0.mk (below_step (below_step HB.out hnb) hB2)
          have HRUN := Aside0.mk hrun
          clear hrun hR2 hB2 hnb
          go_wp2_with ((with_reducible refine gate_builtin (b := .append) (xs := #[.tmp 34, .tmp 36]) rfl ?_); at_builtin; refine Full.wpList_append_run rfl (.tmp 34) (.tmp 36) 22 22 rfl (.slice A l.length l.length) (.slice (some ⟨wr.heap.size, 0, none⟩) 1 1) v2 w2 rfl rfl HRUN.out ?_)
          clear hsl
          generalize hwn : (wr.alloc (.cells #[.int .u8 0, .int .i64 0, .int .i64 0] 25)).heap.size = n1 at HR2
          have HN := Aside0.mk (show w1.heap.size ≤ n1 by rw [← hwn]; have := HB.out.size; simp; omega)
          clear hwn
          go_loopw [0, 38] (fun v0 v38 wr2 => ∃ (i : Nat) (L : List S25), v38 = .int .i64 i ∧ i ≤ 4100 ∧ L.length = l.length + 1 + i ∧ Aside0 (Kd.R k25 25 wr2 w1.heap.size (fun _ => True) v0 L) ∧ Aside0 (Below w1.heap.size w1 wr2))
            (fun _ v _ => 4100 - (intOf v).toNat)
          case atStart => exact ⟨0, l ++ [z25], rfl, by omega, by simp, ⟨Kd.R_lower HR2.out HN.out⟩, HB2⟩
          case round =>
            obtain ⟨i, L, rfl, hi, hLl, HR, HB⟩ := hrel
            by_cases hlt : i < 4100
            · have hd : decide ((i : Int) < 4100) = true := decide_eq_true (by omega)
              go_wp2_with ((with_reducible refine gate_builtin (b := .append) (xs := #[.tmp 40, .tmp 42]) rfl ?_); at_builtin; refine Kd.R_append k25 (w0 := w1) w1.heap.size rfl (.tmp 40) (.tmp 42) 22 25 (.agg #[.int .u8 0, .int .i64 0, .int .i64 0]) 24 rfl Try.underlying22 inf25 rfl (by decide) (by omega) u0 L copyT [.int .u8 0, .int .i64 258, .int .i64 1] (fun _ => True) (fun _ => False) rfl rfl ?aP (fun _ hk => hk.elim) ?aF ?aO ?aB ?aS ?aL ?_; (case aP => exact k25_mkM _ _ _ copyT); (case aB => exact HB.out); (case aF => exact (fun _ _ => trivial)); (case aO => exact HR.out); (case aS => exact below_size HB.out); (case aL => omega); intro v6 w6 ho hb hg hat; have HR6 := Aside0.mk ho; have HB6 := Aside0.mk hb; clear ho hb hg hat)
              go_roundw
              case rel => exact ⟨i + 1, _, by go_num, by omega, by rw [List.length_append, hLl]; simp; omega, HR6, HB6⟩
              case measure => simp [intOf]; omega
            · have hd : decide ((i : Int) < 4100) = false := decide_eq_false (by omega)
              go_wp2
              go_meet
              obtain ⟨A6, c6, rfl, hl6, hC6⟩ := Kd.R_reads HR.out
              exact ⟨_, _, L, rfl, hl6, hC6, by omega, below_step HW1.out HB.out⟩
      case rest =>
        obtain ⟨A5, c5, L, rfl, hL, hCL, hLn, hB5⟩ := hcut.out
        have HC5 := Aside0.mk hCL
        have HB5 := Aside0.mk hB5
        obtain ⟨k, s, e0, hE1, hE2⟩ := expand_same L (by omega)
        obtain ⟨k2, hto⟩ := to_some L (by omega)
        obtain ⟨L2, hL2⟩ : ∃ L2, L.map c28 = L2 := ⟨_, rfl⟩
        rw [hL2] at hE2 hto
        clear hL2
        have HE1 := Aside0.mk hE1
        have HE2 := Aside0.mk hE2
        have HTO := Aside0.mk hto
        clear hcut hCL hB5 HC HW1 hE1 hE2 hto HC1
        go_wp2_with (first
          | (go_at_call 12; refine (match_Expand.calls k A5 c5 L s e0 _ HC5.out hL HE1.out).mono ?_; rintro e w7 ⟨rfl, hb⟩; have HB7 := Aside0.mk hb; have HC7 := Aside0.mk (Kd.C_below HC5.out hb); clear hb)
          | (go_at_call 14; refine (portmanteaulaw07_to.calls k2 A5 c5 L L2 _ HC7.out hL HTO.out).mono ?_; rintro e w8 ⟨v8, rfl, hR, hb⟩; obtain ⟨A8, c8, rfl, hl8, hC8⟩ := Kd.R_reads hR; have HC8 := Aside0.mk hC8; have HB8 := Aside0.mk (below_step HB7.out hb); clear hR hC8 hb)
          | (go_at_call 13; refine (portmanteauref07_Expand.calls k A8 c8 L2 s e0 _ HC8.out hl8 HE2.out).mono ?_; rintro e w9 ⟨rfl, hb⟩; have HB9 := Aside0.mk (below_step HB8.out hb); clear hb))
        go_ret
        exact ⟨rfl, below_step HB5.out HB9.out⟩
end Go.Proofs.Ytgpmhdefpbmhjaa.Walk
