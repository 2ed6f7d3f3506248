/- slices.Concat of fields, in the printer's form: the walk. -/
import Derived.Test.YtdlcihbfdbdbbaaGiveclone
namespace Go.Proofs.Ytdlcihbfdbdbbaa.P
set_option linter.unusedVariables false
set_option linter.unusedSimpArgs false
open Go Go.RowKit Go.Proofs.YtdlcihbfdbdbbaaW.PrintWords Go.Proofs.YtdlcihbfdbdbbaaW.PrintLast Go.Proofs.YtdlcihbfdbdbbaaW.PrintMore
set_option maxHeartbeats 4000000 in
set_option maxRecDepth 100000 in
theorem grow_calls (n : Nat) (w : World) (hn : n ≤ 100000) :
    Calls Try.prog 42 #[.slice none 0 0, .int .i64 (n : Int)] w fun e w' => ∃ v, e = .returned v ∧ Own w' w.heap.size v [] ∧ Below w.heap.size w w' := by
  have d0 : decide ((n : Int) < 0) = false := decide_eq_false (by omega)
  by_cases hz : n = 0
  · subst hz
    go_enter Try.func42, Try.ntmps42
    go_wp2
    go_ret
    exact ⟨_, rfl, ⟨rfl, .inl ⟨rfl, rfl⟩⟩, Below.refl _ _⟩
  · obtain ⟨i0, hi, hzz⟩ := Option.map_eq_some_iff.1 info38
    simp only [Prod.mk.injEq] at hzz
    have hrun := Lib.run_append_nil_zeros (P := Try.prog) w 22 3 22 38 i0 _ .i64 .i64 Try.underlying22 Try.underlying3 hi hzz.1 n (by omega) (by rw [hzz.2.1]; decide) (by omega) (by rw [hzz.2.2]; omega)
    obtain ⟨cap, hcap⟩ : ∃ cap, grownCap w n 0 38 = cap := ⟨_, rfl⟩
    have hge : n ≤ cap := by rw [← hcap]; exact grownCap_ge _ _ _ _
    have hle : cap ≤ maxLen := by rw [← hcap]; exact grownCap_le_maxLen _ _ _ _ (by unfold maxLen; omega)
    rw [hcap] at hrun
    obtain ⟨cells, hcells⟩ : ∃ cells, (Builtin.zeroCells (Value.agg #[.int .u16 0, .string ⟨#[]⟩]).cells n ++ Builtin.zeroCells (Value.agg #[.int .u16 0, .string ⟨#[]⟩]).cells (cap - n)) = cells := ⟨_, rfl⟩
    have hcs : cells.size = cap * 2 := by
      rw [← hcells, Array.size_append, size_zeroCells, size_zeroCells]
      show n * 2 + (cap - n) * 2 = cap * 2
      omega
    rw [hcells] at hrun
    have HO := Aside0.mk (show Own (w.drew.alloc (.cells cells 38)) w.heap.size (.slice (some ⟨w.heap.size, 0, none⟩) 0 cap) [] from ⟨rfl, .inr ⟨w.heap.size, cap, cells, rfl, Nat.le_refl _, heap_alloc_new w.drew _, Nat.zero_le _, hle, hcs, rfl⟩⟩)
    have HG := Aside0.mk (below_alloc (below_drew1 (Below.refl w.heap.size w)) (.cells cells 38))
    have d1 : decide ((0 : Int) < (n : Int)) = true := decide_eq_true (by omega)
    have d2 : decide (0 < n) = true := decide_eq_true (by omega)
    clear hcells hcs hcap hle hge hzz hi
    go_enter Try.func42, Try.ntmps42
    go_wp2_with (at_builtin; refine Lib.wpList_append_run _ rfl _ _ 22 3 rfl _ _ rfl rfl _ _ hrun ?_)
    go_ret
    exact ⟨_, rfl, HO.out, HG.out⟩
def preC (L : Nat → List S38) : Nat → List S38
  | 0 => []
  | k + 1 => preC L k ++ L k
set_option maxHeartbeats 8000000 in
set_option maxRecDepth 100000 in
theorem concat_calls (N : Nat) (ad : Addr) (L : Nat → List S38) (AA : Nat → Option Addr) (CC : Nat → Nat) (w : World) (hcell : ∀ j, j < N → w.cell? (ad.add j) = some (.slice (AA j) (L j).length (CC j))) (hC : ∀ j, j < N → Kd.C k38 w (AA j) (L j).length (L j))
    (c0 : Nat) (hl : (preC L N).length ≤ 10000) (hN : N ≤ 10000) :
    Calls Try.prog 35 #[.slice (some ad) N c0] w fun e w' => ∃ v, e = .returned v ∧ Own w' w.heap.size v (preC L N) ∧ Below w.heap.size w w' := by
  have hmono : ∀ k, k < N → (preC L k).length + (L k).length ≤ 10000 ∧ (preC L (k + 1)).length = (preC L k).length + (L k).length := by
    have hle : ∀ d k, k + d = N → (preC L k).length ≤ (preC L N).length := by
      intro d
      induction d with
      | zero => intro k hk; rw [show k = N by omega]; exact Nat.le_refl _
      | succ d ih =>
        intro k hk
        have := ih (k + 1) (by omega)
        rw [preC, List.length_append] at this
        omega
    intro k hk
    have h1 := hle (N - (k + 1)) (k + 1) (by omega)
    rw [preC, List.length_append] at h1 ⊢
    exact ⟨by omega, rfl⟩
  have HCELL := Aside0.mk hcell
  have HCC := Aside0.mk hC
  have HMO := Aside0.mk hmono
  have HLL := Aside0.mk hl
  have HNN0 := Aside0.mk hN
  clear hcell hC hmono hl
  go_enter Try.func35, Try.ntmps35
  go_wp2
  go_loop [3, 11] (fun v3 v11 => ∃ k : Nat, k ≤ N ∧ v11 = .int .i64 k ∧ v3 = .int .i64 ((preC L k).length : Int)) (fun _ v11 => N - (intOf v11).toNat)
  case atStart => exact ⟨0, by omega, rfl, rfl⟩
  case round =>
    obtain ⟨k, hk, rfl, rfl⟩ := hrel
    by_cases hlt : k < N
    · have hd : decide ((k : Int) < (N : Int)) = true := decide_eq_true (by omega)
      have hd2 : decide (k < N) = true := decide_eq_true hlt
      have hc := HCELL.out k hlt
      obtain ⟨hm1, hm2⟩ := HMO.out k hlt
      have HM2 := Aside0.mk hm2
      have hN := HNN0.out
      have p1 := eq_true (show (0 : Int) ≤ (k : Int) by omega)
      have q1 := eq_true (show (k : Int) < (N : Int) by omega)
      have q2 := eq_true hlt
      have hneg : decide (((preC L k).length : Int) + ((L k).length : Int) < 0) = false := decide_eq_false (by omega)
      obtain ⟨a, ha⟩ : ∃ a, (preC L k).length = a := ⟨_, rfl⟩
      obtain ⟨b, hb⟩ : ∃ b, (L k).length = b := ⟨_, rfl⟩
      rw [ha, hb] at hm1 hneg
      rw [ha, hb] at HM2
      rw [hb] at hc
      rw [ha]
      clear hm2 ha hb
      go_wp2
      go_round
      case rel => exact ⟨k + 1, by omega, by go_num, by rw [HM2.out]; go_num⟩
      case measure => simp [intOf]; omega
    · have hd : decide ((k : Int) < (N : Int)) = false := decide_eq_false (by omega)
      have hd2 : decide (k < N) = false := decide_eq_false hlt
      obtain rfl : N = k := by omega
      have hn := HLL.out
      obtain ⟨n, hnn⟩ : ∃ n, (preC L N).length = n := ⟨_, rfl⟩
      have HNN := Aside0.mk hnn
      rw [hnn] at hn ⊢
      clear hnn
      go_wp2_with (go_at_call 42; refine (grow_calls n w (by omega)).mono ?_; rintro e w1 ⟨v6, rfl, ho, hb⟩; have HO := Aside0.mk ho; have HB := Aside0.mk hb; clear ho hb)
      clear hd hd2 hn hlt
      go_loopw [6, 27] (fun v6 v27 wr => ∃ k : Nat, k ≤ N ∧ v27 = .int .i64 k ∧ Aside0 (Own wr w.heap.size v6 (preC L k)) ∧ Aside0 (Below w.heap.size w wr)) (fun _ v27 _ => N - (intOf v27).toNat)
      case atStart => exact ⟨0, by omega, rfl, HO, HB⟩
      case round =>
        clear HO HB
        obtain ⟨k, hk, rfl, HO, HB⟩ := hrel
        by_cases hlt : k < N
        · have hd : decide ((k : Int) < (N : Int)) = true := decide_eq_true (by omega)
          have hd2 : decide (k < N) = true := decide_eq_true hlt
          have hc := (HB.out.cell (World.block_lt_of_cell? _ _ (HCELL.out k hlt))).trans (HCELL.out k hlt)
          have hC := Kd.C_below (HCC.out k hlt) HB.out
          obtain ⟨hm1, hm2⟩ := HMO.out k hlt
          have hN := HNN0.out
          have p1 := eq_true (show (0 : Int) ≤ (k : Int) by omega)
          have q1 := eq_true (show (k : Int) < (N : Int) by omega)
          have q2 := eq_true hlt
          obtain ⟨v', w', hrun, ho, hg⟩ := app_run (c := CC k) HO.out hC (by omega) HB.out.size 22
          have HO2 := Aside0.mk ho
          have HOO := Aside0.mk HO.out
          have HB2 := Aside0.mk (HB.out.grown hg HB.out.size (by intro j hj; exact own_base HOO.out j hj))
          clear ho hg hC hm1 hm2 HOO
          go_wp2_with (at_builtin; refine Lib.wpList_append_run _ rfl _ _ 22 22 rfl _ _ rfl rfl v' w' hrun ?_)
          go_roundw
          case rel => exact ⟨k + 1, by omega, by go_num, HO2, HB2⟩
          case measure => simp [intOf]; omega
        · have hd : decide ((k : Int) < (N : Int)) = false := decide_eq_false (by omega)
          have hd2 : decide (k < N) = false := decide_eq_false hlt
          obtain rfl : N = k := by omega
          go_wp2
          go_ret
          exact ⟨_, rfl, HO.out, HB.out⟩
theorem preC_take (l : List (List S38)) : ∀ k, k ≤ l.length → preC (fun j => l.getD j []) k = (l.take k).flatten
  | 0, _ => by simp [preC]
  | k + 1, h => by
    rw [preC, preC_take l k (by omega), List.take_succ_eq_append_getElem (by omega), List.flatten_append]
    simp [List.getD_eq_getElem?_getD, List.getElem?_eq_getElem (show k < l.length by omega)]
def api_Field_35.f (l0 : List (List S38)) : Option (List S38) := if 0 < l0.length ∧ l0.length ≤ 10000 ∧ l0.flatten.length ≤ 10000 then some l0.flatten else none
theorem api_Field_35.calls (A0 : Option Addr) (c0 : Nat) (l0 : List (List S38)) (r : List S38) (w : World) (hr0 : Kd.C (Kd.slice 38 k38) w A0 l0.length l0) (hc0 : l0.length ≤ c0) (h : api_Field_35.f l0 = some r) :
    Calls Try.prog 35 #[.slice A0 l0.length c0] w fun e w' => ∃ v0_ : Value, e = .returned (v0_) ∧ Kd.R k38 38 w' w.heap.size (fun _ => True) v0_ r ∧ Below w.heap.size w w' := by
  unfold api_Field_35.f at h
  by_cases hl : 0 < l0.length ∧ l0.length ≤ 10000 ∧ l0.flatten.length ≤ 10000
  case neg => rw [if_neg hl] at h; cases h
  rw [if_pos hl] at h
  obtain rfl := Option.some.inj h
  obtain ⟨ad, rfl, hall⟩ := hr0.2.2 hl.1
  have hj : ∀ j, ∃ p : Option Addr × Nat, j < l0.length → w.cell? (ad.add j) = some (.slice p.1 (l0.getD j []).length p.2) ∧ Kd.C k38 w p.1 (l0.getD j []).length (l0.getD j []) := by
    intro j
    by_cases hlt : j < l0.length
    · obtain ⟨cs, hcs, hK, hcell⟩ := hall j l0[j] (List.getElem?_eq_getElem hlt)
      obtain ⟨A, c, rfl, hlc, hC⟩ := hK
      refine ⟨(A, c), fun _ => ?_⟩
      have hg : l0.getD j [] = l0[j] := by rw [List.getD_eq_getElem?_getD, List.getElem?_eq_getElem hlt]; rfl
      rw [hg]
      have := hcell 0 _ rfl
      rw [show j * (Kd.slice 38 k38).sz + 0 = j from by show j * 1 + 0 = j; omega] at this
      exact ⟨this, hC⟩
    · exact ⟨(none, 0), fun h => absurd h hlt⟩
  obtain ⟨F, hF⟩ := Classical.axiomOfChoice hj
  have hpre : preC (fun j => l0.getD j []) l0.length = l0.flatten := by rw [preC_take l0 _ (Nat.le_refl _), List.take_length]
  have := concat_calls l0.length ad (fun j => l0.getD j []) (fun j => (F j).1) (fun j => (F j).2) w (fun j h => (hF j h).1) (fun j h => (hF j h).2) c0 (by rw [hpre]; exact hl.2.2) hl.2.1
  exact this.mono fun e w' ⟨v, he, ho, hb⟩ => ⟨v, he, by rw [← hpre]; exact ho.toR, hb⟩
end Go.Proofs.Ytdlcihbfdbdbbaa.P
