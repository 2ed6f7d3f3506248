/- prefix.Words: the words of lengths (arrays count, next), in the printer's form: the walk. -/
import Derived.Test.YtlfcepdaicngjaaArr
import Derived.Test.YtlfcepdaicngjaaPx1
namespace Go.Proofs.Ytlfcepdaicngjaa.P
set_option linter.unusedVariables false
set_option linter.unusedSimpArgs false
open Go Go.RowKit Go.Proofs.Ytlfcepdaicngjaa.Ar Go.Proofs.YtlfcepdaicngjaaW.PrintWords Go.Proofs.YtlfcepdaicngjaaW.PrintLast Go.Proofs.YtlfcepdaicngjaaW.PrintMore
def zeros17 : List Int := List.replicate 17 0
def cntW (l : List Int) : List Int := l.foldl (fun xs x => xs.set x.toNat ((xs.getD x.toNat 0 + 1) % 4294967296)) zeros17
def nextW (c : List Int) : Nat → List Int
  | 0 => zeros17
  | m + 1 => (nextW c m).set (m + 2) ((((nextW c m).getD (m + 1) 0 + c.getD (m + 1) 0) % 4294967296 * 2) % 4294967296)
def stepW (p : List Int × List Int) (x : Int) : List Int × List Int := if x > 0 then (p.1.set x.toNat ((p.1.getD x.toNat 0 + 1) % 4294967296), p.2 ++ [p.1.getD x.toNat 0]) else (p.1, p.2 ++ [0])
def wordsW (l : List Int) : List Int × List Int := l.foldl stepW (nextW ((cntW l).set 0 0) 15, [])
theorem wordsW_snoc (c : List Int) (l : List Int) (x : Int) : (l ++ [x]).foldl stepW (nextW c 15, []) = stepW (l.foldl stepW (nextW c 15, [])) x := by simp
theorem cntW_snoc (l : List Int) (x : Int) : cntW (l ++ [x]) = (cntW l).set x.toNat (((cntW l).getD x.toNat 0 + 1) % 4294967296) := by simp [cntW]
theorem cntW_len (l : List Int) : (cntW l).length = 17 := by
  have key : ∀ (l xs : List Int), (l.foldl (fun xs x => xs.set x.toNat ((xs.getD x.toNat 0 + 1) % 4294967296)) xs).length = xs.length := by
    intro l
    induction l with
    | nil => intro xs; rfl
    | cons x l ih => intro xs; rw [List.foldl_cons, ih, List.length_set]
  unfold cntW; rw [key]; rfl
theorem nextW_len (c : List Int) : ∀ m, (nextW c m).length = 17
  | 0 => rfl
  | m + 1 => by rw [nextW, List.length_set]; exact nextW_len c m
theorem foldW_len (l : List Int) : ∀ p : List Int × List Int, (l.foldl stepW p).1.length = p.1.length ∧ (l.foldl stepW p).2.length = p.2.length + l.length := by
  induction l with
  | nil => intro p; exact ⟨rfl, rfl⟩
  | cons x l ih =>
    intro p
    rw [List.foldl_cons, (ih _).1, (ih _).2]
    unfold stepW
    split
    · simp; omega
    · simp; omega
def okW (l : List Int) : Bool := decide (l.length ≤ 4096) && l.all (fun x => decide (0 ≤ x) && decide (x ≤ 15))
def prefix_Words.f (l0 : List Int) : Option (List Int × Int) := (prefix_Fill.f 5000 l0).bind fun b => if b.2 = 0 then (if b.1 > 32768 then some ([], 10) else (if okW l0 = true then some ((wordsW l0).2, 0) else none)) else some ([], b.2)
theorem info60W : (Try.prog.info? 60).map (fun i => (i.zero, i.size, i.bytes)) = some (some (.int .u32 0), 1, 4) := by kernel_rfl
theorem set_rep (a : List Int) (k : Nat) (v : Int) : (a ++ List.replicate (k + 1) 0).set a.length v = a ++ [v] ++ List.replicate k 0 := by
  rw [List.set_append_right _ _ (Nat.le_refl _), Nat.sub_self, List.replicate_succ, List.set_cons_zero]; simp
theorem zero83 : (#[.int .u32 0, .int .u32 0, .int .u32 0, .int .u32 0, .int .u32 0, .int .u32 0, .int .u32 0, .int .u32 0, .int .u32 0, .int .u32 0, .int .u32 0, .int .u32 0, .int .u32 0, .int .u32 0, .int .u32 0, .int .u32 0, .int .u32 0] : Array Value) = (ints .u32 zeros17).toArray := by kernel_rfl
set_option maxHeartbeats 4000000 in
set_option maxRecDepth 100000 in
theorem prefix_Words.calls (A0 : Option Addr) (c0 : Nat) (l0 : List Int) (r1 : List Int) (r2 : Int) (w : World) (hr0 : Kd.C (Kd.int .u8) w A0 l0.length l0) (hc0 : l0.length ≤ c0) (h : prefix_Words.f l0 = some (r1, r2)) :
    Calls Try.prog 21 #[.slice A0 l0.length c0] w fun e w' => ∃ v0_ : Value, e = .returned (.tuple #[v0_, .int .i64 r2]) ∧ Kd.R (Kd.int .u32) 60 w' w.heap.size (fun _ => True) v0_ r1 ∧ Below w.heap.size w w' := by
  unfold prefix_Words.f at h
  obtain ⟨⟨n, e⟩, hF, h⟩ := Option.bind_eq_some_iff.1 h
  replace h : (if e = 0 then (if n > 32768 then some (([] : List Int), (10 : Int)) else (if okW l0 = true then some ((wordsW l0).2, 0) else none)) else some ([], e)) = some (r1, r2) := h
  have HF := Aside0.mk hF
  have HR := Aside0.mk hr0
  have HC := Aside0.mk hc0
  clear hF hr0 hc0
  by_cases he : e = 0
  case neg =>
    rw [if_neg he] at h
    have hb : (e != 0) = true := bne_iff_ne.mpr he
    clear he
    simp only [Option.some.injEq, Prod.mk.injEq] at h
    obtain ⟨rfl, rfl⟩ := h
    go_enter Try.func21, Try.ntmps21
    go_wp2_with (go_at_call 22; refine (prefix_Fill.calls 5000 _ _ l0 _ _ _ HR.out HC.out HF.out).mono ?_; rintro e w' ⟨rfl, ⟨nd, rfl⟩⟩)
    go_ret2
    exact ⟨_, rfl, Kd.R_nil _ _ _ _ _, pw_below_drewN (Below.refl _ _) _⟩
  rw [if_pos he] at h
  subst he
  by_cases hn : n > 32768
  · rw [if_pos hn] at h
    have hb : decide (32768 < n) = true := decide_eq_true hn
    clear hn
    simp only [Option.some.injEq, Prod.mk.injEq] at h
    obtain ⟨rfl, rfl⟩ := h
    go_enter Try.func21, Try.ntmps21
    go_wp2_with (go_at_call 22; refine (prefix_Fill.calls 5000 _ _ l0 _ _ _ HR.out HC.out HF.out).mono ?_; rintro e w' ⟨rfl, ⟨nd, rfl⟩⟩)
    go_ret2
    exact ⟨_, rfl, Kd.R_nil _ _ _ _ _, pw_below_drewN (Below.refl _ _) _⟩
  rw [if_neg hn] at h
  have hb : decide (32768 < n) = false := decide_eq_false hn
  clear hn
  by_cases hok : okW l0 = true
  case neg => rw [if_neg hok] at h; cases h
  rw [if_pos hok] at h
  simp only [Option.some.injEq, Prod.mk.injEq] at h
  obtain ⟨rfl, rfl⟩ := h
  obtain ⟨hlen, hall⟩ : l0.length ≤ 4096 ∧ ∀ x ∈ l0, 0 ≤ x ∧ x ≤ 15 := by simpa [okW] using hok
  have HALL := Aside0.mk hall
  have HLEN := Aside0.mk hlen
  clear hok hall hlen
  have hz := zero83
  go_enter Try.func21, Try.ntmps21
  go_upto_region 6 with (go_at_call 22; refine (prefix_Fill.calls 5000 _ _ l0 _ _ _ HR.out HC.out HF.out).mono ?_; rintro e w' ⟨rfl, ⟨nd, rfl⟩⟩)
  go_upto_region 7 with (fail)
  have HA := Aside0.mk ((Arr.new (w.drewN nd) 83 .u32 zeros17).alloc (.cells (ints .u32 zeros17).toArray 83))
  have HN := Aside0.mk (Arr.new ((w.drewN nd).alloc (.cells (ints .u32 zeros17).toArray 83)) 83 .u32 zeros17)
  have HB := Aside0.mk (below_alloc (below_alloc (pw_below_drewN (Below.refl w.heap.size w) nd) (.cells (ints .u32 zeros17).toArray 83)) (.cells (ints .u32 zeros17).toArray 83))
  have hs1 : ((w.drewN nd).alloc (.cells (ints .u32 zeros17).toArray 83)).heap.size = w.heap.size + 1 := by simp
  have hs0 : (w.drewN nd).heap.size = w.heap.size := by simp
  rw [hs1] at HN
  rw [hs0] at HA
  generalize ((w.drewN nd).alloc (.cells (ints .u32 zeros17).toArray 83)).alloc (.cells (ints .u32 zeros17).toArray 83) = w2 at HA HN HB ⊢
  clear hs1 hs0 hz h
  obtain ⟨gN, hgN⟩ : ∃ g, w.heap.size + 1 = g := ⟨_, rfl⟩
  rw [hgN] at HN ⊢
  have HG := Aside0.mk hgN
  clear hgN
  have hlen := HLEN.out
  go_wp2
  go_loopw [28] (fun v28 wr => ∃ j : Nat, v28 = .int .i64 j ∧ j ≤ l0.length ∧ Aside0 (Arr wr w.heap.size 83 .u32 (cntW (l0.take j))) ∧ Aside0 (Arr wr gN 83 .u32 zeros17) ∧ Aside0 (Below w.heap.size w wr))
    (fun v _ => l0.length - (intOf v).toNat)
  case atStart => exact ⟨0, rfl, by omega, HA, HN, HB⟩
  case round =>
    clear HA HN HB
    obtain ⟨j, rfl, hj, HA, HN, HB⟩ := hrel
    by_cases hlt : j < l0.length
    · have hd : decide (j < l0.length) = true := decide_eq_true hlt
      obtain ⟨ad, hA, hx⟩ := Kd.at_int HR.out (j : Int) (by omega) (by omega)
      cases hA
      replace hx := (HB.out.cell (World.block_lt_of_cell? w _ hx)).trans hx
      have hg : rd l0 (j : Int) = l0[j] := by unfold rd; rw [List.getD_eq_getElem?_getD, Int.toNat_natCast, List.getElem?_eq_getElem hlt]; rfl
      rw [hg] at hx
      simp only [Int.toNat_natCast] at hx
      have hr := HALL.out _ (List.getElem_mem hlt)
      have hsn : cntW (l0.take (j + 1)) = (cntW (l0.take j)).set l0[j].toNat (((cntW (l0.take j)).getD l0[j].toNat 0 + 1) % 4294967296) := by rw [List.take_succ_eq_append_getElem hlt, cntW_snoc]
      have hl1 := cntW_len (l0.take j)
      obtain ⟨x, hxx⟩ : ∃ x, l0[j] = x := ⟨_, rfl⟩
      rw [hxx] at hx hr hsn
      have HSN := Aside0.mk hsn
      clear hsn hg hxx
      have hcell := HA.out.cell x.toNat (by omega)
      have hfr := HA.out.frozen x.toNat
      have hi1 : decide (0 ≤ x) = true := decide_eq_true (by omega)
      have hi2 : decide (x < 17) = true := decide_eq_true (by omega)
      go_wp2
      have hg := HG.out
      refine ⟨⟨j + 1, by go_num, by omega, ⟨by rw [HSN.out]; exact HA.out.set _ _⟩, ⟨HN.out.far (by simp; omega) _⟩, ⟨below_set HB.out (by omega)⟩⟩, by simp [intOf]; omega⟩
    · have hd : decide (j < l0.length) = false := decide_eq_false hlt
      obtain rfl : j = l0.length := by omega
      rw [List.take_length] at HA
      have hl1 := cntW_len l0
      have hcell := HA.out.cell 0 (by omega)
      have hfr := HA.out.frozen 0
      go_upto_region 13 with (fail)
      have HA2 := Aside0.mk (HA.out.set 0 0)
      have HN2 := Aside0.mk (HN.out.far (p := ⟨w.heap.size, 0, none⟩) (by show gN ≠ w.heap.size; have := HG.out; omega) (.int .u32 0))
      have HB2 := Aside0.mk (show Below w.heap.size w (wr.setCell ⟨w.heap.size, 0, none⟩ (.int .u32 0)) from below_set HB.out (Nat.le_refl _))
      generalize wr.setCell ⟨w.heap.size, 0, none⟩ (.int .u32 0) = w3 at HA2 HN2 HB2 ⊢
      clear HA HN HB hcell hfr
      have hlc : ((cntW l0).set 0 0).length = 17 := by rw [List.length_set]; exact hl1
      obtain ⟨c, hc⟩ : ∃ c, (cntW l0).set 0 0 = c := ⟨_, rfl⟩
      rw [hc] at HA2 hlc
      have HCC := Aside0.mk hc
      clear hc hl1 hd
      go_wp2
      go_loopw [10] (fun v10 wr => ∃ m : Nat, v10 = .int .i64 m ∧ 1 ≤ m ∧ m ≤ 16 ∧ Aside0 (Arr wr w.heap.size 83 .u32 c) ∧ Aside0 (Arr wr gN 83 .u32 (nextW c (m - 1))) ∧ Aside0 (Below w.heap.size w wr))
        (fun v _ => 16 - (intOf v).toNat)
      case atStart => exact ⟨1, rfl, by omega, by omega, HA2, HN2, HB2⟩
      case round =>
        clear HA2 HN2 HB2
        obtain ⟨m, rfl, hm1, hm, HA, HN, HB⟩ := hrel
        have hln := nextW_len c (m - 1)
        by_cases hlt : m ≤ 15
        · have hd : decide (m ≤ 15) = true := decide_eq_true hlt
          have hns : nextW c (m - 1 + 1) = (nextW c (m - 1)).set (m - 1 + 2) ((((nextW c (m - 1)).getD (m - 1 + 1) 0 + c.getD (m - 1 + 1) 0) % 4294967296 * 2) % 4294967296) := nextW.eq_2 _ _
          rw [show m - 1 + 1 = m by omega, show m - 1 + 2 = m + 1 by omega] at hns
          obtain ⟨xs, hxs⟩ : ∃ xs, nextW c (m - 1) = xs := ⟨_, rfl⟩
          rw [hxs] at HN hns hln
          have HNS := Aside0.mk hns
          clear hns hxs
          have hc1 := HA.out.cell m (by omega)
          have hc2 := HN.out.cell m (by omega)
          have hc3 := HN.out.cell (m + 1) (by omega)
          have hf3 := HN.out.frozen (m + 1)
          have hb1 : decide (m < 17) = true := decide_eq_true (by omega)
          have hb2 : decide (m + 1 < 17) = true := decide_eq_true (by omega)
          go_wp2
          go_region
          simp only [List.getD_eq_getElem?_getD] at HNS
          go_wp2
          have hg := HG.out
          refine ⟨⟨m + 1, by go_num, by omega, by omega, ⟨Arr.far (Arr.drewN HA.out 1) (by show w.heap.size ≠ gN; omega) _⟩, ⟨by rw [show m + 1 - 1 = m by omega, HNS.out]; exact Arr.set (Arr.drewN HN.out 1) _ _⟩, ⟨below_set (pw_below_drewN HB.out 1) (by omega)⟩⟩, by simp [intOf]; omega⟩
        · have hd : decide (m ≤ 15) = false := decide_eq_false hlt
          obtain rfl : m = 16 := by omega
          clear HA
          have hi60 := info60W
          have hgl := HN.out.lt
          have HGL := Aside0.mk hgl
          clear hgl
          go_upto_region 18 with ((with_reducible refine gate_dst (N := 56) rfl ?_); refine Kd.R_make (Kd.int .u32) w.heap.size 60 rfl (N := 56) rfl 57 _ _ rfl (l0.length : Int) rfl rfl Try.underlying57 (.int .u32 0) 4 info60W rfl (by decide) (by omega) (0 : Int) (ok := fun k => gN < k) (okp := fun k => gN < k) rfl (fun _ hk => hk) HGL.out (by omega) (by omega) HB.out HB.out.size ?_; intro vo w7 ho hb hgr hnew)
          have HN7 : Aside0 (Arr w7 gN 83 .u32 (nextW c 15)) := ⟨(hgr.block gN HGL.out (by simp)).trans HN.out⟩
          have HO := Aside0.mk ho
          have HB7 := Aside0.mk hb
          clear hgr hnew ho hb HN HB HGL hi60 hln hd
          simp only [Int.toNat_natCast] at HO
          go_wp2
          go_loopw [59] (fun v59 wr => ∃ j : Nat, v59 = .int .i64 j ∧ j ≤ l0.length ∧ Aside0 (Arr wr gN 83 .u32 ((l0.take j).foldl stepW (nextW c 15, [])).1) ∧ Aside0 ((Kd.int .u32).R 60 wr w.heap.size (fun k => gN < k) vo (((l0.take j).foldl stepW (nextW c 15, [])).2 ++ List.replicate (l0.length - j) 0)) ∧ Aside0 (Below w.heap.size w wr))
            (fun v _ => l0.length - (intOf v).toNat)
          case atStart => exact ⟨0, rfl, by omega, HN7, HO, HB7⟩
          case round =>
            clear HN7 HO HB7
            obtain ⟨j, rfl, hj, HN, HO, HB⟩ := hrel
            have hfl := foldW_len (l0.take j) (nextW c 15, [])
            have hl1 : ((l0.take j).foldl stepW (nextW c 15, [])).1.length = 17 := hfl.1.trans (nextW_len c 15)
            have hl2 : ((l0.take j).foldl stepW (nextW c 15, [])).2.length = j := by rw [hfl.2, List.length_take]; simp; omega
            clear hfl
            by_cases hlt : j < l0.length
            · have hd : decide (j < l0.length) = true := decide_eq_true hlt
              obtain ⟨ad, hA, hx⟩ := Kd.at_int HR.out (j : Int) (by omega) (by omega)
              cases hA
              replace hx := (HB.out.cell (World.block_lt_of_cell? w _ hx)).trans hx
              have hg : rd l0 (j : Int) = l0[j] := by unfold rd; rw [List.getD_eq_getElem?_getD, Int.toNat_natCast, List.getElem?_eq_getElem hlt]; rfl
              rw [hg] at hx
              simp only [Int.toNat_natCast] at hx
              have hr := HALL.out _ (List.getElem_mem hlt)
              have hsn : (l0.take (j + 1)).foldl stepW (nextW c 15, []) = stepW ((l0.take j).foldl stepW (nextW c 15, [])) l0[j] := by rw [List.take_succ_eq_append_getElem hlt, wordsW_snoc]
              obtain ⟨p, hp⟩ : ∃ p, (l0.take j).foldl stepW (nextW c 15, []) = p := ⟨_, rfl⟩
              obtain ⟨x, hxx⟩ : ∃ x, l0[j] = x := ⟨_, rfl⟩
              rw [hp] at HN HO hsn hl1 hl2
              rw [hxx] at hx hr hsn
              have HSN := Aside0.mk hsn
              clear hsn hg hxx hp
              obtain ⟨k, hk⟩ : ∃ k, l0.length - j = k + 1 := ⟨l0.length - j - 1, by omega⟩
              rw [hk] at HO
              have hk2 : l0.length - (j + 1) = k := by omega
              have HK := Aside0.mk hk2
              clear hk hk2
              by_cases hz : x > 0
              · have hst : stepW p x = (p.1.set x.toNat ((p.1.getD x.toNat 0 + 1) % 4294967296), p.2 ++ [p.1.getD x.toNat 0]) := by unfold stepW; rw [if_pos hz]
                rw [hst] at HSN
                have hzb : decide (0 < x) = true := decide_eq_true hz
                have hset := set_rep p.2 k (p.1.getD x.toNat 0)
                rw [hl2] at hset
                obtain ⟨os, hos⟩ : ∃ os, p.2 ++ List.replicate (k + 1) 0 = os := ⟨_, rfl⟩
                have hlo : os.length = l0.length := by rw [← hos, List.length_append, List.length_replicate, hl2]; have := HK.out; omega
                rw [hos] at HO hset
                have HSET := Aside0.mk hset
                clear hos hset hst
                obtain ⟨go, co, eo, gb, gl, cl, hgo⟩ := Kd.R_form HO.out (by omega)
                rw [hlo] at eo
                subst eo
                have hgN : gN < go := HO.out.1 go rfl
                have HGO := Aside0.mk hgN
                have HGB := Aside0.mk gb
                clear gb gl hgo
                obtain ⟨hc3, hf3⟩ := Kd.R_celln (0 : Int) HO.out (j : Int) (by omega) (by omega)
                simp only [Int.toNat_natCast] at hc3 hf3
                have hcell := HN.out.cell x.toNat (by omega)
                have hfr := HN.out.frozen x.toNat
                have hi1 : decide (0 ≤ x) = true := decide_eq_true (by omega)
                have hi2 : decide (x < 17) = true := decide_eq_true (by omega)
                have hne : gN ≠ go := by omega
                have hne2 : go ≠ gN := by omega
                clear hgN
                go_wp2
                simp only [List.getD_eq_getElem?_getD] at HSN HSET
                have hgb := HGB.out
                have hh := HG.out
                have ho1 := Kd.R_putn HO.out (j : Int) (p.1[x.toNat]?.getD 0)
                simp only [Int.toNat_natCast] at ho1
                rw [HSET.out] at ho1
                have ho2 := Kd.R_far ho1 (p := ⟨gN, x.toNat, none⟩) (fun k hk => by show k ≠ gN; omega) (.int .u32 ((p.1[x.toNat]?.getD 0 + 1) % 4294967296))
                refine ⟨⟨j + 1, by go_num, by omega, ⟨by rw [HSN.out]; exact Arr.set (Arr.far HN.out (by show gN ≠ go; omega) _) _ _⟩, ⟨by rw [HSN.out, HK.out]; exact ho2⟩, ⟨below_set (below_set HB.out (by omega)) (by omega)⟩⟩, by simp [intOf]; omega⟩
              · obtain rfl : x = 0 := by omega
                have hst : stepW p 0 = (p.1, p.2 ++ [0]) := by unfold stepW; rw [if_neg (by omega)]
                rw [hst] at HSN
                go_wp2
                go_roundw
                case rel => exact ⟨j + 1, by go_num, by omega, by rw [HSN.out]; exact HN, by rw [HSN.out, HK.out, List.append_assoc]; exact HO, HB⟩
                case measure => simp [intOf]; omega
            · have hd : decide (j < l0.length) = false := decide_eq_false hlt
              obtain rfl : j = l0.length := by omega
              rw [List.take_length, Nat.sub_self, List.replicate_zero, List.append_nil, ← HCC.out] at HO
              go_wp2
              go_ret2
              exact ⟨_, rfl, Kd.R_mono HO.out (fun _ _ => trivial), HB.out⟩
end Go.Proofs.Ytlfcepdaicngjaa.P
