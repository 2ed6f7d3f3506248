/- (*finder).best and (*finder).find: the walk of the tokens. Printed by genfind.py. -/
import Derived.Test.YtgpmhdefpbmhjaaBest
import Derived.Test.YtgpmhdefpbmhjaaPx6
namespace Go.Proofs.Ytgpmhdefpbmhjaa.Fi
set_option linter.unusedVariables false
set_option linter.unusedSimpArgs false
open Go Go.RowKit Go.Proofs.Ytgpmhdefpbmhjaa.P Go.Proofs.Ytgpmhdefpbmhjaa.B Go.Proofs.Ytgpmhdefpbmhjaa.D7 Go.Proofs.Ytgpmhdefpbmhjaa.Ch Go.Proofs.Ytgpmhdefpbmhjaa.MapG Go.Proofs.Ytgpmhdefpbmhjaa.MapV Go.Proofs.YtgpmhdefpbmhjaaW.PrintWords Go.Proofs.YtgpmhdefpbmhjaaW.PrintLast Go.Proofs.YtgpmhdefpbmhjaaW.PrintMore
theorem best_calls (F bc bs base : Nat) (s : ByteArray) (e : S53) (p : Nat) (w : World) (hs : s.size ≤ 1048576) (hp : p ≤ s.size + 1) (he : 0 ≤ e.f0 ∧ e.f0 ≤ 5000) (hF : Fin w F bc bs base s e.f0 e.f1 e.f2 p) :
    Calls Try.prog 21 #[.pointer (some ⟨F, 0, none⟩), .int .i64 (p : Int)] w fun e' w' => e' = .returned (.tuple #[.int .i64 (bestL s e p).1, .int .i64 (bestL s e p).2]) ∧ Below w.heap.size w w' := by
  by_cases h3 : s.size < p + 3
  · have hb : bestL s e p = (0, 0) := by unfold bestL; rw [if_pos h3]
    rw [hb]
    exact best_short F bc bs base s e.f0 e.f1 e.f2 p w (by omega) hs hF h3
  obtain ⟨ch, hch⟩ : ∃ ch : Nat, e.f0 = (ch : Int) := ⟨e.f0.toNat, by omega⟩
  obtain ⟨x, hx⟩ : ∃ x : Int, ((tri s p).1.toNat : Int) = x := ⟨_, rfl⟩
  obtain ⟨y, hy⟩ : ∃ x : Int, ((tri s p).2.1.toNat : Int) = x := ⟨_, rfl⟩
  obtain ⟨z, hz⟩ : ∃ x : Int, ((tri s p).2.2.toNat : Int) = x := ⟨_, rfl⟩
  have hX : encT (tri s p) = .agg #[.int .u8 x, .int .u8 y, .int .u8 z] := by unfold encT; rw [hx, hy, hz]
  obtain ⟨v, hrun, hri⟩ := lookup_any keyed Try.underlying37 zeroM encT_inj key_ok hF.chains (tri s p)
  obtain ⟨ht, hcl⟩ := chain_take s hs (tri s p) p
  have hbl : bestL s e p = bestGo s p e.f1 (lastOf (posL s (tri s p) p) e.f0) 0 0 := by unfold bestL; rw [if_neg h3]
  obtain ⟨zs, hzs⟩ : ∃ zs, getL (chL s (places s)) (tri s p) = zs := ⟨_, rfl⟩
  rw [hzs] at hri ht hcl
  have hF' := hF
  rw [hch] at hF' hbl
  obtain ⟨c, hc⟩ : ∃ c, cnt s (tri s p) p = c := ⟨_, rfl⟩
  rw [hc] at ht hcl
  have hcl0 := posL_len s (tri s p) p
  have hri0 := hri
  rcases hri.2 with ⟨rfl, h0⟩ | ⟨g, cap, cur, rfl, hbase, hheap, hle, hmax, hcur, htake⟩
  · have hc0 : c = 0 := by omega
    have hn : posL s (tri s p) p = [] := List.length_eq_zero_iff.1 (by omega)
    rw [hbl, hn, show bestGo s p e.f1 (lastOf [] (ch : Int)) 0 0 = (0, 0) by simp [lastOf, bestGo]]
    exact best_none F bc bs base s _ e.f1 e.f2 p w (by omega) hs (by omega) hF' (by omega) x y z hX c hc hc0 hrun
  · obtain ⟨rl, rd, hR⟩ : ∃ rl rd, bestGo s p e.f1 (lastOf (posL s (tri s p) p) (ch : Int)) 0 0 = (rl, rd) := ⟨_, _, rfl⟩
    rw [hbl, hR]
    refine best_some F bc bs base s _ e.f1 e.f2 p w (by omega) hs (by omega) hF' (by omega) x y z hX c hc zs.length cap g (posL s (tri s p) p) rfl ⟨hcl, hle, hmax⟩ (own_lt hri0 g rfl) (fun j hj => ?_) rl rd hR hrun
    have hj2 : j < zs.length := by omega
    have := World.ownsRow.cells hri0 (g := g) rfl j (.int .i64 zs[j]) (by simp [hj2])
    rw [add_plain] at this
    rw [this]
    congr 2
    simp only [← ht]
    rw [List.getElem_take]
theorem OwnsG.grown_map {P : Program} {κ : Type} [DecidableEq κ] {enc : κ → Value} {k : TypeId} {w w1 : World} {b base bs : Nat} {L : List (κ × List Int)} {g : κ → Option Value} {κ' : Type} [DecidableEq κ'] {enc' : κ' → Value} {g' : κ' → Option Value} (h : OwnsG P k enc w b base L) (hg : w.grownBy w1 (some bs)) (hs : OwnsV enc' w bs g') (hb : b ≠ bs) : OwnsG P k enc w1 b base L := by
  obtain ⟨es, clock, hm, h1, h2, h3, h4, h5, h6, h7⟩ := h
  have hlt : b < w.heap.size := (Array.getElem?_eq_some_iff.1 hm).1
  obtain ⟨es', clock', hm', _⟩ := hs
  refine ⟨es, clock, (hg.block b hlt (by simpa using hb)).trans hm, h1, h2, h3, h4, h5, fun j x p hx hp => ?_, h7⟩
  have hr := h6 j x p hx hp
  refine RI_move hr (fun q hq => hg.block q (own_lt hr q hq) ?_)
  intro he
  injection he with he
  obtain ⟨cells, hcell⟩ := own_typed hr q hq
  rw [he, hm'] at hcell
  cases hcell
theorem Fin.later {w w1 : World} {F bc bs base : Nat} {s : ByteArray} {ch gd : Int} {lz : Bool} {n m : Nat} (h : Fin w F bc bs base s ch gd lz n) (hb : bc ≠ bs) (hg : w.grownBy w1 (some bs)) (ho : OwnsV encT w1 bs (seenG s m)) : Fin w1 F bc bs base s ch gd lz m := by
  refine ⟨blk_grown h.blk hg ?_, OwnsG.grown_map (g := fun _ => none) h.chains hg h.seen hb, ho⟩
  intro e
  injection e with e
  obtain ⟨es, clock, hm, _⟩ := h.seen
  have hk := h.blk
  rw [e, hm] at hk
  cases hk
theorem infoTok : (Try.prog.info? 25).map (fun i => (i.zero, i.size, i.bytes)) = some (some (.agg #[(.int .u8 0), (.int .i64 0), (.int .i64 0)]), k25.sz, 24) := by kernel_rfl
theorem grown_low {w0 W w1 : World} {row : Option Nat} (h : w0.grownBy W row) (k : Below w0.heap.size W w1) : w0.grownBy w1 row :=
  ⟨k.os.trans h.os, k.tape.trans h.tape, k.output.trans h.output, Nat.le_trans h.size k.size, fun i hi hne => (k.block i hi).trans (h.block i hi hne)⟩
theorem OwnsV.low {κ : Type} [DecidableEq κ] {enc : κ → Value} {W w1 : World} {B b : Nat} {g : κ → Option Value} (h : OwnsV enc W b g) (hb : b < B) (k : Below B W w1) : OwnsV enc w1 b g := h.move (k.block b hb)
set_option maxHeartbeats 16000000 in
set_option maxRecDepth 100000 in
theorem find_calls (F bc bs base : Nat) (s : ByteArray) (e : S53) (w : World) (hs : s.size ≤ 1048576) (he : 0 ≤ e.f0 ∧ e.f0 ≤ 5000) (hF : Fin w F bc bs base s e.f0 e.f1 e.f2 0) (hbb : bc ≠ bs) :
    Calls Try.prog 20 #[.pointer (some ⟨F, 0, none⟩)] w fun e' w' => ∃ v, e' = .returned v ∧ Kd.R k25 25 w' w.heap.size (fun _ => True) v (findGo s e (s.size + 1) 0 []) ∧ w.grownBy w' (some bs) := by
  obtain ⟨RL, hRL⟩ : ∃ RL, findGo s e (s.size + 1) 0 [] = RL := ⟨_, rfl⟩
  rw [hRL]
  have hbs : bs < w.heap.size := hF.seen.lt
  have HG0 := Aside0.mk hRL
  have HF0 := Aside0.mk hF
  have HV0 := Aside0.mk hF.seen
  have HE := Aside0.mk he
  have HBB := Aside0.mk hbb
  have HR0 := Aside0.mk (Kd.R_nil k25 25 w w.heap.size (fun k => k ≠ bs))
  have HW0 := Aside0.mk (grown_of_below (Below.refl w.heap.size w) (some bs))
  clear hRL hF he hbb
  go_enter Try.func20, Try.ntmps20
  go_wp2
  go_loopw [3, 4] (fun v3 v4 wr => ∃ (kq p : Nat) (out : List S25), v4 = .int .i64 p ∧ p ≤ s.size ∧ out.length ≤ p ∧ s.size < kq + p ∧ Aside0 (findGo s e kq p out = RL) ∧ Aside0 (Kd.R k25 25 wr w.heap.size (fun k => k ≠ bs) v3 out) ∧ Aside0 (w.grownBy wr (some bs)) ∧ Aside0 (OwnsV encT wr bs (seenG s p)))
    (fun _ v4 _ => s.size - (intOf v4).toNat)
  case atStart => exact ⟨s.size + 1, 0, [], rfl, Nat.zero_le _, Nat.le_refl _, by omega, HG0, HR0, HW0, HV0⟩
  case round =>
    clear HG0 HR0 HW0 HV0
    obtain ⟨kq, p, out, rfl, hp, hlen, hkq, HG, HR, HW, HV⟩ := hrel
    have HFR := Aside0.mk (HF0.out.later HBB.out HW.out HV.out)
    have hc0 := blk_cell HFR.out.blk 0
    by_cases hlt : p < s.size
    · obtain ⟨kp, rfl⟩ : ∃ kp, kq = kp + 1 := ⟨kq - 1, by omega⟩
      have dlt : decide ((p : Int) < (s.size : Int)) = true := decide_eq_true (by omega)
      have dltn : decide (p < s.size) = true := decide_eq_true hlt
      have hg := HG.out
      rw [findGo, if_pos hlt] at hg
      have hfine := bestL_fine s e p hp
      have HBC := Aside0.mk (best_calls F bc bs base s e p wr hs (by omega) HE.out HFR.out)
      obtain ⟨l, hl⟩ : ∃ l, (bestL s e p).1 = l := ⟨_, rfl⟩
      obtain ⟨d, hd⟩ : ∃ d, (bestL s e p).2 = d := ⟨_, rfl⟩
      have htk : takeL s e p = if e.f2 = true ∧ 3 ≤ l ∧ l < e.f1 ∧ l < (bestL s e (p + 1)).1 then 0 else l := by unfold takeL; rw [hl]
      obtain ⟨nx, hnx⟩ : ∃ nx, (bestL s e (p + 1)).1 = nx := ⟨_, rfl⟩
      obtain ⟨nd, hnd⟩ : ∃ nd, (bestL s e (p + 1)).2 = nd := ⟨_, rfl⟩
      rw [hnx] at htk
      rw [hd] at hg
      have hbo := HBC.out
      rw [hl, hd] at hbo hfine
      have HB := Aside0.mk hbo
      have HNX := Aside0.mk (And.intro hnx hnd)
      obtain ⟨hf0, hf1, hf2, _⟩ := hfine
      have HTK := Aside0.mk htk
      have HGG := Aside0.mk hg
      clear hg hbo HBC hl hd hnx hnd htk HG
      obtain ⟨ch, gd, lz⟩ := e
      simp only at *
      have hc1 := blk_cell HFR.out.blk 2
      have hc2 := blk_cell HFR.out.blk 3
      go_upto_region 5 with (go_at_call 21; (with_reducible refine (HB.out).mono ?_); rintro e' w1 ⟨rfl, hb⟩; have HR1 := Aside0.mk (Kd.R_below HR.out hb); have HF1 := Aside0.mk (HFR.out.below hb); have HW1 := Aside0.mk (grown_then HW.out (grown_of_below hb (some bs))); clear hb)
      go_upto_region 6 with (go_at_call 22; (with_reducible refine (pass_calls F bs s p _ _ _ _ _ hs (by omega) HF1.out.blk HF1.out.seen).mono ?_); rintro e' w2 ⟨rfl, hgr, hown⟩; have HR2 := Aside0.mk (Kd.R_grown HR1.out hgr (fun k hk q => hk (by injection q))); have HW2 := Aside0.mk (grown_then HW1.out hgr); have HV2 := Aside0.mk hown; clear hgr hown)
      have HF2 := Aside0.mk (HF0.out.later HBB.out HW2.out HV2.out)
      have hd1 := blk_cell HF2.out.blk 2
      have hd2 := blk_cell HF2.out.blk 3
      clear HR HFR HW HV HB HR1 HF1 HW1 hc0 hc1 hc2
      by_cases h3 : 3 ≤ l
      · have d3 : decide ((3 : Int) ≤ l) = true := decide_eq_true h3
        have e3 : decide (l < 3) = false := decide_eq_false (by omega)
        cases lz with
        | true =>
          by_cases hg : l < gd
          · have dg : decide (l < gd) = true := decide_eq_true hg
            have HBN := Aside0.mk (best_calls F bc bs base s ⟨ch, gd, true⟩ (p + 1) w2 hs (by omega) HE.out HF2.out)
            have hbn := HBN.out
            rw [HNX.out.1, HNX.out.2, show (((p + 1 : Nat)) : Int) = (p : Int) + 1 by omega] at hbn
            have HBO := Aside0.mk hbn
            clear hbn HBN
            go_upto_region 8 with (go_at_call 21; (with_reducible refine (HBO.out).mono ?_); rintro e' w3 ⟨rfl, hb⟩; have HR3 := Aside0.mk (Kd.R_below HR2.out hb); have HW3 := Aside0.mk (grown_then HW2.out (grown_of_below hb (some bs))); have HV3 := Aside0.mk (HV2.out.below hb); have HF3 := Aside0.mk (HF2.out.below hb); clear hb)
            by_cases hn : l < nx
            · have dn : decide (l < nx) = true := decide_eq_true hn
              have hgz := HGG.out
              have htv := HTK.out.trans (if_pos ⟨by first | exact rfl | trivial, h3, hg, hn⟩)
              rw [htv, if_pos (show (0 : Int) < 3 by decide)] at hgz
              clear htv
              have HG3 := Aside0.mk hgz
              clear hgz HGG HTK
              have q0 := eq_true (show (0 : Int) ≤ (p : Int) by omega)
              have q1 := eq_true (show (p : Int) < (s.size : Int) by omega)
              have hx0 : ∀ h : p < s.size, ((s[p]'h).toNat : Int) = bt s p := fun h => bt_at s p h
              have hd0 := blk_cell HF3.out.blk 0
              obtain ⟨b, hb⟩ : ∃ b, bt s (p : Int) = b := ⟨_, rfl⟩
              rw [hb] at hx0
              have hg3 := HG3.out
              rw [hb] at hg3
              have HG4 := Aside0.mk hg3
              clear hb hg3 HG3
              obtain ⟨o2, ho2⟩ : ∃ o2, out ++ [(⟨b, 0, 0⟩ : S25)] = o2 := ⟨_, rfl⟩
              have hg4 := HG4.out
              rw [ho2] at hg4
              have HG5 := Aside0.mk hg4
              have HO2 := Aside0.mk ho2
              have hlen2 : o2.length = out.length + 1 := by rw [← ho2]; simp
              have HLEN := Aside0.mk hlen2
              clear hg4 HG4 ho2 hlen2
              go_wp2_with ((with_reducible refine gate_builtin (b := .append) (xs := #[.tmp 56, .tmp 64]) rfl ?_); at_builtin; refine Kd.R_append k25 (w0 := w3) w.heap.size rfl (.tmp 56) (.tmp 64) 22 25 (.agg #[(.int .u8 0), (.int .i64 0), (.int .i64 0)]) 24 rfl Try.underlying22 infoTok rfl (by decide) (by omega) _ out (⟨b, 0, 0⟩ : S25) [.int .u8 b, .int .i64 0, .int .i64 0] (fun k => k ≠ bs) (fun _ => False) rfl (by first | (go_simp; done) | (go_simp; rfl)) ?aP (fun _ hk => hk.elim) ?aF ?aO ?aB ?aS ?aL ?_; (case aP => exact k25_mkM _ _ _ (⟨b, 0, 0⟩ : S25)); (case aB => exact Below.refl _ _); (case aF => exact fun k hk => by have := HW3.out.size; omega); (case aO => exact HR3.out); (case aS => exact HW3.out.size); (case aL => omega); intro v131 w8 ho hb hg hat; rw [HO2.out] at ho; have HR8 := Aside0.mk ho; have HW8 := Aside0.mk (grown_low HW3.out hb); have HV8 := Aside0.mk (OwnsV.low HV3.out hbs hb); clear ho hb hg hat)
              go_roundw
              case rel => exact ⟨kp, p + 1, o2, by go_num, by omega, by have := HLEN.out; omega, by omega, HG5, HR8, HW8, HV8⟩
              case measure => simp [intOf] <;> omega
            · have dn : decide (l < nx) = false := decide_eq_false hn
              have hgz := HGG.out
              have htv := HTK.out.trans (if_neg (fun q => hn q.2.2.2))
              rw [htv, if_neg (show ¬ l < 3 by omega)] at hgz
              clear htv
              have HG3 := Aside0.mk hgz
              clear hgz HGG HTK
              obtain ⟨n, rfl⟩ : ∃ n : Nat, l = (n : Int) := ⟨l.toNat, by omega⟩
              have hg3 := HG3.out
              rw [Int.toNat_natCast] at hg3
              obtain ⟨o2, ho2⟩ : ∃ o2, out ++ [(⟨0, (n : Int), d⟩ : S25)] = o2 := ⟨_, rfl⟩
              rw [ho2] at hg3
              have HG5 := Aside0.mk hg3
              have HO2 := Aside0.mk ho2
              have hlen2 : o2.length = out.length + 1 := by rw [← ho2]; simp
              have HLEN := Aside0.mk hlen2
              clear hg3 HG3 ho2 hlen2
              go_wp2_with ((with_reducible refine gate_builtin (b := .append) (xs := #[.tmp 68, .tmp 72]) rfl ?_); at_builtin; refine Kd.R_append k25 (w0 := w3) w.heap.size rfl (.tmp 68) (.tmp 72) 22 25 (.agg #[(.int .u8 0), (.int .i64 0), (.int .i64 0)]) 24 rfl Try.underlying22 infoTok rfl (by decide) (by omega) _ out (⟨0, (n : Int), d⟩ : S25) [.int .u8 0, .int .i64 n, .int .i64 d] (fun k => k ≠ bs) (fun _ => False) rfl (by first | (go_simp; done) | (go_simp; rfl)) ?aP (fun _ hk => hk.elim) ?aF ?aO ?aB ?aS ?aL ?_; (case aP => exact k25_mkM _ _ _ (⟨0, (n : Int), d⟩ : S25)); (case aB => exact Below.refl _ _); (case aF => exact fun k hk => by have := HW3.out.size; omega); (case aO => exact HR3.out); (case aS => exact HW3.out.size); (case aL => omega); intro v131 w8 ho hb hg hat; rw [HO2.out] at ho; have HR8 := Aside0.mk ho; have HW8 := Aside0.mk (grown_low HW3.out hb); have HV8 := Aside0.mk (OwnsV.low HV3.out hbs hb); clear ho hb hg hat)
              go_loopw [9] (fun v9 wq => ∃ k : Nat, v9 = .int .i64 k ∧ 1 ≤ k ∧ k ≤ n ∧ Aside0 (Kd.R k25 25 wq w.heap.size (fun k => k ≠ bs) v131 o2) ∧ Aside0 (w.grownBy wq (some bs)) ∧ Aside0 (OwnsV encT wq bs (seenG s (p + k))))
                (fun v9 _ => n - (intOf v9).toNat)
              case atStart => exact ⟨1, rfl, by omega, by omega, HR8, HW8, HV8⟩
              case round =>
                clear HR8 HW8 HV8
                obtain ⟨k, rfl, hk1, hkn, HRQ, HWQ, HVQ⟩ := hrel
                have HFQ := Aside0.mk (HF0.out.later HBB.out HWQ.out HVQ.out)
                by_cases hkl : k < n
                · have dk : decide ((k : Int) < (n : Int)) = true := decide_eq_true (by omega)
                  have dkn : decide (k < n) = true := decide_eq_true hkl
                  have hpk : (p : Int) + (k : Int) = ((p + k : Nat) : Int) := by omega
                  have HPK := Aside0.mk (pass_calls F bs s (p + k) _ _ _ _ _ hs (by omega) HFQ.out.blk HFQ.out.seen)
                  have hpo := HPK.out
                  rw [show (((p + k : Nat) : Int)) = (p : Int) + (k : Int) from hpk.symm] at hpo
                  have HPO := Aside0.mk hpo
                  clear hpo HPK hpk
                  go_wp2_with (go_at_call 22; (with_reducible refine (HPO.out).mono ?_); rintro e' wz ⟨rfl, hgr, hown⟩; have HRZ := Aside0.mk (Kd.R_grown HRQ.out hgr (fun k hk q => hk (by injection q))); have HWZ := Aside0.mk (grown_then HWQ.out hgr); have HVZ := Aside0.mk hown; clear hgr hown)
                  go_roundw
                  case rel => exact ⟨k + 1, by go_num, by omega, by omega, HRZ, HWZ, HVZ⟩
                  case measure => simp [intOf] <;> omega
                · have dk : decide ((k : Int) < (n : Int)) = false := decide_eq_false (by omega)
                  have dkn : decide (k < n) = false := decide_eq_false hkl
                  obtain rfl : n = k := by omega
                  go_wp2
                  go_roundw
                  case rel => exact ⟨kp, p + n, o2, by go_num, by omega, by have := HLEN.out; omega, by omega, HG5, HRQ, HWQ, HVQ⟩
                  case measure => simp [intOf] <;> omega
          · have dg : decide (l < gd) = false := decide_eq_false hg
            have hgz := HGG.out
            have htv := HTK.out.trans (if_neg (fun q => hg q.2.2.1))
            rw [htv, if_neg (show ¬ l < 3 by omega)] at hgz
            clear htv
            have HG3 := Aside0.mk hgz
            clear hgz HGG HTK
            obtain ⟨n, rfl⟩ : ∃ n : Nat, l = (n : Int) := ⟨l.toNat, by omega⟩
            have hg3 := HG3.out
            rw [Int.toNat_natCast] at hg3
            obtain ⟨o2, ho2⟩ : ∃ o2, out ++ [(⟨0, (n : Int), d⟩ : S25)] = o2 := ⟨_, rfl⟩
            rw [ho2] at hg3
            have HG5 := Aside0.mk hg3
            have HO2 := Aside0.mk ho2
            have hlen2 : o2.length = out.length + 1 := by rw [← ho2]; simp
            have HLEN := Aside0.mk hlen2
            clear hg3 HG3 ho2 hlen2
            go_wp2_with ((with_reducible refine gate_builtin (b := .append) (xs := #[.tmp 68, .tmp 72]) rfl ?_); at_builtin; refine Kd.R_append k25 (w0 := w2) w.heap.size rfl (.tmp 68) (.tmp 72) 22 25 (.agg #[(.int .u8 0), (.int .i64 0), (.int .i64 0)]) 24 rfl Try.underlying22 infoTok rfl (by decide) (by omega) _ out (⟨0, (n : Int), d⟩ : S25) [.int .u8 0, .int .i64 n, .int .i64 d] (fun k => k ≠ bs) (fun _ => False) rfl (by first | (go_simp; done) | (go_simp; rfl)) ?aP (fun _ hk => hk.elim) ?aF ?aO ?aB ?aS ?aL ?_; (case aP => exact k25_mkM _ _ _ (⟨0, (n : Int), d⟩ : S25)); (case aB => exact Below.refl _ _); (case aF => exact fun k hk => by have := HW2.out.size; omega); (case aO => exact HR2.out); (case aS => exact HW2.out.size); (case aL => omega); intro v131 w8 ho hb hg hat; rw [HO2.out] at ho; have HR8 := Aside0.mk ho; have HW8 := Aside0.mk (grown_low HW2.out hb); have HV8 := Aside0.mk (OwnsV.low HV2.out hbs hb); clear ho hb hg hat)
            go_loopw [9] (fun v9 wq => ∃ k : Nat, v9 = .int .i64 k ∧ 1 ≤ k ∧ k ≤ n ∧ Aside0 (Kd.R k25 25 wq w.heap.size (fun k => k ≠ bs) v131 o2) ∧ Aside0 (w.grownBy wq (some bs)) ∧ Aside0 (OwnsV encT wq bs (seenG s (p + k))))
              (fun v9 _ => n - (intOf v9).toNat)
            case atStart => exact ⟨1, rfl, by omega, by omega, HR8, HW8, HV8⟩
            case round =>
              clear HR8 HW8 HV8
              obtain ⟨k, rfl, hk1, hkn, HRQ, HWQ, HVQ⟩ := hrel
              have HFQ := Aside0.mk (HF0.out.later HBB.out HWQ.out HVQ.out)
              by_cases hkl : k < n
              · have dk : decide ((k : Int) < (n : Int)) = true := decide_eq_true (by omega)
                have dkn : decide (k < n) = true := decide_eq_true hkl
                have hpk : (p : Int) + (k : Int) = ((p + k : Nat) : Int) := by omega
                have HPK := Aside0.mk (pass_calls F bs s (p + k) _ _ _ _ _ hs (by omega) HFQ.out.blk HFQ.out.seen)
                have hpo := HPK.out
                rw [show (((p + k : Nat) : Int)) = (p : Int) + (k : Int) from hpk.symm] at hpo
                have HPO := Aside0.mk hpo
                clear hpo HPK hpk
                go_wp2_with (go_at_call 22; (with_reducible refine (HPO.out).mono ?_); rintro e' wz ⟨rfl, hgr, hown⟩; have HRZ := Aside0.mk (Kd.R_grown HRQ.out hgr (fun k hk q => hk (by injection q))); have HWZ := Aside0.mk (grown_then HWQ.out hgr); have HVZ := Aside0.mk hown; clear hgr hown)
                go_roundw
                case rel => exact ⟨k + 1, by go_num, by omega, by omega, HRZ, HWZ, HVZ⟩
                case measure => simp [intOf] <;> omega
              · have dk : decide ((k : Int) < (n : Int)) = false := decide_eq_false (by omega)
                have dkn : decide (k < n) = false := decide_eq_false hkl
                obtain rfl : n = k := by omega
                go_wp2
                go_roundw
                case rel => exact ⟨kp, p + n, o2, by go_num, by omega, by have := HLEN.out; omega, by omega, HG5, HRQ, HWQ, HVQ⟩
                case measure => simp [intOf] <;> omega
        | false =>
          have hgz := HGG.out
          have htv := HTK.out.trans (if_neg (fun q => by cases q.1))
          rw [htv, if_neg (show ¬ l < 3 by omega)] at hgz
          clear htv
          have HG3 := Aside0.mk hgz
          clear hgz HGG HTK
          obtain ⟨n, rfl⟩ : ∃ n : Nat, l = (n : Int) := ⟨l.toNat, by omega⟩
          have hg3 := HG3.out
          rw [Int.toNat_natCast] at hg3
          obtain ⟨o2, ho2⟩ : ∃ o2, out ++ [(⟨0, (n : Int), d⟩ : S25)] = o2 := ⟨_, rfl⟩
          rw [ho2] at hg3
          have HG5 := Aside0.mk hg3
          have HO2 := Aside0.mk ho2
          have hlen2 : o2.length = out.length + 1 := by rw [← ho2]; simp
          have HLEN := Aside0.mk hlen2
          clear hg3 HG3 ho2 hlen2
          go_wp2_with ((with_reducible refine gate_builtin (b := .append) (xs := #[.tmp 68, .tmp 72]) rfl ?_); at_builtin; refine Kd.R_append k25 (w0 := w2) w.heap.size rfl (.tmp 68) (.tmp 72) 22 25 (.agg #[(.int .u8 0), (.int .i64 0), (.int .i64 0)]) 24 rfl Try.underlying22 infoTok rfl (by decide) (by omega) _ out (⟨0, (n : Int), d⟩ : S25) [.int .u8 0, .int .i64 n, .int .i64 d] (fun k => k ≠ bs) (fun _ => False) rfl (by first | (go_simp; done) | (go_simp; rfl)) ?aP (fun _ hk => hk.elim) ?aF ?aO ?aB ?aS ?aL ?_; (case aP => exact k25_mkM _ _ _ (⟨0, (n : Int), d⟩ : S25)); (case aB => exact Below.refl _ _); (case aF => exact fun k hk => by have := HW2.out.size; omega); (case aO => exact HR2.out); (case aS => exact HW2.out.size); (case aL => omega); intro v131 w8 ho hb hg hat; rw [HO2.out] at ho; have HR8 := Aside0.mk ho; have HW8 := Aside0.mk (grown_low HW2.out hb); have HV8 := Aside0.mk (OwnsV.low HV2.out hbs hb); clear ho hb hg hat)
          go_loopw [9] (fun v9 wq => ∃ k : Nat, v9 = .int .i64 k ∧ 1 ≤ k ∧ k ≤ n ∧ Aside0 (Kd.R k25 25 wq w.heap.size (fun k => k ≠ bs) v131 o2) ∧ Aside0 (w.grownBy wq (some bs)) ∧ Aside0 (OwnsV encT wq bs (seenG s (p + k))))
            (fun v9 _ => n - (intOf v9).toNat)
          case atStart => exact ⟨1, rfl, by omega, by omega, HR8, HW8, HV8⟩
          case round =>
            clear HR8 HW8 HV8
            obtain ⟨k, rfl, hk1, hkn, HRQ, HWQ, HVQ⟩ := hrel
            have HFQ := Aside0.mk (HF0.out.later HBB.out HWQ.out HVQ.out)
            by_cases hkl : k < n
            · have dk : decide ((k : Int) < (n : Int)) = true := decide_eq_true (by omega)
              have dkn : decide (k < n) = true := decide_eq_true hkl
              have hpk : (p : Int) + (k : Int) = ((p + k : Nat) : Int) := by omega
              have HPK := Aside0.mk (pass_calls F bs s (p + k) _ _ _ _ _ hs (by omega) HFQ.out.blk HFQ.out.seen)
              have hpo := HPK.out
              rw [show (((p + k : Nat) : Int)) = (p : Int) + (k : Int) from hpk.symm] at hpo
              have HPO := Aside0.mk hpo
              clear hpo HPK hpk
              go_wp2_with (go_at_call 22; (with_reducible refine (HPO.out).mono ?_); rintro e' wz ⟨rfl, hgr, hown⟩; have HRZ := Aside0.mk (Kd.R_grown HRQ.out hgr (fun k hk q => hk (by injection q))); have HWZ := Aside0.mk (grown_then HWQ.out hgr); have HVZ := Aside0.mk hown; clear hgr hown)
              go_roundw
              case rel => exact ⟨k + 1, by go_num, by omega, by omega, HRZ, HWZ, HVZ⟩
              case measure => simp [intOf] <;> omega
            · have dk : decide ((k : Int) < (n : Int)) = false := decide_eq_false (by omega)
              have dkn : decide (k < n) = false := decide_eq_false hkl
              obtain rfl : n = k := by omega
              go_wp2
              go_roundw
              case rel => exact ⟨kp, p + n, o2, by go_num, by omega, by have := HLEN.out; omega, by omega, HG5, HRQ, HWQ, HVQ⟩
              case measure => simp [intOf] <;> omega
      · have d3 : decide ((3 : Int) ≤ l) = false := decide_eq_false h3
        have e3 : decide (l < 3) = true := decide_eq_true (by omega)
        cases lz with
        | true =>
          have hgz := HGG.out
          have htv := HTK.out.trans (if_neg (fun q => h3 q.2.1))
          rw [htv, if_pos (show l < 3 by omega)] at hgz
          clear htv
          have HG3 := Aside0.mk hgz
          clear hgz HGG HTK
          have q0 := eq_true (show (0 : Int) ≤ (p : Int) by omega)
          have q1 := eq_true (show (p : Int) < (s.size : Int) by omega)
          have hx0 : ∀ h : p < s.size, ((s[p]'h).toNat : Int) = bt s p := fun h => bt_at s p h
          have hd0 := blk_cell HF2.out.blk 0
          obtain ⟨b, hb⟩ : ∃ b, bt s (p : Int) = b := ⟨_, rfl⟩
          rw [hb] at hx0
          have hg3 := HG3.out
          rw [hb] at hg3
          have HG4 := Aside0.mk hg3
          clear hb hg3 HG3
          obtain ⟨o2, ho2⟩ : ∃ o2, out ++ [(⟨b, 0, 0⟩ : S25)] = o2 := ⟨_, rfl⟩
          have hg4 := HG4.out
          rw [ho2] at hg4
          have HG5 := Aside0.mk hg4
          have HO2 := Aside0.mk ho2
          have hlen2 : o2.length = out.length + 1 := by rw [← ho2]; simp
          have HLEN := Aside0.mk hlen2
          clear hg4 HG4 ho2 hlen2
          go_wp2_with ((with_reducible refine gate_builtin (b := .append) (xs := #[.tmp 56, .tmp 64]) rfl ?_); at_builtin; refine Kd.R_append k25 (w0 := w2) w.heap.size rfl (.tmp 56) (.tmp 64) 22 25 (.agg #[(.int .u8 0), (.int .i64 0), (.int .i64 0)]) 24 rfl Try.underlying22 infoTok rfl (by decide) (by omega) _ out (⟨b, 0, 0⟩ : S25) [.int .u8 b, .int .i64 0, .int .i64 0] (fun k => k ≠ bs) (fun _ => False) rfl (by first | (go_simp; done) | (go_simp; rfl)) ?aP (fun _ hk => hk.elim) ?aF ?aO ?aB ?aS ?aL ?_; (case aP => exact k25_mkM _ _ _ (⟨b, 0, 0⟩ : S25)); (case aB => exact Below.refl _ _); (case aF => exact fun k hk => by have := HW2.out.size; omega); (case aO => exact HR2.out); (case aS => exact HW2.out.size); (case aL => omega); intro v131 w8 ho hb hg hat; rw [HO2.out] at ho; have HR8 := Aside0.mk ho; have HW8 := Aside0.mk (grown_low HW2.out hb); have HV8 := Aside0.mk (OwnsV.low HV2.out hbs hb); clear ho hb hg hat)
          go_roundw
          case rel => exact ⟨kp, p + 1, o2, by go_num, by omega, by have := HLEN.out; omega, by omega, HG5, HR8, HW8, HV8⟩
          case measure => simp [intOf] <;> omega
        | false =>
          have hgz := HGG.out
          have htv := HTK.out.trans (if_neg (fun q => by cases q.1))
          rw [htv, if_pos (show l < 3 by omega)] at hgz
          clear htv
          have HG3 := Aside0.mk hgz
          clear hgz HGG HTK
          have q0 := eq_true (show (0 : Int) ≤ (p : Int) by omega)
          have q1 := eq_true (show (p : Int) < (s.size : Int) by omega)
          have hx0 : ∀ h : p < s.size, ((s[p]'h).toNat : Int) = bt s p := fun h => bt_at s p h
          have hd0 := blk_cell HF2.out.blk 0
          obtain ⟨b, hb⟩ : ∃ b, bt s (p : Int) = b := ⟨_, rfl⟩
          rw [hb] at hx0
          have hg3 := HG3.out
          rw [hb] at hg3
          have HG4 := Aside0.mk hg3
          clear hb hg3 HG3
          obtain ⟨o2, ho2⟩ : ∃ o2, out ++ [(⟨b, 0, 0⟩ : S25)] = o2 := ⟨_, rfl⟩
          have hg4 := HG4.out
          rw [ho2] at hg4
          have HG5 := Aside0.mk hg4
          have HO2 := Aside0.mk ho2
          have hlen2 : o2.length = out.length + 1 := by rw [← ho2]; simp
          have HLEN := Aside0.mk hlen2
          clear hg4 HG4 ho2 hlen2
          go_wp2_with ((with_reducible refine gate_builtin (b := .append) (xs := #[.tmp 56, .tmp 64]) rfl ?_); at_builtin; refine Kd.R_append k25 (w0 := w2) w.heap.size rfl (.tmp 56) (.tmp 64) 22 25 (.agg #[(.int .u8 0), (.int .i64 0), (.int .i64 0)]) 24 rfl Try.underlying22 infoTok rfl (by decide) (by omega) _ out (⟨b, 0, 0⟩ : S25) [.int .u8 b, .int .i64 0, .int .i64 0] (fun k => k ≠ bs) (fun _ => False) rfl (by first | (go_simp; done) | (go_simp; rfl)) ?aP (fun _ hk => hk.elim) ?aF ?aO ?aB ?aS ?aL ?_; (case aP => exact k25_mkM _ _ _ (⟨b, 0, 0⟩ : S25)); (case aB => exact Below.refl _ _); (case aF => exact fun k hk => by have := HW2.out.size; omega); (case aO => exact HR2.out); (case aS => exact HW2.out.size); (case aL => omega); intro v131 w8 ho hb hg hat; rw [HO2.out] at ho; have HR8 := Aside0.mk ho; have HW8 := Aside0.mk (grown_low HW2.out hb); have HV8 := Aside0.mk (OwnsV.low HV2.out hbs hb); clear ho hb hg hat)
          go_roundw
          case rel => exact ⟨kp, p + 1, o2, by go_num, by omega, by have := HLEN.out; omega, by omega, HG5, HR8, HW8, HV8⟩
          case measure => simp [intOf] <;> omega
    · have dlt : decide ((p : Int) < (s.size : Int)) = false := decide_eq_false (by omega)
      have dltn : decide (p < s.size) = false := decide_eq_false hlt
      obtain rfl : p = s.size := by omega
      obtain ⟨kp, rfl⟩ : ∃ kp, kq = kp + 1 := ⟨kq - 1, by omega⟩
      have hg := HG.out
      rw [findGo, if_neg hlt] at hg
      subst hg
      clear HG
      go_wp2
      go_ret
      exact ⟨_, rfl, Kd.R_mono HR.out (fun _ _ => trivial), HW.out⟩
end Go.Proofs.Ytgpmhdefpbmhjaa.Fi
