/- Split: its parts, one behind the other, are the tokens; none is empty, each is at most 32,768 bytes. -/
import Derived.Test.YtolohijegkagiaaPlain
namespace Go.Proofs.Ytolohijegkagiaa.D9
set_option linter.unusedVariables false
set_option linter.unusedSimpArgs false
open Go Go.RowKit Go.Proofs.Ytolohijegkagiaa.P Go.Proofs.Ytolohijegkagiaa.B Go.Proofs.YtolohijegkagiaaW.PrintWords Go.Proofs.YtolohijegkagiaaW.PrintLast Go.Proofs.YtolohijegkagiaaW.PrintMore

theorem cut_full {P : Program} (t e : TypeId) (kl kh km : IntKind) {i : TypeInfo} (ht : P.underlying t = some (.slice e)) (hi : P.info? e = some i) (size : Nat) (hsz : i.size = size) (A : Option Addr) (n c lo hi' mx' : Nat) (h1 : lo < hi') (h2 : hi' ≤ mx') (h3 : mx' ≤ c) :
    ∀ W : World, (Instr.slice t (.slice A n c) (some (.int kl (lo : Int))) (some (.int kh (hi' : Int))) (some (.int km (mx' : Int)))).run P W = .ok (.slice (A.map (·.add (lo * size))) (hi' - lo) (mx' - lo)) W := by
  intro W
  have hel : P.elem t = e := by simp [Program.elem, ht]
  have hu : P.underlying t = some (.slice (P.elem t)) := by rw [hel]; exact ht
  rw [run_slice_lhm W t A n c hu kl kh km lo hi' mx' (by omega) (by omega) (by omega) (by omega), hel]
  simp [sizeOf, typeInfo, hi, hsz, sliced, Result.andThen]
  intro h
  omega
/-- What stands of the parts when the first i tokens have been seen. -/
def SplitInv (l : List S25) (ps : List (List S25)) (from_ i : Nat) (n : Int) : Prop :=
  ps.flatten = l.take from_ ∧ (∀ p ∈ ps, p ≠ [] ∧ sumb p ≤ 32768) ∧ from_ ≤ i ∧ i ≤ l.length ∧ n = sumb ((l.take i).drop from_) ∧ n ≤ 32768
theorem inv_start (l : List S25) : SplitInv l [] 0 0 0 := ⟨by simp, by simp, by omega, by omega, by simp [sumb], by omega⟩
theorem take_drop_snoc (l : List S25) (from_ i : Nat) (h : from_ ≤ i) (hi : i < l.length) : (l.take (i + 1)).drop from_ = (l.take i).drop from_ ++ [l[i]] := by
  rw [List.take_succ_eq_append_getElem hi, List.drop_append_of_le_length (by simp; omega)]
theorem inv_go {l : List S25} {ps : List (List S25)} {from_ i : Nat} {n : Int} (h : SplitInv l ps from_ i n) (hi : i < l.length) (hs : from_ = i ∨ n + tb l[i] ≤ 32768) : SplitInv l ps from_ (i + 1) (n + tb l[i]) := by
  obtain ⟨h1, h2, h3, h4, h6, h7⟩ := h
  refine ⟨h1, h2, by omega, by omega, ?_, ?_⟩
  · rw [take_drop_snoc l from_ i h3 hi, sumb_snoc, ← h6]
  · rcases hs with rfl | hs
    · have : n = 0 := by rw [h6, List.drop_of_length_le (by simp; omega)]; rfl
      have := (tb_eq l[from_]).2.2.2
      omega
    · exact hs
theorem inv_cut {l : List S25} {ps : List (List S25)} {from_ i : Nat} {n : Int} (h : SplitInv l ps from_ i n) (hlt : from_ < i) : SplitInv l (ps ++ [(l.take i).drop from_]) i i 0 := by
  obtain ⟨h1, h2, h3, h4, h6, h7⟩ := h
  refine ⟨?_, ?_, by omega, h4, ?_, by omega⟩
  · rw [List.flatten_append, h1]
    simp only [List.flatten_cons, List.flatten_nil, List.append_nil]
    have := List.take_append_drop from_ (l.take i)
    rw [List.take_take, Nat.min_eq_left (by omega)] at this
    exact this
  · intro p hp
    rcases List.mem_append.1 hp with hp | hp
    · exact h2 p hp
    · rw [List.mem_singleton.1 hp]
      refine ⟨fun he => ?_, by omega⟩
      have := congrArg List.length he
      simp at this
      omega
  · rw [List.drop_of_length_le (by simp; omega)]; rfl
theorem parts_le {l : List S25} {ps : List (List S25)} {from_ i : Nat} {n : Int} (h : SplitInv l ps from_ i n) : ps.length ≤ from_ := by
  have key : ∀ qs : List (List S25), (∀ p ∈ qs, p ≠ []) → qs.length ≤ qs.flatten.length := by
    intro qs
    induction qs with
    | nil => simp
    | cons q qs ih =>
      intro hq
      have h1 := ih (fun p hp => hq p (List.mem_cons_of_mem _ hp))
      have h2 : 0 < q.length := List.length_pos_iff.2 (hq q List.mem_cons_self)
      simp only [List.length_cons, List.flatten_cons, List.length_append]
      omega
  have h1 := key ps (fun p hp => (h.2.1 p hp).1)
  rw [h.1, List.length_take] at h1
  omega
/-- The kind of a part: a slice of tokens that is read where the tokens lay. -/
def kpart (w : World) : Kd (List S25) := Kd.fixed (Kd.slice 25 k25) w
theorem part_of {w w1 : World} {ad : Addr} {c : Nat} {l : List S25} (hC : Kd.C k25 w (some ad) l.length l) (hl : l.length ≤ c) {lo hi mx' base : Nat} (h1 : lo < hi) (h2 : hi ≤ l.length) (h3 : hi ≤ mx') : (kpart w).M w1 base (fun _ => False) ((l.take hi).drop lo) [.slice (some (ad.add (lo * 3))) (hi - lo) (mx' - lo)] := by
  have h4 : ((l.take hi).drop lo).length = hi - lo := by simp; omega
  have h := Kd.C_mid (c := l.length + 1 + lo) hC (Nat.le_of_lt h1) h2 (by omega)
  rw [if_neg (by omega)] at h
  refine ⟨some (ad.add (lo * 3)), mx' - lo, by rw [h4], by omega, ?_⟩
  rw [h4] at h ⊢
  exact h

theorem inf22 : (Try.prog.info? 22).map (fun i => (i.zero, i.size, i.bytes)) = some (some (.slice none 0 0), 1, 24) := by kernel_rfl
theorem inf25 : (Try.prog.info? 25).map (fun i => (i.zero, i.size, i.bytes)) = some (some (.agg #[.int .u8 0, .int .i64 0, .int .i64 0]), 3, 24) := by kernel_rfl
set_option maxHeartbeats 4000000 in
set_option maxRecDepth 100000 in
theorem split_calls (A : Option Addr) (cap : Nat) (l : List S25) (w : World) (hl : l.length ≤ cap) (hC : Kd.C k25 w A l.length l) (hz : l.length * 24 ≤ 140737488351232) :
    Calls Try.prog 6 #[.slice A l.length cap] w fun e w' => ∃ (v : Value) (ps : List (List S25)), e = .returned v ∧ Kd.R (kpart w) 22 w' w.heap.size (fun _ => True) v ps ∧ ps.flatten = l ∧ (∀ p ∈ ps, p ≠ [] ∧ sumb p ≤ 32768) ∧ Below w.heap.size w w' := by
  have HC := Aside0.mk hC
  clear hC
  have hu25 := Try.underlying25
  obtain ⟨iz, hi25, _, hs25, _⟩ := info_parts inf25
  have i25 := Aside0.mk (And.intro hi25 hs25)
  clear hi25 hs25
  go_enter Try.func6, Try.ntmps6
  go_wp2
  go_loopw [3, 4, 5, 11] (fun v3 v4 v5 v11 wr => ∃ (i from_ : Nat) (n : Int) (ps : List (List S25)), v11 = .int .i64 i ∧ v4 = .int .i64 from_ ∧ v5 = .int .i64 n ∧ Aside0 (SplitInv l ps from_ i n) ∧ i ≤ l.length ∧ from_ ≤ i ∧ 0 ≤ n ∧ n ≤ 32768 ∧ (0 < i → from_ < i) ∧ Aside0 (Kd.R (kpart w) 22 wr w.heap.size (fun _ => True) v3 ps) ∧ Aside0 (Below w.heap.size w wr))
    (fun _ _ _ v _ => l.length - (intOf v).toNat)
  case atStart => exact ⟨0, 0, 0, [], rfl, rfl, rfl, ⟨inv_start l⟩, by omega, by omega, by omega, by omega, by omega, ⟨Kd.R_nil _ _ _ _ _⟩, ⟨Below.refl _ _⟩⟩
  case round =>
    obtain ⟨i, from_, n, ps, rfl, rfl, rfl, HI, hi, hf, hn0, hn1, hf2, HR, HB⟩ := hrel
    by_cases hlt : i < l.length
    · have hd : decide (i < l.length) = true := decide_eq_true hlt
      obtain ⟨ad, hA, hc0, hc1, hc2⟩ := at_T25 (Kd.C_below HC.out HB.out) (i : Int) (by omega) (by omega)
      subst hA
      have hx : rd_T25 l (i : Int) = l[i] := by unfold rd_T25; rw [List.getD_eq_getElem?_getD, Int.toNat_natCast, List.getElem?_eq_getElem hlt]; rfl
      rw [hx] at hc0 hc1 hc2
      clear hx
      obtain ⟨t, ht⟩ : ∃ t, l[i] = t := ⟨_, rfl⟩
      rw [ht] at hc0 hc1 hc2
      obtain ⟨hb, _, hb1, hb2⟩ := tb_eq t
      have HT := Aside0.mk hb
      have HE := Aside0.mk ht
      clear hb ht
      obtain ⟨b, hbb⟩ : ∃ b, tb t = b := ⟨_, rfl⟩
      rw [hbb] at HT hb1 hb2
      have HBB := Aside0.mk hbb
      clear hbb
      simp only [Int.toNat_natCast] at hc0 hc1 hc2
      go_upto_region 7 with (go_at_call 12; refine (deflate_bytes.calls t.f0 t.f1 t.f2 b _ HT.out).mono ?_; rintro e w1 ⟨rfl, hb⟩; have HB1 := Aside0.mk (below_step (below_alloc HB.out _) hb); have HR1 := Aside0.mk (Kd.R_below (Kd.R_alloc HR.out _) hb); have H7 := Aside0.mk (blk_below (heap_alloc_new wr (.cells #[.int .u8 t.f0, .int .i64 t.f1, .int .i64 t.f2] 25)) hb); clear hb)
      have hx0 := blk_cell H7.out 0
      have hx1 := blk_cell H7.out 1
      have hx2 := blk_cell H7.out 2
      clear hc0 hc1 hc2
      by_cases hcut : from_ < i ∧ (32768 < n + b ∨ 8192 ≤ i - from_)
      · have hfi := hcut.1
        have g1 : decide ((from_ : Int) < (i : Int)) = true := decide_eq_true (by omega)
        have g2 : decide (from_ < i) = true := decide_eq_true (by omega)
        have hps := parts_le HI.out
        have hsl := Aside0.mk (cut_full 22 25 .i64 .i64 .i64 Try.underlying22 i25.out.1 3 i25.out.2 (some ad) l.length cap from_ i i hfi (Nat.le_refl _) (by omega))
        have hsl' := hsl.out
        have hpart := Aside0.mk (part_of (w1 := w1) (base := w.heap.size) HC.out hl hfi (Nat.le_of_lt hlt) (Nat.le_refl i))
        have HI2 := Aside0.mk (inv_go (inv_cut HI.out hfi) hlt (.inl rfl))
        rw [HE.out, HBB.out] at HI2
        by_cases hA : 32768 < n + b
        · have g3 : decide (32768 < n + b) = true := decide_eq_true hA
          go_wp2_with (first
            | ((with_reducible refine gate_builtin (b := .append) (xs := #[.tmp 33, .tmp 39]) rfl ?_); at_builtin; refine Kd.R_append (kpart w) (w0 := w) w.heap.size rfl (.tmp 33) (.tmp 39) 26 22 (.slice none 0 0) 24 rfl Try.underlying26 inf22 rfl Nat.one_pos (by omega) u3 ps ((l.take i).drop from_) [.slice (some (ad.add (from_ * 3))) (i - from_) (i - from_)] (fun _ => True) (fun _ => False) rfl rfl ?aP (fun _ hk => hk.elim) ?aF ?aO ?aB ?aS ?aL ?_; (case aP => exact hpart.out); (case aB => exact HB1.out); (case aF => exact (fun _ _ => trivial)); (case aO => exact HR1.out); (case aS => exact below_size HB1.out); (case aL => omega); intro v6 w6 ho hb hg hat; have HR6 := Aside0.mk ho; have HB6 := Aside0.mk hb; have H76 := Aside0.mk (blk_grown H7.out hg (Kd.R_ne HR1.out H7.out (by decide))); clear ho hb hg hat; have hy0 := blk_cell H76.out 0; have hy1 := blk_cell H76.out 1; have hy2 := blk_cell H76.out 2)
            | (go_at_call 12; refine (deflate_bytes.calls t.f0 t.f1 t.f2 b _ HT.out).mono ?_; rintro e w7 ⟨rfl, hb⟩; have HB7 := Aside0.mk (below_step HB6.out hb); have HR7 := Aside0.mk (Kd.R_below HR6.out hb); clear hb))
          go_roundw
          case rel => exact ⟨i + 1, i, 0 + b, _, by go_num, rfl, by go_num, HI2, by omega, by omega, by omega, HI2.out.2.2.2.2.2, by omega, HR7, HB7⟩
          case measure => simp [intOf]; omega
        · have g3 : decide (32768 < n + b) = false := decide_eq_false hA
          have g4 : decide (8192 ≤ (i : Int) - (from_ : Int)) = true := decide_eq_true (by omega)
          go_wp2_with (first
            | ((with_reducible refine gate_builtin (b := .append) (xs := #[.tmp 33, .tmp 39]) rfl ?_); at_builtin; refine Kd.R_append (kpart w) (w0 := w) w.heap.size rfl (.tmp 33) (.tmp 39) 26 22 (.slice none 0 0) 24 rfl Try.underlying26 inf22 rfl Nat.one_pos (by omega) u3 ps ((l.take i).drop from_) [.slice (some (ad.add (from_ * 3))) (i - from_) (i - from_)] (fun _ => True) (fun _ => False) rfl rfl ?aP (fun _ hk => hk.elim) ?aF ?aO ?aB ?aS ?aL ?_; (case aP => exact hpart.out); (case aB => exact HB1.out); (case aF => exact (fun _ _ => trivial)); (case aO => exact HR1.out); (case aS => exact below_size HB1.out); (case aL => omega); intro v6 w6 ho hb hg hat; have HR6 := Aside0.mk ho; have HB6 := Aside0.mk hb; have H76 := Aside0.mk (blk_grown H7.out hg (Kd.R_ne HR1.out H7.out (by decide))); clear ho hb hg hat; have hy0 := blk_cell H76.out 0; have hy1 := blk_cell H76.out 1; have hy2 := blk_cell H76.out 2)
            | (go_at_call 12; refine (deflate_bytes.calls t.f0 t.f1 t.f2 b _ HT.out).mono ?_; rintro e w7 ⟨rfl, hb⟩; have HB7 := Aside0.mk (below_step HB6.out hb); have HR7 := Aside0.mk (Kd.R_below HR6.out hb); clear hb))
          go_roundw
          case rel => exact ⟨i + 1, i, 0 + b, _, by go_num, rfl, by go_num, HI2, by omega, by omega, by omega, HI2.out.2.2.2.2.2, by omega, HR7, HB7⟩
          case measure => simp [intOf]; omega
      · have HI2 := Aside0.mk (inv_go HI.out hlt (by rw [HE.out, HBB.out]; omega))
        rw [HE.out, HBB.out] at HI2
        go_wp2_with (go_at_call 12; refine (deflate_bytes.calls t.f0 t.f1 t.f2 b _ HT.out).mono ?_; rintro e w7 ⟨rfl, hb⟩; have HB7 := Aside0.mk (below_step HB1.out hb); have HR7 := Aside0.mk (Kd.R_below HR1.out hb); clear hb)
        all_goals first
          | (exfalso; omega)
          | (go_roundw
             case rel => exact ⟨i + 1, from_, n + b, ps, by go_num, rfl, rfl, HI2, by omega, by omega, by omega, HI2.out.2.2.2.2.2, by omega, HR7, HB7⟩
             case measure => simp [intOf]; omega)
    · have hd : decide (i < l.length) = false := decide_eq_false hlt
      obtain rfl : i = l.length := by omega
      have hps := parts_le HI.out
      by_cases hfi : from_ < l.length
      · have g1 : decide ((from_ : Int) < (l.length : Int)) = true := decide_eq_true (by omega)
        have g2 : decide (from_ < l.length) = true := decide_eq_true (by omega)
        obtain ⟨ad, hA, _⟩ := at_T25 HC.out (0 : Int) (by omega) (by omega)
        subst hA
        have hsl := Aside0.mk (cut_full 22 25 .i64 .i64 .i64 Try.underlying22 i25.out.1 3 i25.out.2 (some ad) l.length cap from_ l.length l.length hfi (Nat.le_refl _) (by omega))
        have hsl' := hsl.out
        have hpart := Aside0.mk (part_of (w1 := wr) (base := w.heap.size) HC.out hl hfi (Nat.le_refl _) (Nat.le_refl l.length))
        have HI2 := Aside0.mk (inv_cut HI.out hfi)
        go_wp2_with ((with_reducible refine gate_builtin (b := .append) (xs := #[.tmp 51, .tmp 59]) rfl ?_); at_builtin; refine Kd.R_append (kpart w) (w0 := w) w.heap.size rfl (.tmp 51) (.tmp 59) 26 22 (.slice none 0 0) 24 rfl Try.underlying26 inf22 rfl Nat.one_pos (by omega) u3 ps ((l.take l.length).drop from_) [.slice (some (ad.add (from_ * 3))) (l.length - from_) (l.length - from_)] (fun _ => True) (fun _ => False) rfl rfl ?aP (fun _ hk => hk.elim) ?aF ?aO ?aB ?aS ?aL ?_; (case aP => exact hpart.out); (case aB => exact HB.out); (case aF => exact (fun _ _ => trivial)); (case aO => exact HR.out); (case aS => exact below_size HB.out); (case aL => omega); intro v6 w6 ho hb hg hat; have HR6 := Aside0.mk ho; have HB6 := Aside0.mk hb; clear ho hb hg hat)
        go_ret
        exact ⟨_, _, rfl, HR6.out, by rw [HI2.out.1, List.take_length], HI2.out.2.1, HB6.out⟩
      · have g1 : decide ((from_ : Int) < (l.length : Int)) = false := decide_eq_false (by omega)
        have g2 : decide (from_ < l.length) = false := decide_eq_false (by omega)
        obtain rfl : from_ = l.length := by omega
        go_wp2
        go_ret
        exact ⟨_, _, rfl, HR.out, by rw [HI.out.1, List.take_length], HI.out.2.1, HB.out⟩
end Go.Proofs.Ytolohijegkagiaa.D9
