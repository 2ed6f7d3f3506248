/- bits.Writer: the other methods. -/
import Derived.Test.YtdbekngboogaoaaBitW
import Derived.Test.YtdbekngboogaoaaAppS
namespace Go.Proofs.Ytdbekngboogaoaa.Bw
set_option linter.unusedVariables false
set_option linter.unusedSimpArgs false
open Go Go.RowKit Go.Proofs.Ytdbekngboogaoaa.P Go.Proofs.Ytdbekngboogaoaa.B Go.Proofs.Ytdbekngboogaoaa.Bn Go.Proofs.Ytdbekngboogaoaa.Hd Go.Proofs.YtdbekngboogaoaaW.PrintWords Go.Proofs.YtdbekngboogaoaaW.PrintLast Go.Proofs.YtdbekngboogaoaaW.PrintMore

/-- A new writer. -/
theorem IsBW.new (base : Nat) (W : World) (h : base ≤ W.heap.size) : IsBW base (W.alloc (.cells #[.slice none 0 0, .int .i64 0] 31)) W.heap.size (.slice none 0 0) 0 0 :=
  ⟨⟨heap_alloc_new W _, h, Kd.R_nil _ _ _ _ _⟩, by decide⟩
theorem IsBW.kept {base g N len : Nat} {W W1 : World} {v : Value} {S : Nat → Prop} (h : IsBW base W g v N len) (hk : Kept W W1 S) (hg : ¬ S g) (hr : ∀ k, v.ownBlock = some k → ¬ S k) : IsBW base W1 g v N len := ⟨h.1.kept hk hg hr, h.2⟩
theorem IsBW.below {base g N len : Nat} {W W1 : World} {v : Value} (h : IsBW base W g v N len) (hb : Below W.heap.size W W1) : IsBW base W1 g v N len := ⟨h.1.below hb, h.2⟩
theorem IsBW.drewN {base g N len : Nat} {W : World} {v : Value} (h : IsBW base W g v N len) (m : Nat) : IsBW base (W.drewN m) g v N len := ⟨h.1.drewN m, h.2⟩
theorem IsBW.alloc {base g N len : Nat} {W : World} {v : Value} (h : IsBW base W g v N len) (o : Obj) : IsBW base (W.alloc o) g v N len := ⟨h.1.alloc o, h.2⟩
/-- What is below the writer and its row stays. -/
theorem IsBW.under {base g N len : Nat} {w W W1 : World} {v v1 : Value} (h : IsBW base W g v N len) (hw : Wrote W W1 g v v1) (hb : Below base w W) : Below base w W1 := hw.below' h.1 hb

/-- A count that is none: nothing is written. -/
theorem write_none (g : Nat) (x n : Int) (W : World) (h : n < 1 ∨ 32 < n) :
    Calls Try.prog 10 #[.pointer (some ⟨g, 0, none⟩), .int .u32 x, .int .i64 n] W fun e W' => e = .returned (.tuple #[]) ∧ Below W.heap.size W W' := by
  by_cases h1 : n < 1
  · have hn1 : decide (n < 1) = true := decide_eq_true h1
    go_enter Try.func10, Try.ntmps10
    go_wp2
    first | go_end0 | ((try simp only [Exit.inBlock, Exit.then]); refine bodyPost_ret (results_none rfl _ _ _) rfl ?_)
    exact ⟨rfl, Below.refl _ _⟩
  · have hn1 : decide (n < 1) = false := decide_eq_false h1
    have hn2 : decide (32 < n) = true := decide_eq_true (by omega)
    go_enter Try.func10, Try.ntmps10
    go_wp2
    first | go_end0 | ((try simp only [Exit.inBlock, Exit.then]); refine bodyPost_ret (results_none rfl _ _ _) rfl ?_)
    exact ⟨rfl, Below.refl _ _⟩
/-- Up to a whole byte. -/
def up8 (n : Nat) : Nat := 8 * ((n + 7) / 8)
theorem align_calls (base g : Nat) (v : Value) (N len : Nat) (W : World) (hI : IsBW base W g v N len) :
    Calls Try.prog 12 #[.pointer (some ⟨g, 0, none⟩)] W fun e W' => e = .returned (.tuple #[]) ∧ IsBW base W' g v N (up8 len) ∧ Wrote W W' g v v := by
  have HI := Aside0.mk hI
  clear hI
  have hf1 := blk_frozen HI.out.1.blk 1
  have hc1 : W.cell? ⟨g, 1, none⟩ = some (.int .i64 ((len % 8 : Nat) : Int)) := (blk_cell HI.out.1.blk 1).trans rfl
  go_enter Try.func12, Try.ntmps12
  go_wp2
  first | go_end0 | ((try simp only [Exit.inBlock, Exit.then]); refine bodyPost_ret (results_none rfl _ _ _) rfl ?_)
  have h := HI.out.1.set (by decide) 1 (.int .i64 0)
  refine ⟨rfl, ⟨?_, ?_⟩, (Wrote.refl W g v).set 1 _⟩
  · rw [show up8 len % 8 = 0 by unfold up8; omega, show (up8 len + 7) / 8 = (len + 7) / 8 by unfold up8; omega]
    exact h
  · exact Nat.lt_of_lt_of_le HI.out.2 (Nat.pow_le_pow_right (by decide) (by unfold up8; omega))
theorem byt_append (N c : Nat) (s : ByteArray) (h : N < 256 ^ c) : byt N c ++ strN s = byt (N + 256 ^ c * leN s.data.toList) (c + s.size) := by
  unfold byt strN
  rw [← List.map_append]
  congr 1
  have e := ofN_leN (ofN c N ++ s.data.toList)
  rw [leN_append, leN_ofN, ofN_length, Nat.mod_eq_of_lt h, List.length_append, ofN_length, toList_length] at e
  exact e.symm
set_option maxHeartbeats 1000000 in
theorem bytes_calls (base g : Nat) (v : Value) (N len : Nat) (s : ByteArray) (W : World) (hI : IsBW base W g v N len) (hl : len ≤ 1099511627776) (hs : s.size ≤ 1099511627776) :
    Calls Try.prog 14 #[.pointer (some ⟨g, 0, none⟩), .string s] W fun e W' => e = .returned (.tuple #[]) ∧ ∃ v', IsBW base W' g v' (N + 2 ^ up8 len * leN s.data.toList) (up8 len + 8 * s.size) ∧ Wrote W W' g v v' := by
  have HI := Aside0.mk hI
  clear hI
  go_enter Try.func14, Try.ntmps14
  go_upto_if 7 with (go_at_call 12; refine (align_calls base g v N len _ HI.out).mono ?_; rintro e w1 ⟨rfl, hi, hw⟩; have HI1 := Aside0.mk hi; have HW1 := Aside0.mk hw; clear hi hw)
  have hc0 : w1.cell? ⟨g, 0, none⟩ = some v := (blk_cell HI1.out.1.blk 0).trans rfl
  have h1 := HI1.out.1
  rw [show (up8 len + 7) / 8 = (len + 7) / 8 by unfold up8; omega, show up8 len % 8 = 0 by unfold up8; omega] at h1
  have hNc : N < 256 ^ ((len + 7) / 8) := by rw [pow256]; exact HI1.out.2
  have happ := byt_append N ((len + 7) / 8) s hNc
  have hup : up8 len = 8 * ((len + 7) / 8) := rfl
  obtain ⟨c, hc⟩ : ∃ c, (len + 7) / 8 = c := ⟨_, rfl⟩
  rw [hc] at h1 hNc happ hup
  have hxl : (byt N c).length = c := byt_len _ _
  obtain ⟨v2, w2, hrun, hR2, hg2, hat2⟩ := append_str (P := Try.prog) w1 base 29 9 29 Try.underlying29 Try.underlying9 z5 v (byt N c) h1.row s (by omega) (Nat.le_of_lt (Nat.lt_of_le_of_lt h1.ge h1.lt))
  have hne : some g ≠ v.ownBlock := fun e => h1.ne (by decide) g e.symm rfl
  have HB2 := Aside0.mk (blk_grown h1.blk hg2 hne)
  have HW2 := Aside0.mk (HW1.out.grow hg2 hat2)
  obtain ⟨ys, hys⟩ : ∃ ys, byt N c ++ strN s = ys := ⟨_, rfl⟩
  rw [hys] at hR2 happ
  clear hys
  obtain ⟨A2, c2, hv2⟩ := Kd.R_slice hR2
  have HR2 := Aside0.mk hR2
  have HRUN := Aside0.mk hrun
  have HGE := Aside0.mk h1.ge
  have HAPP := Aside0.mk happ
  have HNC := Aside0.mk hNc
  have HUP := Aside0.mk hup
  have hc6 := blk_cell HB2.out 0
  have hf6 := blk_frozen HB2.out 0
  clear h1 hrun hg2 hat2 hR2 happ hNc hup hxl
  rw [hv2] at HRUN
  go_wp2_with ((with_reducible refine gate_builtin (b := .append) (xs := #[.tmp 12, .tmp 13]) rfl ?_); at_builtin; refine Full.wpList_append_run rfl (.tmp 12) (.tmp 13) 29 9 rfl v (.string s) _ w2 rfl rfl HRUN.out ?_)
  first | go_end0 | ((try simp only [Exit.inBlock, Exit.then]); refine bodyPost_ret (results_none rfl _ _ _) rfl ?_)
  subst hv2
  have h2 := Holds.turn (v := .slice A2 ys.length c2) (T := 31) ⟨HB2.out, HGE.out, HR2.out⟩ 0 HR2.out (by decide)
  refine ⟨rfl, _, ⟨?_, ?_⟩, HW2.out.set 0 _⟩
  · rw [HUP.out, ← pow256, show (8 * c + 8 * s.size) % 8 = 0 by omega, show (8 * c + 8 * s.size + 7) / 8 = c + s.size by omega, ← HAPP.out]
    exact h2
  · rw [HUP.out, Nat.pow_add 2, ← pow256, ← pow256]
    have h3 := leN_lt s.data.toList
    rw [toList_length] at h3
    calc N + 256 ^ c * leN s.data.toList < 256 ^ c + 256 ^ c * leN s.data.toList := by have := HNC.out; omega
      _ = 256 ^ c * (leN s.data.toList + 1) := by rw [Nat.mul_succ, Nat.add_comm]
      _ ≤ 256 ^ c * 256 ^ s.size := Nat.mul_le_mul_left _ h3
set_option maxHeartbeats 1000000 in
theorem len_calls (base g : Nat) (v : Value) (N len : Nat) (W : World) (hI : IsBW base W g v N len) (hl : len ≤ 2199023255552) :
    Calls Try.prog 16 #[.pointer (some ⟨g, 0, none⟩)] W fun e W' => e = .returned (.int .i64 len) ∧ Below W.heap.size W W' := by
  have HI := Aside0.mk hI
  clear hI
  obtain ⟨A, c, rfl⟩ := HI.out.bytes
  have hc0 : W.cell? ⟨g, 0, none⟩ = some (.slice A ((len + 7) / 8) c) := (blk_cell HI.out.1.blk 0).trans rfl
  have hc1 : W.cell? ⟨g, 1, none⟩ = some (.int .i64 ((len % 8 : Nat) : Int)) := (blk_cell HI.out.1.blk 1).trans rfl
  obtain ⟨q, hq⟩ : ∃ q, (len + 7) / 8 = q := ⟨_, rfl⟩
  obtain ⟨t, ht⟩ : ∃ t, len % 8 = t := ⟨_, rfl⟩
  rw [hq] at hc0
  rw [ht] at hc1
  have ht8 : t < 8 := by omega
  have h8 : 8 * q = len + (8 - t) % 8 := by omega
  have h7 : Go.bits .and .i64 (8 - (t : Int)) 7 = (((8 - t) % 8 : Nat) : Int) := by
    have h := and7 (8 - t) (by omega)
    rwa [Int.natCast_sub (by omega)] at h
  obtain ⟨p, hp⟩ : ∃ p, (8 - t) % 8 = p := ⟨_, rfl⟩
  rw [hp] at h7 h8
  clear hp
  have hp8 : p ≤ 8 := by omega
  go_enter Try.func16, Try.ntmps16
  go_upto_region 3 with (fail)
  go_quiet (fail)
  go_wp2
  go_ret
  refine ⟨?_, pw_below_drewN (Below.refl _ _) _⟩
  show Ending.returned (.int .i64 ((q : Int) * 8 - (p : Int))) = _
  rw [show (q : Int) * 8 - (p : Int) = (len : Int) by omega]
set_option maxHeartbeats 1000000 in
theorem done_calls (base g : Nat) (v : Value) (N len : Nat) (W : World) (hI : IsBW base W g v N len) (hl : len ≤ 2199023255552) :
    Calls Try.prog 17 #[.pointer (some ⟨g, 0, none⟩)] W fun e W' => e = .returned (.string ⟨(ofN ((len + 7) / 8) N).toArray⟩) ∧ Below W.heap.size W W' := by
  have HI := Aside0.mk hI
  clear hI
  obtain ⟨A, c, hv, hlc, hC⟩ := Kd.R_reads HI.out.1.row
  subst hv
  have hstr := Kd.C_string (P := Try.prog) (c := c) Try.underlying29 Try.underlying5 (dst := 9) Try.underlying9 hC
  have hc0 : W.cell? ⟨g, 0, none⟩ = some (.slice A (byt N ((len + 7) / 8)).length c) := (blk_cell HI.out.1.blk 0).trans rfl
  have e : strOfNums (byt N ((len + 7) / 8)) = ⟨(ofN ((len + 7) / 8) N).toArray⟩ := by
    unfold strOfNums byt
    rw [List.map_map]
    congr 2
    rw [show (fun n : Int => UInt8.ofNat n.toNat) ∘ (fun b : UInt8 => (b.toNat : Int)) = id from by funext b; simp, List.map_id]
  rw [e] at hstr
  obtain ⟨xs, hxs⟩ : ∃ xs, byt N ((len + 7) / 8) = xs := ⟨_, rfl⟩
  rw [hxs] at hstr hc0
  clear hC hlc hxs e
  go_enter Try.func17, Try.ntmps17
  go_wp2
  go_ret
  exact ⟨rfl, Below.refl _ _⟩
end Go.Proofs.Ytdbekngboogaoaa.Bw
