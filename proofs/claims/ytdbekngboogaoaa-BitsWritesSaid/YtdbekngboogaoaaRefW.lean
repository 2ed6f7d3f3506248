/- portmanteauref03.Writer: its methods: bits, one by one. -/
import Derived.Test.YtdbekngboogaoaaBitWM
namespace Go.Proofs.Ytdbekngboogaoaa.Rw
set_option linter.unusedVariables false
set_option linter.unusedSimpArgs false
open Go Go.RowKit Go.Proofs.Ytdbekngboogaoaa.P Go.Proofs.Ytdbekngboogaoaa.B Go.Proofs.Ytdbekngboogaoaa.Bn Go.Proofs.Ytdbekngboogaoaa.Hd Go.Proofs.Ytdbekngboogaoaa.Bw Go.Proofs.YtdbekngboogaoaaW.PrintWords Go.Proofs.YtdbekngboogaoaaW.PrintLast Go.Proofs.YtdbekngboogaoaaW.PrintMore

/-- The bits of a number, one by one. -/
def bitl (N : Nat) : Nat → List Int
  | 0 => []
  | n + 1 => bitl N n ++ [((N / 2 ^ n % 2 : Nat) : Int)]
theorem bitl_len (N n : Nat) : (bitl N n).length = n := by
  induction n with
  | zero => rfl
  | succ n ih => rw [bitl, List.length_append, ih]; rfl
theorem bitl_congr (N M : Nat) : ∀ n, N % 2 ^ n = M % 2 ^ n → bitl N n = bitl M n := by
  intro n
  induction n with
  | zero => intro _; rfl
  | succ n ih =>
    intro h
    rw [Nat.pow_succ, Nat.mod_mul, Nat.mod_mul] at h
    have h1 : N % 2 ^ n < 2 ^ n := Nat.mod_lt _ (Nat.pow_pos (by decide))
    have h2 : M % 2 ^ n < 2 ^ n := Nat.mod_lt _ (Nat.pow_pos (by decide))
    have e1 : N % 2 ^ n = M % 2 ^ n := by
      have := congrArg (fun z => z % 2 ^ n) h
      simpa [Nat.add_mul_mod_self_left] using this
    have e2 : N / 2 ^ n % 2 = M / 2 ^ n % 2 := by
      rw [e1] at h
      exact Nat.eq_of_mul_eq_mul_left (Nat.pow_pos (by decide)) (Nat.add_left_cancel h)
    rw [bitl, bitl, ih e1, e2]
theorem bitl_snoc (N len b : Nat) (h : N < 2 ^ len) (hb : b < 2) : bitl (N + 2 ^ len * b) (len + 1) = bitl N len ++ [(b : Int)] := by
  rw [bitl, bitl_congr (N + 2 ^ len * b) N len (by rw [Nat.add_mul_mod_self_left]), Nat.add_mul_div_left _ _ (Nat.pow_pos (by decide)), Nat.div_eq_of_lt h, Nat.zero_add, Nat.mod_eq_of_lt hb]
theorem bitl_get (N len i : Nat) (h : i < len) : (bitl N len)[i]? = some ((N / 2 ^ i % 2 : Nat) : Int) := by
  induction len with
  | zero => omega
  | succ n ih =>
    rw [bitl]
    by_cases hi : i < n
    · rw [List.getElem?_append_left (by rw [bitl_len]; exact hi)]; exact ih hi
    · obtain rfl : i = n := by omega
      rw [List.getElem?_append_right (by rw [bitl_len]; omega), bitl_len]; simp
/-- The writer at g has written the number N, of len bits, as a row v of bits. -/
def IsRW (base : Nat) (W : World) (g : Nat) (v : Value) (N len : Nat) : Prop :=
  Holds base W g 34 #[v] v (bitl N len) ∧ N < 2 ^ len
theorem IsRW.new (base : Nat) (W : World) (h : base ≤ W.heap.size) : IsRW base (W.alloc (.cells #[.slice none 0 0] 34)) W.heap.size (.slice none 0 0) 0 0 :=
  ⟨⟨heap_alloc_new W _, h, Kd.R_nil _ _ _ _ _⟩, by decide⟩
theorem IsRW.below {base g N len : Nat} {W W1 : World} {v : Value} (h : IsRW base W g v N len) (hb : Below W.heap.size W W1) : IsRW base W1 g v N len := ⟨h.1.below hb, h.2⟩
theorem IsRW.alloc {base g N len : Nat} {W : World} {v : Value} (h : IsRW base W g v N len) (o : Obj) : IsRW base (W.alloc o) g v N len := ⟨h.1.alloc o, h.2⟩
theorem IsRW.drewN {base g N len : Nat} {W : World} {v : Value} (h : IsRW base W g v N len) (m : Nat) : IsRW base (W.drewN m) g v N len := ⟨h.1.drewN m, h.2⟩
theorem IsRW.under {base g N len : Nat} {w W W1 : World} {v v1 : Value} (h : IsRW base W g v N len) (hw : Wrote W W1 g v v1) (hb : Below base w W) : Below base w W1 := hw.below' h.1 hb
theorem IsRW.bits {base g N len : Nat} {W : World} {v : Value} (h : IsRW base W g v N len) : ∃ A c, v = .slice A len c := by
  obtain ⟨A, c, hv, _⟩ := Kd.R_reads h.1.row
  rw [bitl_len] at hv
  exact ⟨A, c, hv⟩

theorem rwrite_none (g : Nat) (x n : Int) (W : World) (h : n < 1 ∨ 32 < n) :
    Calls Try.prog 11 #[.pointer (some ⟨g, 0, none⟩), .int .u32 x, .int .i64 n] W fun e W' => e = .returned (.tuple #[]) ∧ Below W.heap.size W W' := by
  by_cases h1 : n < 1
  · have hn1 : decide (n < 1) = true := decide_eq_true h1
    go_enter Try.func11, Try.ntmps11
    go_wp2
    first | go_end0 | ((try simp only [Exit.inBlock, Exit.then]); refine bodyPost_ret (results_none rfl _ _ _) rfl ?_)
    exact ⟨rfl, Below.refl _ _⟩
  · have hn1 : decide (n < 1) = false := decide_eq_false h1
    have hn2 : decide (32 < n) = true := decide_eq_true (by omega)
    go_enter Try.func11, Try.ntmps11
    go_wp2
    first | go_end0 | ((try simp only [Exit.inBlock, Exit.then]); refine bodyPost_ret (results_none rfl _ _ _) rfl ?_)
    exact ⟨rfl, Below.refl _ _⟩

set_option maxHeartbeats 4000000 in
set_option maxRecDepth 100000 in
theorem rwrite_calls (base g : Nat) (v : Value) (N len x : Nat) (n : Nat) (W : World) (hI : IsRW base W g v N len) (hx : x < 4294967296) (h1 : 1 ≤ n) (h32 : n ≤ 32) (hl : len ≤ 1099511627776) :
    Calls Try.prog 11 #[.pointer (some ⟨g, 0, none⟩), .int .u32 x, .int .i64 n] W fun e W' => e = .returned (.tuple #[]) ∧ ∃ v', IsRW base W' g v' (N + 2 ^ len * (x % 2 ^ n)) (len + n) ∧ Wrote W W' g v v' := by
  have HI0 := Aside0.mk hI
  clear hI
  have hn1 : decide ((n : Int) < 1) = false := decide_eq_false (by omega)
  have hn2 : decide ((32 : Int) < (n : Int)) = false := decide_eq_false (by omega)
  have hn3 : decide (32 < n) = false := decide_eq_false (by omega)
  go_enter Try.func11, Try.ntmps11
  go_wp2
  have HIW := Aside0.mk (Wrote.refl W g v)
  go_loopw [1, 6] (fun v1 v6 wr => ∃ (d : Nat) (u : Value), v6 = .int .i64 d ∧ d ≤ n ∧ v1 = .int .u32 ((x / 2 ^ d : Nat) : Int) ∧ Aside0 (IsRW base wr g u (N + 2 ^ len * (x % 2 ^ d)) (len + d)) ∧ Aside0 (Wrote W wr g v u))
    (fun _ v6 _ => n - (intOf v6).toNat)
  case atStart => exact ⟨0, v, rfl, by omega, by simp, ⟨by have := HI0.out; simpa [Nat.mod_one] using this⟩, HIW⟩
  case round =>
    clear HI0 HIW hn1 hn2 hn3
    obtain ⟨d, u, rfl, hd, rfl, HI, HW⟩ := hrel
    by_cases hr : d = n
    · subst hr
      have hr1 : decide (d < d) = false := decide_eq_false (by omega)
      go_wp2
      first | go_end0 | ((try simp only [Exit.inBlock, Exit.then]); refine bodyPost_ret (results_none rfl _ _ _) rfl ?_)
      exact ⟨rfl, u, HI.out, HW.out⟩
    have hr1 : decide ((d : Int) < (n : Int)) = true := decide_eq_true (by omega)
    have hr2 : decide (d < n) = true := decide_eq_true (by omega)
    have hxl : x / 2 ^ d < 4294967296 := Nat.lt_of_le_of_lt (Nat.div_le_self _ _) hx
    have hx2 : x / 2 ^ (d + 1) = x / 2 ^ d / 2 := by rw [Nat.pow_succ, Nat.div_div_eq_div_mul]
    have hmod : x % 2 ^ (d + 1) = x % 2 ^ d + 2 ^ d * (x / 2 ^ d % 2) := by rw [Nat.pow_succ, Nat.mod_mul]
    obtain ⟨M, hM⟩ : ∃ M, N + 2 ^ len * (x % 2 ^ d) = M := ⟨_, rfl⟩
    obtain ⟨m, hm⟩ : ∃ m, len + d = m := ⟨_, rfl⟩
    have hM2 : N + 2 ^ len * (x % 2 ^ (d + 1)) = M + 2 ^ m * (x / 2 ^ d % 2) := by rw [hmod, ← hM, ← hm, Nat.mul_add, Nat.pow_add, Nat.mul_assoc, Nat.add_assoc]
    rw [hM, hm] at HI
    have HX2 := Aside0.mk hx2
    have HM2 := Aside0.mk hM2
    clear hx2 hM2 hmod hM
    obtain ⟨q, hq⟩ : ∃ q, x / 2 ^ d = q := ⟨_, rfl⟩
    rw [hq] at hxl HX2 HM2 ⊢
    clear hq
    obtain ⟨b, hb⟩ : ∃ b, q % 2 = b := ⟨_, rfl⟩
    have hb2 : b < 2 := by omega
    rw [hb] at HM2
    have hq1 : (q : Int) % 2 = (b : Int) := by omega
    have hq3 : (b : Int) % 256 = (b : Int) := by omega
    have HH := Aside0.mk HI.out.1
    have HN := Aside0.mk HI.out.2
    have HSN := Aside0.mk (bitl_snoc M m b HI.out.2 hb2).symm
    have hxl2 : (bitl M m).length = m := bitl_len _ _
    have hmb : m ≤ 1099511627776 + 32 := by omega
    have hne : some g ≠ u.ownBlock := fun e => HH.out.ne (by decide) g e.symm rfl
    have hc0 : wr.cell? ⟨g, 0, none⟩ = some u := (blk_cell HH.out.blk 0).trans rfl
    obtain ⟨xs, hxs⟩ : ∃ xs, bitl M m = xs := ⟨_, rfl⟩
    rw [hxs] at HH hxl2 HSN
    clear hxs hb
    go_wp2_with ((with_reducible refine gate_builtin (b := .append) (xs := #[.tmp 22, .tmp 26]) rfl ?_); at_builtin; refine Kd.R_append (Kd.int .u8) (w0 := wr) base rfl (.tmp 22) (.tmp 26) 29 5 (.int .u8 0) 1 rfl Try.underlying29 z5 rfl (by decide) (by omega) u xs (b : Int) [.int .u8 (b : Int)] (fun k => some k = u.ownBlock ∨ wr.heap.size ≤ k) (fun _ => False) rfl rfl ?aP (fun _ hk => hk.elim) ?aF ?aO ?aB ?aS ?aL ?_; (case aP => rfl); (case aF => exact (fun _ hk => .inr hk)); (case aO => exact Kd.R_mono HH.out.row (fun _ hk => .inl hk)); (case aB => exact Below.refl _ _); (case aS => exact Nat.le_of_lt (Nat.lt_of_le_of_lt HH.out.ge HH.out.lt)); (case aL => omega); intro v6 w6 ho hb hg hat; obtain ⟨A6, c6, rfl⟩ := Kd.R_slice ho; obtain ⟨v6, hv6⟩ : ∃ v6 : Value, Value.slice A6 (xs ++ [(b : Int)]).length c6 = v6 := ⟨_, rfl⟩; have hv6' := Aside0.mk hv6.symm; (try rw [hv6] at ho hat); have HO6 := Aside0.mk (Kd.R_reok rfl ho (fun k hk => hk.symm) : Kd.R (Kd.int .u8) 5 w6 base (fun k => some k = v6.ownBlock) v6 (xs ++ [(b : Int)])); have HB6 := Aside0.mk (blk_grown HH.out.blk hg hne); have HW6 := Aside0.mk (HW.out.grow hg hat); have hc6 := blk_cell HB6.out 0; have hf6 := blk_frozen HB6.out 0; clear ho hb hg hat)
    have e6 := hv6'.out
    subst e6
    refine ⟨⟨d + 1, _, by go_num, by omega, ?_, ⟨?_, ?_⟩, ⟨HW6.out.set 0 _⟩⟩, by simp [intOf]; omega⟩
    · rw [HX2.out]; simp
    · rw [HM2.out, ← Nat.add_assoc, hm, ← HSN.out]
      have h := Holds.turn (v := .slice A6 (xs ++ [(b : Int)]).length c6) (T := 34) ⟨HB6.out, HH.out.ge, HO6.out⟩ 0 HO6.out (by decide)
      rw [show (xs ++ [(b : Int)]).length = m + 1 by rw [List.length_append, hxl2]; rfl] at h ⊢
      exact h
    · rw [HM2.out, ← Nat.add_assoc, hm]
      have h3 := lt_bits M m b 1 HN.out
      rwa [Nat.pow_one, Nat.mod_eq_of_lt hb2] at h3

/-- How long a row in a cell is. -/
def slen (o : Option Value) : Nat := match o with
  | some (.slice _ n _) => n
  | _ => 0
set_option maxHeartbeats 4000000 in
set_option maxRecDepth 100000 in
theorem ralign_calls (base g : Nat) (v : Value) (N len : Nat) (W : World) (hI : IsRW base W g v N len) (hl : len ≤ 1099511627776) :
    Calls Try.prog 13 #[.pointer (some ⟨g, 0, none⟩)] W fun e W' => e = .returned (.tuple #[]) ∧ ∃ v', IsRW base W' g v' N (up8 len) ∧ Wrote W W' g v v' := by
  have HI0 := Aside0.mk hI
  clear hI
  have hu1 : len ≤ up8 len := by unfold up8; omega
  have hu2 : up8 len ≤ len + 7 := by unfold up8; omega
  have hu3 : up8 len % 8 = 0 := by unfold up8; omega
  obtain ⟨L, hL⟩ : ∃ L, up8 len = L := ⟨_, rfl⟩
  rw [hL] at hu1 hu2 hu3 ⊢
  clear hL
  go_enter Try.func13, Try.ntmps13
  go_wp2
  have HIW := Aside0.mk (Wrote.refl W g v)
  go_loopw [] (fun wr => ∃ (m : Nat) (u : Value), len ≤ m ∧ m ≤ L ∧ Aside0 (IsRW base wr g u N m) ∧ Aside0 (Wrote W wr g v u))
    (fun wr => L - slen (wr.cell? ⟨g, 0, none⟩))
  case atStart => exact ⟨len, v, by omega, by omega, HI0, HIW⟩
  case round =>
    clear HI0 HIW
    obtain ⟨m, u, hm1, hm2, HI, HW⟩ := hrel
    obtain ⟨A, c, hu⟩ := HI.out.bits
    have HU := Aside0.mk hu
    have hc0 : wr.cell? ⟨g, 0, none⟩ = some (.slice A m c) := by rw [← hu]; exact (blk_cell HI.out.1.blk 0).trans rfl
    clear hu
    by_cases hr : m = L
    · subst hr
      have h8 : ((m : Int) % 8 != 0) = false := by simp; omega
      have h8' : (m % 8 != 0) = false := by simp; omega
      go_wp2
      first | go_end0 | ((try simp only [Exit.inBlock, Exit.then]); refine bodyPost_ret (results_none rfl _ _ _) rfl ?_)
      exact ⟨rfl, u, HI.out, HW.out⟩
    have h8 : ((m : Int) % 8 != 0) = true := by simp; omega
    have h8' : (m % 8 != 0) = true := by simp; omega
    have HH := Aside0.mk HI.out.1
    have HN := Aside0.mk HI.out.2
    have hsn := bitl_snoc N m 0 HI.out.2 (by omega)
    rw [Nat.mul_zero, Nat.add_zero] at hsn
    have HSN := Aside0.mk hsn.symm
    have hxl2 : (bitl N m).length = m := bitl_len _ _
    have hne : some g ≠ u.ownBlock := fun e => HH.out.ne (by decide) g e.symm rfl
    have HC0 := Aside0.mk hc0
    obtain ⟨xs, hxs⟩ : ∃ xs, bitl N m = xs := ⟨_, rfl⟩
    rw [hxs] at HH hxl2 HSN
    have hR := HH.out.row
    rw [HU.out] at hR
    have HR := Aside0.mk hR
    have hne' : some g ≠ (Value.slice A m c).ownBlock := by rw [← HU.out]; exact hne
    clear hxs hsn hR
    have hWA : Aside0 (Wrote W wr g v (.slice A m c)) := ⟨by rw [← HU.out]; exact HW.out⟩
    go_wp2_with ((with_reducible refine gate_builtin (b := .append) (xs := #[.tmp 13, .tmp 14]) rfl ?_); at_builtin; refine Kd.R_append (Kd.int .u8) (w0 := wr) base rfl (.tmp 13) (.tmp 14) 29 5 (.int .u8 0) 1 rfl Try.underlying29 z5 rfl (by decide) (by omega) (.slice A m c) xs (0 : Int) [.int .u8 0] (fun k => some k = (Value.slice A m c).ownBlock ∨ wr.heap.size ≤ k) (fun _ => False) rfl rfl ?aP (fun _ hk => hk.elim) ?aF ?aO ?aB ?aS ?aL ?_; (case aP => rfl); (case aF => exact (fun _ hk => .inr hk)); (case aO => exact Kd.R_mono HR.out (fun _ hk => .inl hk)); (case aB => exact Below.refl _ _); (case aS => exact Nat.le_of_lt (Nat.lt_of_le_of_lt HH.out.ge HH.out.lt)); (case aL => omega); intro v6 w6 ho hb hg hat; obtain ⟨A6, c6, rfl⟩ := Kd.R_slice ho; obtain ⟨v6, hv6⟩ : ∃ v6 : Value, Value.slice A6 (xs ++ [(0 : Int)]).length c6 = v6 := ⟨_, rfl⟩; have hv6' := Aside0.mk hv6.symm; (try rw [hv6] at ho hat); have HO6 := Aside0.mk (Kd.R_reok rfl ho (fun k hk => hk.symm) : Kd.R (Kd.int .u8) 5 w6 base (fun k => some k = v6.ownBlock) v6 (xs ++ [(0 : Int)])); have HB6 := Aside0.mk (blk_grown HH.out.blk hg hne'); have HW6 := Aside0.mk (hWA.out.grow hg hat); have hc6 := blk_cell HB6.out 0; have hf6 := blk_frozen HB6.out 0; clear ho hb hg hat)
    have e6 := hv6'.out
    subst e6
    have hl6 : (xs ++ [(0 : Int)]).length = m + 1 := by rw [List.length_append, hxl2]; rfl
    have h := Holds.turn (v := .slice A6 (xs ++ [(0 : Int)]).length c6) (T := 34) ⟨HB6.out, HH.out.ge, HO6.out⟩ 0 HO6.out (by decide)
    rw [hl6] at h
    have hIW : IsRW base (w6.setCell ⟨g, 0, none⟩ (.slice A6 (m + 1) c6)) g (.slice A6 (m + 1) c6) N (m + 1) := ⟨by rw [← HSN.out]; exact h, Nat.lt_of_lt_of_le HN.out (Nat.pow_le_pow_right (by decide) (by omega))⟩
    refine ⟨⟨m + 1, .slice A6 (m + 1) c6, by omega, by omega, ⟨hIW⟩, ⟨?_⟩⟩, ?_⟩
    · have h2 := HW6.out.set 0 (.slice A6 (m + 1) c6)
      rw [hl6] at h2
      exact h2
    · have e1 : (w6.setCell ⟨g, 0, none⟩ (.slice A6 (m + 1) c6)).cell? ⟨g, 0, none⟩ = some (.slice A6 (m + 1) c6) := (blk_cell hIW.1.blk 0).trans rfl
      have e2 := HC0.out
      simp only [e1, e2, slen]
      omega
set_option maxHeartbeats 1000000 in
theorem rbytes_calls (base g : Nat) (v : Value) (N len : Nat) (s : ByteArray) (W : World) (hI : IsRW base W g v N len) (hl : len ≤ 1000000000) (hs : s.size ≤ 1000000000) :
    Calls Try.prog 15 #[.pointer (some ⟨g, 0, none⟩), .string s] W fun e W' => e = .returned (.tuple #[]) ∧ ∃ v', IsRW base W' g v' (N + 2 ^ up8 len * leN s.data.toList) (up8 len + 8 * s.size) ∧ Wrote W W' g v v' := by
  have HI := Aside0.mk hI
  clear hI
  have hu2 : up8 len ≤ len + 7 := by unfold up8; omega
  obtain ⟨L, hL⟩ : ∃ L, up8 len = L := ⟨_, rfl⟩
  rw [hL] at hu2 ⊢
  go_enter Try.func15, Try.ntmps15
  go_wp2_with (go_at_call 13; refine (ralign_calls base g v N len _ HI.out (by omega)).mono ?_; rintro e w1 ⟨rfl, u1, hi, hw⟩; have HI1 := Aside0.mk hi; have HW1 := Aside0.mk hw; clear hi hw)
  rw [hL] at HI1
  clear hL HI
  go_loopw [4] (fun v4 wr => ∃ (i : Nat) (u : Value), v4 = .int .i64 i ∧ i ≤ s.size ∧ Aside0 (IsRW base wr g u (N + 2 ^ L * leN (s.data.toList.take i)) (L + 8 * i)) ∧ Aside0 (Wrote W wr g v u))
    (fun v4 _ => s.size - (intOf v4).toNat)
  case atStart => exact ⟨0, u1, rfl, by omega, ⟨by have := HI1.out; simpa [leN] using this⟩, HW1⟩
  case round =>
    clear HI1 HW1
    obtain ⟨i, u, rfl, hi, HI, HW⟩ := hrel
    by_cases hlt : i < s.size
    · have hd : decide (i < s.size) = true := decide_eq_true hlt
      have hx0 : ∀ h : i < s.size, ((s[i]'h).toNat : Int) = bt s i := bt_at s i
      have hb := bt_nat s i (by simpa using hlt)
      have hlt2 : i < s.data.toList.length := by simpa using hlt
      have hbl := (s.data.toList[i]).toNat_lt
      have hle : leN (s.data.toList.take (i + 1)) = leN (s.data.toList.take i) + 256 ^ i * (s.data.toList[i]).toNat := by
        rw [List.take_succ_eq_append_getElem hlt2, leN_append, List.length_take, Nat.min_eq_left (by omega)]
        simp [leN]
      have HLE := Aside0.mk hle
      clear hle
      obtain ⟨y, hy⟩ : ∃ y, (s.data.toList[i]).toNat = y := ⟨_, rfl⟩
      rw [hy] at hb hbl HLE
      rw [hb] at hx0
      clear hy hb
      have p0 := eq_true (show (0 : Int) ≤ (i : Int) by omega)
      have p1 := eq_true (show (i : Int) < (s.size : Int) by omega)
      go_wp2_with (go_at_call 11; refine (rwrite_calls base g u _ _ y 8 _ HI.out (by omega) (by omega) (by omega) (by omega)).mono ?_; rintro e w5 ⟨rfl, u5, hi5, hw5⟩; have HI5 := Aside0.mk hi5; have HW5 := Aside0.mk (HW.out.trans hw5); clear hi5 hw5)
      refine ⟨⟨i + 1, u5, by go_num, by omega, ⟨?_⟩, HW5⟩, by simp [intOf]; omega⟩
      have h := HI5.out
      rw [show (2 : Nat) ^ 8 = 256 from rfl, Nat.mod_eq_of_lt (by omega)] at h
      rw [HLE.out, show L + 8 * (i + 1) = L + 8 * i + 8 by omega, Nat.mul_add, ← Nat.add_assoc, pow256, ← Nat.mul_assoc, ← Nat.pow_add]
      exact h
    · have hd : decide (i < s.size) = false := decide_eq_false hlt
      obtain rfl : i = s.size := by omega
      go_wp2
      first | go_end0 | ((try simp only [Exit.inBlock, Exit.then]); refine bodyPost_ret (results_none rfl _ _ _) rfl ?_)
      have h := HI.out
      rw [List.take_of_length_le (by simp)] at h
      exact ⟨rfl, u, h, HW.out⟩
end Go.Proofs.Ytdbekngboogaoaa.Rw
