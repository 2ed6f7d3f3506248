/- The reference's ParseStamp and PrintStamp: three times in an array: the walks. -/
import Derived.Test.YtloojhhjljneeaaPlainStamps
import Derived.Test.YtloojhhjljneeaaArr
import Derived.Test.YtloojhhjljneeaaPx5
import Derived.Test.YtloojhhjljneeaaPx7
namespace Go.Proofs.Ytloojhhjljneeaa.St
set_option linter.unusedVariables false
set_option linter.unusedSimpArgs false
open Go Go.RowKit Go.Proofs.Ytloojhhjljneeaa.P Go.Proofs.Ytloojhhjljneeaa.B Go.Proofs.Ytloojhhjljneeaa.Num Go.Proofs.Ytloojhhjljneeaa.Cur Go.Proofs.YtloojhhjljneeaaW.PrintWords Go.Proofs.YtloojhhjljneeaaW.PrintLast Go.Proofs.YtloojhhjljneeaaW.PrintMore

theorem bt_cons {s : ByteArray} {b : UInt8} {R : List UInt8} (h : s.data.toList = b :: R) : bt s 0 = (b.toNat : Int) := by
  have hl : 0 < s.data.toList.length := by rw [h]; simp
  have := bt_nat s 0 hl
  simpa [h] using this
theorem told_no {f i q : Nat} {c : Bool} (hq : f / 2 ^ i = q) (h : q % 2 ≠ 1) : told f i c = false := by
  unfold told; rw [hq, decide_eq_false h]; rfl
theorem told_central {f i : Nat} (h : i ≠ 0) : told f i true = false := by
  unfold told; rw [decide_eq_false (p := i = 0) h]; simp
theorem told_zero {f q : Nat} {c : Bool} (hq : f / 2 ^ 0 = q) (h : q % 2 = 1) : told f 0 c = true := by
  unfold told; rw [hq, decide_eq_true h]; rfl
theorem told_yes {f i q : Nat} (hq : f / 2 ^ i = q) (h : q % 2 = 1) : told f i false = true := by
  unfold told; rw [hq, decide_eq_true h]; simp
set_option maxHeartbeats 8000000 in
set_option maxRecDepth 100000 in
theorem refparse_calls (s : ByteArray) (c : Bool) (hs : s.size ≤ 1000000) (r1 r2 r3 r4 r5 : Int) (w : World) (h : parsed s.data.toList c = (r1, r2, r3, r4, r5)) :
    Calls Try.prog 14 #[.string s, .bool c] w fun e w' => e = .returned (.tuple #[.agg #[.int .u8 r1, .int .i32 r2, .int .i32 r3, .int .i32 r4], .int .i64 r5]) ∧ Below w.heap.size w w' := by
  have hu := Try.underlying37
  rcases hL : s.data.toList with _ | ⟨b, R⟩
  · rw [hL] at h
    obtain ⟨rfl, rfl, rfl, rfl, rfl⟩ : r1 = 0 ∧ r2 = 0 ∧ r3 = 0 ∧ r4 = 0 ∧ r5 = 24 := by simpa [parsed, eq_comm] using h
    have hz : s.size = 0 := by rw [← toList_length s, hL]; rfl
    have hd0 : ((s.size : Int) == 0) = true := by simp [hz]
    have hd1 : (s.size == 0) = true := by simp [hz]
    clear h hL
    go_enter Try.func14, Try.ntmps14
    go_wp2
    refine bodyPost_ret (v := .tuple #[.agg #[.int .u8 0, .int .i32 0, .int .i32 0, .int .i32 0], .int .i64 24]) (by simp [results, Try.results14, go_sem]) rfl ⟨rfl, below_alloc (below_alloc (Below.refl _ _) _) _⟩
  · have hbt := bt_cons hL
    have hbl := b.toNat_lt
    have hz : 0 < s.size := by rw [← toList_length s, hL]; simp
    have hd0 : ((s.size : Int) == 0) = false := beq_eq_false_iff_ne.2 (by omega)
    have hd1 : (s.size == 0) = false := beq_eq_false_iff_ne.2 (by omega)
    have p0 := eq_true (show (0 : Int) ≤ 0 by omega)
    have q0 := eq_true (show (0 : Int) < (s.size : Int) by omega)
    have q1 := eq_true (show (1 : Int) ≤ (s.size : Int) by omega)
    have hx0 : ∀ h : 0 < s.size, ((s[0]'h).toNat : Int) = bt s 0 := bt_at s 0
    rw [hbt] at hx0
    rw [hL] at h
    have hR : (s.extract 1 s.size).data.toList = R := by rw [extract_list, hL, List.take_of_length_le (by rw [← toList_length s, hL]; simp)]; rfl
    obtain ⟨f, hf⟩ : ∃ f, b.toNat = f := ⟨_, rfl⟩
    unfold parsed at h
    simp only [hf] at h
    rw [hf] at hx0 hbl
    by_cases h7 : 7 < f
    · have hd7 : decide (7 < f) = true := decide_eq_true h7
      have hd7' : decide ((7 : Int) < (f : Int)) = true := decide_eq_true (by omega)
      rw [if_pos h7] at h
      obtain ⟨rfl, rfl, rfl, rfl, rfl⟩ : r1 = 0 ∧ r2 = 0 ∧ r3 = 0 ∧ r4 = 0 ∧ r5 = 24 := by simpa [eq_comm] using h
      clear h hL hR hbt hf
      go_enter Try.func14, Try.ntmps14
      go_wp2
      refine bodyPost_ret (v := .tuple #[.agg #[.int .u8 0, .int .i32 0, .int .i32 0, .int .i32 0], .int .i64 24]) (by simp [results, Try.results14, go_sem]) rfl ⟨rfl, below_alloc (below_alloc (Below.refl _ _) _) _⟩
    have hd7 : decide (7 < f) = false := decide_eq_false h7
    have hd7' : decide ((7 : Int) < (f : Int)) = false := decide_eq_false (by omega)
    rw [if_neg h7] at h
    obtain ⟨t0, ht0⟩ : ∃ t, s.extract 1 s.size = t := ⟨_, rfl⟩
    have hts : t0.size ≤ 1000000 := by rw [← ht0]; simp; omega
    rw [ht0] at hR
    rw [← hR] at h
    have H := Aside0.mk h
    have HT := Aside0.mk hts
    clear h hL hR hbt hf hts
    go_enter Try.func14, Try.ntmps14
    go_wp2
    have HB := Aside0.mk (below_alloc (below_alloc (Below.refl w.heap.size w) (.cells #[.int .u8 0, .int .i32 0, .int .i32 0, .int .i32 0] 37)) (.cells #[.int .u8 (f : Int), .int .i32 0, .int .i32 0, .int .i32 0] 37))
    have HX : Aside0 (((w.alloc (.cells #[.int .u8 0, .int .i32 0, .int .i32 0, .int .i32 0] 37)).alloc (.cells #[.int .u8 (f : Int), .int .i32 0, .int .i32 0, .int .i32 0] 37)).heap[w.heap.size + 1]? = some (.cells #[.int .u8 (f : Int), .int .i32 0, .int .i32 0, .int .i32 0] 37 (0, 0))) := ⟨by have := heap_alloc_new (w.alloc (.cells #[.int .u8 0, .int .i32 0, .int .i32 0, .int .i32 0] 37)) (.cells #[.int .u8 (f : Int), .int .i32 0, .int .i32 0, .int .i32 0] 37); simpa using this⟩
    have HY : Aside0 (((w.alloc (.cells #[.int .u8 0, .int .i32 0, .int .i32 0, .int .i32 0] 37)).alloc (.cells #[.int .u8 (f : Int), .int .i32 0, .int .i32 0, .int .i32 0] 37)).heap[w.heap.size]? = some (.cells #[.int .u8 0, .int .i32 0, .int .i32 0, .int .i32 0] 37 (0, 0))) := ⟨blk_alloc (heap_alloc_new w _) _⟩
    clear hx0 p0 q0 q1 hd0 hd1 hz hd7 hd7' hs
    go_loopw [0, 7, 8] (fun v0 v7 v8 wr => ∃ (t : ByteArray) (i k : Nat) (x0 x1 x2 : Int), v0 = .string t ∧ v7 = .int .u8 (k : Int) ∧ v8 = .int .i64 i ∧ i ≤ 3 ∧ Aside0 (k = 2 ^ i) ∧ Aside0 (t.size ≤ 1000000) ∧ Aside0 (rest f c (3 - i) i t.data.toList x0 x1 x2 = (r1, r2, r3, r4, r5))
        ∧ Aside0 (wr.heap[w.heap.size + 1]? = some (.cells #[.int .u8 (f : Int), .int .i32 x0, .int .i32 x1, .int .i32 x2] 37 (0, 0))) ∧ Aside0 (wr.heap[w.heap.size]? = some (.cells #[.int .u8 0, .int .i32 0, .int .i32 0, .int .i32 0] 37 (0, 0))) ∧ Aside0 (Below w.heap.size w wr))
      (fun _ _ v8 _ => 3 - (intOf v8).toNat)
    case atStart => exact ⟨t0, 0, 1, 0, 0, 0, rfl, rfl, rfl, by omega, ⟨rfl⟩, HT, H, HX, HY, HB⟩
    case round =>
      clear H HT HX HY HB
      obtain ⟨t, i, k, x0, x1, x2, rfl, rfl, rfl, hi, HK, HT, H, HX, HY, HB⟩ := hrel
      have hx0 := blk_cell HX.out 0
      have hx1 := blk_cell HX.out 1
      have hx2 := blk_cell HX.out 2
      have hx3 := blk_cell HX.out 3
      have hy0 := blk_cell HY.out 0
      have hy1 := blk_cell HY.out 1
      have hy2 := blk_cell HY.out 2
      have hy3 := blk_cell HY.out 3
      have fy0 := blk_frozen HY.out 0
      have fy1 := blk_frozen HY.out 1
      have fy2 := blk_frozen HY.out 2
      have fy3 := blk_frozen HY.out 3
      by_cases hlt : i < 3
      · have hd : decide (i < 3) = true := decide_eq_true hlt
        obtain ⟨q, hq⟩ : ∃ q, f / 2 ^ i = q := ⟨_, rfl⟩
        have hkk : k = 2 ^ i := HK.out
        have hqk : f / k = q := by rw [hkk]; exact hq
        have hk4 : k ≤ 4 := by rw [hkk]; calc 2 ^ i ≤ 2 ^ 2 := Nat.pow_le_pow_right (by decide) (by omega)
          _ = 4 := by decide
        have hk1 : 1 ≤ k := by rw [hkk]; exact Nat.pow_pos (by decide)
        have hq1 : Int.tdiv (f : Int) (k : Int) = (q : Int) := by rw [← hqk]; exact (Int.ofNat_tdiv f k).symm
        have hq2 : (f : Int) / (k : Int) = (q : Int) := by rw [← hqk]; simp
        have hq8 : q < 8 := by rw [← hqk]; exact Nat.lt_of_le_of_lt (Nat.div_le_self _ _) (by omega)
        have hk0 : ((k : Int) == 0) = false := by simp; omega
        have HQ := Aside0.mk hq
        clear hq hqk hkk
        have H3 : Aside0 (rest f c (2 - i + 1) i t.data.toList x0 x1 x2 = (r1, r2, r3, r4, r5)) := ⟨by rw [show 2 - i + 1 = 3 - i by omega]; exact H.out⟩
        have HK2 : Aside0 (k * 2 = 2 ^ (i + 1)) := ⟨by rw [Nat.pow_succ, HK.out]⟩
        clear H HK
        have skip : told f i c = false → Aside0 (rest f c (3 - (i + 1)) (i + 1) t.data.toList x0 x1 x2 = (r1, r2, r3, r4, r5)) := fun h => ⟨by have := H3.out; rw [rest_skip h] at this; rw [show 3 - (i + 1) = 2 - i by omega]; exact this⟩
        have SKIP := Aside0.mk skip
        clear skip
        by_cases hb : q % 2 = 1
        · have hb1 : ((q : Int) % 2 == 1) = true := by simp; omega
          have hb2 : (q % 2 == 1) = true := by simp; omega
          by_cases hyes : told f i c = true
          · have YES := Aside0.mk hyes
            have hct : (i = 0) ∨ (c = false) := by
              unfold told at hyes
              rw [HQ.out, decide_eq_true hb] at hyes
              cases c <;> simp at hyes ⊢
              exact hyes
            clear hyes
            by_cases hl : t.size < 4
            · have hl1 : decide (t.size < 4) = true := decide_eq_true hl
              have hl2 : decide ((t.size : Int) < 4) = true := decide_eq_true (by omega)
              obtain ⟨rfl, rfl, rfl, rfl, rfl⟩ : r1 = 0 ∧ r2 = 0 ∧ r3 = 0 ∧ r4 = 0 ∧ r5 = 24 := by
                have := H3.out
                rw [rest_short YES.out (by rw [toList_length]; exact hl)] at this
                simpa [eq_comm] using this
              by_cases h0 : i = 0
              · have h01 : ((i : Int) == 0) = true := by simp [h0]
                have h02 : (i == 0) = true := by simp [h0]
                clear h0 hct
                go_wp2
                refine bodyPost_ret (v := .tuple #[.agg #[.int .u8 0, .int .i32 0, .int .i32 0, .int .i32 0], .int .i64 24]) (by simp [results, Try.results14, go_sem, hy0, hy1, hy2, hy3]) rfl ⟨rfl, below_set (below_set (below_set (below_set HB.out (Nat.le_refl _)) (Nat.le_refl _)) (Nat.le_refl _)) (Nat.le_refl _)⟩
              · obtain rfl := hct.resolve_left h0
                have h01 : ((i : Int) == 0) = false := by simp [h0]
                have h02 : (i == 0) = false := by simp [h0]
                clear h0 hct
                go_wp2
                refine bodyPost_ret (v := .tuple #[.agg #[.int .u8 0, .int .i32 0, .int .i32 0, .int .i32 0], .int .i64 24]) (by simp [results, Try.results14, go_sem, hy0, hy1, hy2, hy3]) rfl ⟨rfl, below_set (below_set (below_set (below_set HB.out (Nat.le_refl _)) (Nat.le_refl _)) (Nat.le_refl _)) (Nat.le_refl _)⟩
            · have hl1 : decide (t.size < 4) = false := decide_eq_false hl
              have hl2 : decide ((t.size : Int) < 4) = false := decide_eq_false (by omega)
              have hsz : (t.extract 0 4).size = 4 := by simp; omega
              have hzz := signed_eq (t.extract 0 4) hsz
              rw [extract_list] at hzz
              have htk := H3.out
              rw [rest_take YES.out (by rw [toList_length]; exact hl)] at htk
              obtain ⟨z, hz⟩ : ∃ z, i32 (leN (t.data.toList.take 4)) = z := ⟨_, rfl⟩
              rw [List.drop_zero, hz] at hzz
              rw [hz] at htk
              have SG := Aside0.mk hzz
              have hdr : (t.extract 4 t.size).data.toList = t.data.toList.drop 4 := by rw [extract_list, List.take_of_length_le (by rw [toList_length]; omega)]
              have TK : Aside0 (rest f c (3 - (i + 1)) (i + 1) (t.extract 4 t.size).data.toList (if i = 0 then z else x0) (if i = 1 then z else x1) (if i = 2 then z else x2) = (r1, r2, r3, r4, r5)) := ⟨by rw [hdr, show 3 - (i + 1) = 2 - i by omega]; exact htk⟩
              have HT4 : Aside0 ((t.extract 4 t.size).size ≤ 1000000) := ⟨by have := HT.out; simp; omega⟩
              clear hzz htk hz hdr hsz
              have q1 := eq_true (show (4 : Int) ≤ (t.size : Int) by omega)
              have q2 := eq_true (show (0 : Int) ≤ 4 by omega)
              have hi1 : decide ((i : Int) < 3) = true := decide_eq_true (by omega)
              have hci : ∃ u, wr.cell? ⟨w.heap.size + 1, 1 + i, none⟩ = some (.int .i32 u) := by
                have hi3 : i = 0 ∨ i = 1 ∨ i = 2 := by omega
                rcases hi3 with rfl | rfl | rfl
                · exact ⟨_, hx1⟩
                · exact ⟨_, hx2⟩
                · exact ⟨_, hx3⟩
              obtain ⟨u, hcu⟩ := hci
              have hfu := blk_frozen HX.out (1 + i)
              by_cases h0 : i = 0
              · have h01 : ((i : Int) == 0) = true := by simp [h0]
                have h02 : (i == 0) = true := by simp [h0]
                clear h0 hct
                go_wp2_with (go_at_call 32; refine (portmanteauref14_signed.calls 40 _ _ _ SG.out).mono ?_; rintro e w1 ⟨rfl, ⟨m, rfl⟩⟩)
                refine ⟨⟨_, i + 1, k * 2, _, _, _, rfl, by go_num, by go_num, by omega, HK2, HT4, TK, ⟨?_⟩, ⟨?_⟩, ⟨below_set (pw_below_drewN HB.out _) (Nat.le_succ _)⟩⟩, by simp [intOf]; omega⟩
                · have hbs := blk_set (w := wr.drewN m) HX.out (1 + i) (.int .i32 z)
                  have hi3 : i = 0 ∨ i = 1 ∨ i = 2 := by omega
                  rcases hi3 with rfl | rfl | rfl <;> exact hbs
                · exact blk_far (w := wr.drewN m) HY.out (p := ⟨w.heap.size + 1, 1 + i, none⟩) (by simp) _
              · obtain rfl := hct.resolve_left h0
                have h01 : ((i : Int) == 0) = false := by simp [h0]
                have h02 : (i == 0) = false := by simp [h0]
                clear h0 hct
                go_wp2_with (go_at_call 32; refine (portmanteauref14_signed.calls 40 _ _ _ SG.out).mono ?_; rintro e w1 ⟨rfl, ⟨m, rfl⟩⟩)
                refine ⟨⟨_, i + 1, k * 2, _, _, _, rfl, by go_num, by go_num, by omega, HK2, HT4, TK, ⟨?_⟩, ⟨?_⟩, ⟨below_set (pw_below_drewN HB.out _) (Nat.le_succ _)⟩⟩, by simp [intOf]; omega⟩
                · have hbs := blk_set (w := wr.drewN m) HX.out (1 + i) (.int .i32 z)
                  have hi3 : i = 0 ∨ i = 1 ∨ i = 2 := by omega
                  rcases hi3 with rfl | rfl | rfl <;> exact hbs
                · exact blk_far (w := wr.drewN m) HY.out (p := ⟨w.heap.size + 1, 1 + i, none⟩) (by simp) _
          · have hno : told f i c = false := by simpa using hyes
            have hc2 : i ≠ 0 ∧ c = true := by
              unfold told at hno
              rw [HQ.out, decide_eq_true hb] at hno
              cases c <;> simp at hno ⊢
              exact hno
            obtain ⟨h0, rfl⟩ := hc2
            have h01 : ((i : Int) == 0) = false := by simp [h0]
            have h02 : (i == 0) = false := by simp [h0]
            clear hyes
            go_wp2
            refine ⟨⟨t, i + 1, k * 2, x0, x1, x2, rfl, by go_num, by go_num, by omega, HK2, HT, SKIP.out hno, HX, HY, HB⟩, by simp [intOf]; omega⟩
        · have hb1 : ((q : Int) % 2 == 1) = false := by simp; omega
          have hb2 : (q % 2 == 1) = false := by simp; omega
          have hno : told f i c = false := told_no HQ.out hb
          go_wp2
          refine ⟨⟨t, i + 1, k * 2, x0, x1, x2, rfl, by go_num, by go_num, by omega, HK2, HT, SKIP.out hno, HX, HY, HB⟩, by simp [intOf]; omega⟩
      · have hd : decide (i < 3) = false := decide_eq_false hlt
        obtain rfl : i = 3 := by omega
        have h := H.out
        rw [show 3 - 3 = 0 from rfl, rest] at h
        by_cases hp : 0 < t.size
        · have hd1 : decide (0 < t.size) = true := decide_eq_true hp
          have hne : t.data.toList ≠ [] := by intro e; rw [← toList_length t, e] at hp; simp at hp
          cases c with
          | false =>
            rw [if_pos ⟨hne, rfl⟩] at h
            obtain ⟨rfl, rfl, rfl, rfl, rfl⟩ : r1 = 0 ∧ r2 = 0 ∧ r3 = 0 ∧ r4 = 0 ∧ r5 = 24 := by simpa [eq_comm] using h
            clear h H
            go_wp2
            refine bodyPost_ret (v := .tuple #[.agg #[.int .u8 0, .int .i32 0, .int .i32 0, .int .i32 0], .int .i64 24]) (by simp [results, Try.results14, go_sem, hy0, hy1, hy2, hy3]) rfl ⟨rfl, below_set (below_set (below_set (below_set HB.out (Nat.le_refl _)) (Nat.le_refl _)) (Nat.le_refl _)) (Nat.le_refl _)⟩
          | true =>
            rw [if_neg (by simp)] at h
            obtain ⟨rfl, rfl, rfl, rfl, rfl⟩ : (f : Int) = r1 ∧ x0 = r2 ∧ x1 = r3 ∧ x2 = r4 ∧ r5 = 0 := by simpa [eq_comm] using h
            clear h H
            go_wp2
            refine bodyPost_ret (v := .tuple #[.agg #[.int .u8 (f : Int), .int .i32 x0, .int .i32 x1, .int .i32 x2], .int .i64 0]) (by simp [results, Try.results14, go_sem, hy0, hy1, hy2, hy3]) rfl ⟨rfl, below_set (below_set (below_set (below_set HB.out (Nat.le_refl _)) (Nat.le_refl _)) (Nat.le_refl _)) (Nat.le_refl _)⟩
        · have hd1 : decide (0 < t.size) = false := decide_eq_false hp
          have hne : t.data.toList = [] := by apply List.eq_nil_of_length_eq_zero; rw [toList_length]; omega
          rw [if_neg (by rw [hne]; simp)] at h
          obtain ⟨rfl, rfl, rfl, rfl, rfl⟩ : (f : Int) = r1 ∧ x0 = r2 ∧ x1 = r3 ∧ x2 = r4 ∧ r5 = 0 := by simpa [eq_comm] using h
          clear h H
          go_wp2
          refine bodyPost_ret (v := .tuple #[.agg #[.int .u8 (f : Int), .int .i32 x0, .int .i32 x1, .int .i32 x2], .int .i64 0]) (by simp [results, Try.results14, go_sem, hy0, hy1, hy2, hy3]) rfl ⟨rfl, below_set (below_set (below_set (below_set HB.out (Nat.le_refl _)) (Nat.le_refl _)) (Nat.le_refl _)) (Nat.le_refl _)⟩
end Go.Proofs.Ytloojhhjljneeaa.St
