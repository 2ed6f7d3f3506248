/- MatchCopies: a text that begins with three bytes, three times in a row, has a copy among its tokens; nine times alone they are few. -/
import Derived.Test.YtgpmhdefpbmhjaaRuns
import Derived.Test.YtgpmhdefpbmhjaaPx12
namespace Go.Proofs.Ytgpmhdefpbmhjaa.Pure
set_option linter.unusedVariables false
set_option linter.unusedSimpArgs false
open Go Go.RowKit Go.Proofs.Ytgpmhdefpbmhjaa.P Go.Proofs.Ytgpmhdefpbmhjaa.B Go.Proofs.Ytgpmhdefpbmhjaa.D7 Go.Proofs.Ytgpmhdefpbmhjaa.Ch Go.Proofs.Ytgpmhdefpbmhjaa.Fi Go.Proofs.YtgpmhdefpbmhjaaW.PrintWords Go.Proofs.YtgpmhdefpbmhjaaW.PrintLast
def Has (L : List Tok) : Prop := ∃ t ∈ L, 0 < t.f1
theorem has_app {a : List Tok} (b : List Tok) (h : Has a) : Has (a ++ b) := by
  obtain ⟨t, ht, h⟩ := h
  exact ⟨t, List.mem_append_left _ ht, h⟩
theorem find_pre (s : ByteArray) (e : S53) : ∀ k p out, ∃ b, findGo s e k p out = out ++ b
  | 0, p, out => ⟨[], by simp [findGo]⟩
  | k + 1, p, out => by
    unfold findGo
    split
    · split
      · obtain ⟨b, h⟩ := find_pre s e k (p + 1) (out ++ [⟨bt s p, 0, 0⟩])
        exact ⟨_, by rw [h, List.append_assoc]⟩
      · obtain ⟨b, h⟩ := find_pre s e k (p + (takeL s e p).toNat) (out ++ [⟨0, takeL s e p, (bestL s e p).2⟩])
        exact ⟨_, by rw [h, List.append_assoc]⟩
    · exact ⟨[], by simp⟩
theorem has_find (s : ByteArray) (e : S53) (k p : Nat) (out : List Tok) (h : Has out) : Has (findGo s e k p out) := by
  obtain ⟨b, hb⟩ := find_pre s e k p out
  rw [hb]
  exact has_app b h
theorem has_last (out : List Tok) (t : Tok) (h : 0 < t.f1) : Has (out ++ [t]) := ⟨t, by simp, h⟩
/-- Where a copy is found one comes, at once or farther on. -/
theorem has_from (s : ByteArray) (e : S53) : ∀ k p out, s.size < k + p → p ≤ s.size → 3 ≤ (bestL s e p).1 → Has (findGo s e k p out)
  | 0, p, out, h1, h2, h3 => by omega
  | k + 1, p, out, h1, h2, h3 => by
    have hf := bestL_fine s e p h2
    have hlt : p < s.size := by have := hf.2.2.1; omega
    rw [findGo, if_pos hlt]
    by_cases ht : takeL s e p < 3
    · rw [if_pos ht]
      have hn : (bestL s e p).1 < (bestL s e (p + 1)).1 := by
        unfold takeL at ht
        split at ht
        · next q => exact q.2.2.2
        · omega
      exact has_from s e k (p + 1) _ (by omega) (by omega) (by omega)
    · rw [if_neg ht]
      exact has_find _ _ _ _ _ (has_last _ _ (by show 0 < takeL s e p; omega))
theorem go_mono (s : ByteArray) (p : Nat) (good : Int) : ∀ cs l d, l ≤ (bestGo s p good cs l d).1
  | [], l, d => Int.le_refl _
  | c :: r, l, d => by
    unfold bestGo
    split
    · exact Int.le_refl _
    split
    · next h =>
      split
      · exact Int.le_of_lt h
      · exact Int.le_trans (Int.le_of_lt h) (go_mono s p good r _ _)
    · split
      · exact Int.le_refl _
      · exact go_mono s p good r _ _
theorem same_ge (s : ByteArray) (a b : Nat) (h : ∀ j : Nat, j < 3 → bt s ((a + j : Nat) : Int) = bt s ((b + j : Nat) : Int)) (hb : b + 3 ≤ s.size) : 3 ≤ sameN s a b := by
  unfold sameN
  have e : sameGo s a b 258 0 = sameGo s a b 255 3 := by
    rw [show 258 = 257 + 1 from rfl, sameGo, if_pos ⟨by omega, h 0 (by omega)⟩, show 257 = 256 + 1 from rfl, sameGo, if_pos ⟨by omega, h 1 (by omega)⟩, show 256 = 255 + 1 from rfl, sameGo, if_pos ⟨by omega, h 2 (by omega)⟩]
  rw [e]
  exact (same_facts s a b 255 3 (by omega)).1
theorem tri_bt (s : ByteArray) (a b : Nat) (ha : a + 3 ≤ s.size) (hb : b + 3 ≤ s.size) (h : tri s a = tri s b) : ∀ j : Nat, j < 3 → bt s ((a + j : Nat) : Int) = bt s ((b + j : Nat) : Int) := by
  unfold tri at h
  injection h with h0 h
  injection h with h1 h2
  intro j hj
  have : j = 0 ∨ j = 1 ∨ j = 2 := by omega
  rcases this with rfl | rfl | rfl
  · rw [tri_at s (a + 0) (by omega), tri_at s (b + 0) (by omega)]; simp only [Nat.add_zero, h0]
  · rw [tri_at s (a + 1) (by omega), tri_at s (b + 1) (by omega), h1]
  · rw [tri_at s (a + 2) (by omega), tri_at s (b + 2) (by omega), h2]
theorem pos_of (s : ByteArray) (t : Tri) (i : Nat) (h3 : i + 3 ≤ s.size) (ht : tri s i = t) : ∀ n, i < n → (i : Int) ∈ posL s t n
  | 0, h => by omega
  | n + 1, h => by
    rw [pos_succ]
    by_cases e : n = i
    · subst e; rw [if_pos ⟨h3, ht⟩]; simp
    · have := pos_of s t i h3 ht n (by omega)
      split
      · exact List.mem_append_left _ this
      · exact this
/-- The last place is looked at first. -/
theorem last_cons (zs : List Int) (n : Int) (hn : 1 ≤ n) (hz : zs ≠ []) : ∃ c r, lastOf zs n = c :: r ∧ c ∈ zs := by
  have hl : zs.length ≠ 0 := fun h => hz (List.length_eq_zero_iff.1 h)
  unfold lastOf
  cases hd : (zs.drop (zs.length - n.toNat)).reverse with
  | nil =>
    have := congrArg List.length hd
    rw [List.length_reverse, List.length_drop] at this
    simp at this
    omega
  | cons c r => exact ⟨c, r, rfl, List.mem_of_mem_drop (List.mem_reverse.1 (by rw [hd]; simp))⟩
theorem best_ge (s : ByteArray) (e : S53) (he : 1 ≤ e.f0) (p i : Nat) (hi : i < p) (hp : p + 3 ≤ s.size) (hw : p ≤ 32768) (ht : tri s i = tri s p) : 3 ≤ (bestL s e p).1 := by
  unfold bestL
  rw [if_neg (by omega)]
  have hm := pos_of s (tri s p) i (by omega) ht p hi
  obtain ⟨c, r, hc, hcm⟩ := last_cons (posL s (tri s p) p) e.f0 he (fun h => by rw [h] at hm; cases hm)
  rw [hc]
  obtain ⟨j, rfl, hj, hj3, hjt⟩ := pos_mem s _ p c hcm
  have hs3 := same_ge s j p (tri_bt s j p hj3 hp hjt) hp
  rw [bestGo, if_neg (by omega), Int.toNat_natCast, if_pos (by omega)]
  split
  · show (3 : Int) ≤ (sameN s j p : Int); omega
  · have := go_mono s p e.f1 r (sameN s j p : Int) ((p : Int) - j)
    omega
theorem eff_ge (l : Int) : 1 ≤ (effL l).f0 := by
  unfold effL
  repeat' split
  all_goals decide
theorem copies_has (s : ByteArray) (l : Int) (h9 : 9 ≤ s.size) (ht : tri s 0 = tri s 3) : Has (findGo s (effL l) (s.size + 1) 0 []) := by
  have h3 := best_ge s (effL l) (eff_ge l) 3 0 (by omega) (by omega) (by omega) ht
  have step : ∀ k p out, p < 3 → (∀ out, Has (findGo s (effL l) k (p + 1) out)) → Has (findGo s (effL l) (k + 1) p out) := by
    intro k p out hp h
    rw [findGo, if_pos (by omega)]
    split
    · exact h _
    · next q => exact has_find _ _ _ _ _ (has_last _ _ (by show 0 < takeL s (effL l) p; omega))
  obtain ⟨m, hm⟩ : ∃ m, s.size = m + 2 := ⟨s.size - 2, by omega⟩
  rw [hm, show m + 2 + 1 = ((m + 1) + 1) + 1 by omega]
  refine step _ 0 _ (by omega) (fun o => step _ 1 _ (by omega) (fun o => ?_))
  obtain ⟨q, hq⟩ : ∃ q, m = q + 1 := ⟨m - 1, by omega⟩
  rw [hq, show q + 1 + 1 = (q + 1) + 1 from rfl]
  exact step _ 2 _ (by omega) (fun o => has_from s (effL l) _ 3 _ (by omega) (by omega) h3)
/-- A text of period three. -/
def Per (s : ByteArray) : Prop := s.size = 27 ∧ ∀ i : Nat, i + 3 < 27 → bt s ((i + 3 : Nat) : Int) = bt s (i : Int)
theorem per_add (s : ByteArray) (h : Per s) (a b : Nat) (h3 : ∀ j : Nat, j < 3 → bt s ((a + j : Nat) : Int) = bt s ((b + j : Nat) : Int)) (hab : a ≤ b) : ∀ n j : Nat, j < n → b + j < 27 → bt s ((a + j : Nat) : Int) = bt s ((b + j : Nat) : Int)
  | 0, j, hn, hj => by omega
  | n + 1, j, hn, hj => by
    by_cases hjl : j < 3
    · exact h3 j hjl
    · have ih := per_add s h a b h3 hab n (j - 3) (by omega) (by omega)
      have p1 := h.2 (a + (j - 3)) (by omega)
      have p2 := h.2 (b + (j - 3)) (by omega)
      rw [show a + (j - 3) + 3 = a + j by omega] at p1
      rw [show b + (j - 3) + 3 = b + j by omega] at p2
      rw [p1, p2, ih]
theorem same_all (s : ByteArray) (a b : Nat) (h : ∀ j : Nat, b + j < s.size → bt s ((a + j : Nat) : Int) = bt s ((b + j : Nat) : Int)) : ∀ k n, b + n ≤ s.size → s.size - (b + n) ≤ k → sameGo s a b k n = s.size - b
  | 0, n, h1, h2 => by unfold sameGo; omega
  | k + 1, n, h1, h2 => by
    unfold sameGo
    by_cases hl : b + n < s.size
    · rw [if_pos ⟨hl, h n hl⟩]
      exact same_all s a b h k (n + 1) (by omega) (by omega)
    · rw [if_neg (fun q => hl q.1)]; omega
theorem per_same (s : ByteArray) (h : Per s) (c p : Nat) (hc : c < p) (hp : p + 3 ≤ 27) (ht : tri s c = tri s p) : sameN s c p = 27 - p := by
  have hz := h.1
  have h3 := tri_bt s c p (by omega) (by omega) ht
  have := same_all s c p (fun j hj => per_add s h c p h3 (by omega) (j + 1) j (by omega) (by omega)) 258 0 (by omega) (by omega)
  unfold sameN
  omega
theorem go_per (s : ByteArray) (h : Per s) (p : Nat) (hp : p + 3 ≤ 27) (good : Int) : ∀ cs d, (∀ c ∈ cs, ∃ i : Nat, c = (i : Int) ∧ i < p ∧ tri s i = tri s p) → (bestGo s p good cs (27 - p : Nat) d).1 = (27 - p : Nat)
  | [], d, _ => rfl
  | c :: r, d, hc => by
    obtain ⟨i, rfl, hi, ht⟩ := hc c (by simp)
    unfold bestGo
    rw [if_neg (by omega), Int.toNat_natCast, per_same s h i p hi hp ht, if_neg (by omega)]
    split
    · rfl
    · exact go_per s h p hp good r d (fun c hc' => hc c (by simp [hc']))
theorem best_per (s : ByteArray) (h : Per s) (e : S53) (p : Nat) (hp : p ≤ 27) : (bestL s e p).1 = 0 ∨ (bestL s e p).1 = (27 - p : Nat) := by
  unfold bestL
  split
  · exact .inl rfl
  next h3 =>
  have hz := h.1
  cases hl : lastOf (posL s (tri s p) p) e.f0 with
  | nil => exact .inl rfl
  | cons c r =>
    right
    have hm : ∀ c' ∈ c :: r, ∃ i : Nat, c' = (i : Int) ∧ i < p ∧ tri s i = tri s p := by
      intro c' hc'
      rw [← hl] at hc'
      unfold lastOf at hc'
      obtain ⟨i, a, b, _, d⟩ := pos_mem s _ p c' (List.mem_of_mem_drop (List.mem_reverse.1 hc'))
      exact ⟨i, a, b, d⟩
    obtain ⟨i, rfl, hi, ht⟩ := hm c (by simp)
    have hs := per_same s h i p hi (by omega) ht
    rw [bestGo, if_neg (by omega), Int.toNat_natCast, hs, if_pos (by omega)]
    split
    · rfl
    · exact go_per s h p (by omega) e.f1 r _ (fun c' hc' => hm c' (by simp [hc']))
theorem take_per (s : ByteArray) (h : Per s) (e : S53) (p : Nat) (hp : p + 3 ≤ 27) : takeL s e p < 3 ∧ (bestL s e p).1 = 0 ∨ takeL s e p = (27 - p : Nat) := by
  have hn := best_per s h e (p + 1) (by omega)
  rcases best_per s h e p (by omega) with q | q
  · left
    refine ⟨?_, q⟩
    rcases take_cases s e p with t | t <;> omega
  · right
    unfold takeL
    rw [if_neg (fun z => by have := z.2.2.2; omega), q]
theorem few_from (s : ByteArray) (h : Per s) (e : S53) (k p : Nat) (out : List Tok) (hp : p + 3 ≤ 27) (ht : takeL s e p = (27 - p : Nat)) : (findGo s e (k + 2) p out).length = out.length + 1 := by
  have hz := h.1
  rw [show k + 2 = (k + 1) + 1 from rfl, findGo, if_pos (by omega), if_neg (by omega), ht, Int.toNat_natCast, findGo, if_neg (by omega)]
  simp
theorem few (s : ByteArray) (h : Per s) (l : Int) : (findGo s (effL l) (s.size + 1) 0 []).length ≤ 4 := by
  have hz := h.1
  rw [hz]
  have step : ∀ k p out, p + 3 ≤ 27 → (findGo s (effL l) (k + 2) p out).length = out.length + 1 ∨ ∃ t, findGo s (effL l) (k + 2) p out = findGo s (effL l) (k + 1) (p + 1) (out ++ [t]) := by
    intro k p out hp
    rcases take_per s h (effL l) p hp with ⟨t, _⟩ | t
    · right
      exact ⟨_, by rw [show k + 2 = (k + 1) + 1 from rfl, findGo, if_pos (by omega), if_pos t]⟩
    · left; exact few_from s h _ k p out hp t
  rcases step 26 0 [] (by omega) with q | ⟨t0, q⟩
  · rw [show 27 + 1 = 26 + 2 from rfl, q]; simp
  rw [show 27 + 1 = 26 + 2 from rfl, q]
  rcases step 25 1 ([] ++ [t0]) (by omega) with q | ⟨t1, q⟩
  · rw [show 26 + 1 = 25 + 2 from rfl, q]; simp
  rw [show 26 + 1 = 25 + 2 from rfl, q]
  rcases step 24 2 ([] ++ [t0] ++ [t1]) (by omega) with q | ⟨t2, q⟩
  · rw [show 25 + 1 = 24 + 2 from rfl, q]; simp
  rw [show 25 + 1 = 24 + 2 from rfl, q]
  have h3 : 3 ≤ (bestL s (effL l) 3).1 := by
    refine best_ge s (effL l) (eff_ge l) 3 0 (by omega) (by omega) (by omega) ?_
    have b : ∀ j : Nat, j < 3 → s.data.toList.getD j 0 = s.data.toList.getD (j + 3) 0 := by
      intro j hj
      have := h.2 j (by omega)
      rw [tri_at s j (by omega), tri_at s (j + 3) (by omega)] at this
      exact UInt8.toNat_inj.1 (by omega)
    unfold tri
    rw [b 0 (by omega), b (0 + 1) (by omega), b (0 + 2) (by omega)]
  rcases take_per s h (effL l) 3 (by omega) with ⟨_, t⟩ | t
  · omega
  · rw [show 24 + 1 = 23 + 2 from rfl, few_from s h _ 23 3 _ (by omega) t]; simp
theorem copies_loop (lv : Int) (t : ByteArray) (e : Int) (L : List Tok) (hL : L.length ≤ 1000000) (R : Int → Option Bool) (hR : ∀ k c, portmanteaulaw07_MatchCopies.l0 (k + 1) lv t e c L L.length L.length = R c) :
    ∀ (d k : Nat) (i c : Int), 0 ≤ i → i + d = L.length → d < k → 0 ≤ c → c ≤ i → ∃ c', c ≤ c' ∧ c' ≤ 1000000 ∧ ((∃ t ∈ L.drop i.toNat, 0 < t.f1) → c < c') ∧ portmanteaulaw07_MatchCopies.l0 k lv t e c L L.length i = R c' := by
  intro d
  induction d with
  | zero =>
    intro k i c h0 h1 hk hc hci
    obtain ⟨k, rfl⟩ : ∃ m, k = m + 1 := ⟨k - 1, by omega⟩
    obtain rfl : i = L.length := by omega
    refine ⟨c, Int.le_refl _, by omega, fun ⟨x, hx, _⟩ => ?_, hR k c⟩
    rw [List.drop_eq_nil_of_le (by omega)] at hx
    cases hx
  | succ d ih =>
    intro k i c h0 h1 hk hc hci
    obtain ⟨k, rfl⟩ : ∃ m, k = m + 1 := ⟨k - 1, by omega⟩
    have hin : i.toNat < L.length := by omega
    have hrd : rd_T25 L i = L[i.toNat] := by unfold rd_T25; rw [List.getD_eq_getElem?_getD, List.getElem?_eq_getElem hin]; rfl
    have hst : ∀ x, portmanteaulaw07_MatchCopies.l0 (k + 1) lv t e c L L.length i = x ↔ (if L[i.toNat].f1 > 0 then portmanteaulaw07_MatchCopies.l0 k lv t e (c + 1) L L.length (i + 1) else portmanteaulaw07_MatchCopies.l0 k lv t e c L L.length (i + 1)) = x := by
      intro x
      rw [portmanteaulaw07_MatchCopies.l0, if_pos (by omega), if_pos h0, if_pos (by omega), hrd, wrap_id (x := i + 1) (by omega) (by omega), wrap_id (x := c + 1) (by omega) (by omega)]
    rw [List.drop_eq_getElem_cons hin]
    have hnx : (i + 1).toNat = i.toNat + 1 := by omega
    by_cases hp : L[i.toNat].f1 > 0
    · obtain ⟨c', h1', h2', h3', h4'⟩ := ih k (i + 1) (c + 1) (by omega) (by omega) (by omega) (by omega) (by omega)
      refine ⟨c', by omega, h2', fun _ => by omega, ?_⟩
      rw [hst, if_pos hp]; exact h4'
    · obtain ⟨c', h1', h2', h3', h4'⟩ := ih k (i + 1) c (by omega) (by omega) (by omega) (by omega) (by omega)
      refine ⟨c', h1', h2', fun ⟨x, hx, hxp⟩ => ?_, ?_⟩
      · rcases List.mem_cons.1 hx with rfl | hx
        · omega
        · exact h3' ⟨x, by rw [hnx]; exact hx, hxp⟩
      · rw [hst, if_neg hp]; exact h4'
theorem app_list (a b : ByteArray) : (a ++ b).data.toList = a.data.toList ++ b.data.toList := by simp
theorem per_nine (t : ByteArray) (A B C : UInt8) (ht : t.data.toList = [A, B, C]) : Per ((((((((t ++ t) ++ t) ++ t) ++ t) ++ t) ++ t) ++ t) ++ t) := by
  obtain ⟨s, hs⟩ : ∃ s, ((((((((t ++ t) ++ t) ++ t) ++ t) ++ t) ++ t) ++ t) ++ t) = s := ⟨_, rfl⟩
  have hl : s.data.toList = [A, B, C, A, B, C, A, B, C, A, B, C, A, B, C, A, B, C, A, B, C, A, B, C, A, B, C] := by
    rw [← hs]
    simp only [app_list, ht, List.cons_append, List.nil_append]
  rw [hs]
  have hz : s.size = 27 := by
    have := congrArg List.length hl
    simpa using this
  refine ⟨hz, fun i hi => ?_⟩
  rw [tri_at s (i + 3) (by omega), tri_at s i (by omega), hl]
  have : i = 0 ∨ i = 1 ∨ i = 2 ∨ i = 3 ∨ i = 4 ∨ i = 5 ∨ i = 6 ∨ i = 7 ∨ i = 8 ∨ i = 9 ∨ i = 10 ∨ i = 11 ∨ i = 12 ∨ i = 13 ∨ i = 14 ∨ i = 15 ∨ i = 16 ∨ i = 17 ∨ i = 18 ∨ i = 19 ∨ i = 20 ∨ i = 21 ∨ i = 22 ∨ i = 23 := by omega
  rcases this with rfl | rfl | rfl | rfl | rfl | rfl | rfl | rfl | rfl | rfl | rfl | rfl | rfl | rfl | rfl | rfl | rfl | rfl | rfl | rfl | rfl | rfl | rfl | rfl <;> rfl
theorem MatchCopies : portmanteaulaw07_MatchCopies.Pure := by
  intro a b c s l ha hb hc hs hl
  obtain ⟨A, rfl⟩ := byte_of ha
  obtain ⟨B, rfl⟩ := byte_of hb
  obtain ⟨C, rfl⟩ := byte_of hc
  have hl8 := wf_u8 hl
  refine ⟨1000010, ?_⟩
  unfold portmanteaulaw07_MatchCopies.f portmanteaulaw07_awake.f
  rw [Option.bind_some, if_pos rfl]
  by_cases h1 : (s.size : Int) > 2000
  · rw [if_pos h1]
  rw [if_neg h1, Option.bind_some]
  obtain ⟨t, ht⟩ : ∃ t, strOfNums [(A.toNat : Int), (B.toNat : Int), (C.toNat : Int)] = t := ⟨_, rfl⟩
  have htl : t.data.toList = [A, B, C] := by rw [← ht]; simp [strOfNums]
  have hz : t.size = 3 := by have := congrArg List.length htl; simpa using this
  rw [ht]
  obtain ⟨lv, hlv⟩ : ∃ lv, wrap64 (1 + (wrap64 (Int.tmod l 9))) = lv := ⟨_, rfl⟩
  have hlv2 : 1 ≤ lv ∧ lv ≤ 9 := by
    have e : Int.tmod l 9 = l % 9 := Int.tmod_eq_emod_of_nonneg hl8.1
    rw [e, wrap_id (x := l % 9) (by omega) (by omega), wrap_id (x := 1 + l % 9) (by omega) (by omega)] at hlv
    omega
  rw [hlv, if_pos (by omega), if_pos (by omega), if_pos (by omega)]
  unfold match_Find.f
  rw [Option.bind_some]
  obtain ⟨T, hT⟩ : ∃ T, ((t ++ t) ++ t) ++ s = T := ⟨_, rfl⟩
  rw [hT]
  have hTl : T.data.toList = [A, B, C, A, B, C, A, B, C] ++ s.data.toList := by
    rw [← hT]
    simp only [app_list, htl, List.cons_append, List.nil_append]
  have hTz : T.size = 9 + s.size := by
    have := congrArg List.length hTl
    rw [List.length_append] at this
    simp at this
    omega
  have hTt : tri T 0 = tri T 3 := by unfold tri; rw [hTl]; rfl
  have hfl : findL T lv = (findGo T (effL lv) (T.size + 1) 0 [], 0) := by
    unfold findL
    rw [if_neg (by omega), if_neg (by omega), if_neg (by omega)]
  have hhas := copies_has T lv (by omega) hTt
  obtain ⟨hr, _⟩ := findL_runs T lv (by omega) (by omega) (by omega)
  obtain ⟨hx, hlen⟩ := runs_le T _ 0 _ hr (Nat.zero_le _)
  rw [hfl] at hr hlen ⊢
  obtain ⟨L, hL⟩ : ∃ L, findGo T (effL lv) (T.size + 1) 0 [] = L := ⟨_, rfl⟩
  simp only [hL] at hhas hr hlen ⊢
  obtain ⟨N, hN⟩ : ∃ N, ((((((((t ++ t) ++ t) ++ t) ++ t) ++ t) ++ t) ++ t) ++ t) = N := ⟨_, rfl⟩
  have hper := per_nine t A B C htl
  rw [hN] at hper
  have hfew := few N hper lv
  have hNl : findL N lv = (findGo N (effL lv) (N.size + 1) 0 [], 0) := by
    unfold findL
    rw [if_neg (by omega), if_neg (by have := hper.1; omega), if_neg (by omega)]
  obtain ⟨c', g1, g2, g3, g4⟩ := copies_loop lv t 0 L (by omega) (fun c => if c > 0 then some true else some false) (fun k c => by
    rw [portmanteaulaw07_MatchCopies.l0, if_neg (by omega), if_pos (by omega), if_pos (by omega), if_pos (by omega), if_pos (by omega), if_pos (by omega), if_pos (by omega), if_pos (by omega), if_pos (by omega), hN]
    unfold match_Find.f
    rw [Option.bind_some, if_pos rfl, hNl]
    split
    · rw [if_pos rfl]
      show some (decide (((findGo N (effL lv) (N.size + 1) 0 []).length : Int) ≤ 8)) = some true
      rw [decide_eq_true (by omega)]
    · rfl) L.length 1000010 0 0 (by omega) (by omega) (by omega) (by omega) (by omega)
  rw [g4]
  have hp : 0 < c' := g3 hhas
  rw [if_pos hp]
end Go.Proofs.Ytgpmhdefpbmhjaa.Pure
