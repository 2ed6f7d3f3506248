/- What the headers' functions come to: rows of numbers in so many bytes each. Plain Lean. -/
import Derived.Test.YtnjfddmajiihjaaNumO4
import Derived.Test.YtnjfddmajiihjaaNumO8
import Derived.Test.YtnjfddmajiihjaaNumOR
import Derived.Test.YtnjfddmajiihjaaGivetwos
import Derived.Test.YtnjfddmajiihjaaGivefours
import Derived.Test.YtnjfddmajiihjaaPx4
import Derived.Test.YtnjfddmajiihjaaPx5
import Derived.Test.YtnjfddmajiihjaaPx6
import Derived.Test.YtnjfddmajiihjaaPx7
import Derived.Test.YtnjfddmajiihjaaPx8
namespace Go.Proofs.Ytnjfddmajiihjaa.D17
set_option linter.unusedVariables false
set_option linter.unusedSimpArgs false
open Go Go.RowKit Go.Proofs.Ytnjfddmajiihjaa.P Go.Proofs.Ytnjfddmajiihjaa.B Go.Proofs.Ytnjfddmajiihjaa.Num Go.Proofs.YtnjfddmajiihjaaW.PrintWords Go.Proofs.YtnjfddmajiihjaaW.PrintLast Go.Proofs.YtnjfddmajiihjaaW.PrintMore

theorem strN_app (x y : List UInt8) : strN x ++ strN y = strN (x ++ y) := by
  apply ByteArray.ext
  simp [strN]
theorem strN_size (x : List UInt8) : (strN x).size = x.length := rfl
theorem strN_self (s : ByteArray) : strN s.data.toList = s := by
  apply ByteArray.ext
  simp [strN]
/-- A row of numbers, each in its width. -/
def rowB (xs ws : List Int) : List UInt8 := (xs.zip ws).flatMap fun p => ofN p.2.toNat p.1.toNat
theorem print_loop (xs ws : List Int) (hl : xs.length = ws.length) (hx : ∀ x ∈ xs, 0 ≤ x ∧ x < 18446744073709551616) (hw : ∀ x ∈ ws, 0 ≤ x ∧ x ≤ 8) (hn : ws.length ≤ 100) : ∀ d i k acc, i + d = ws.length → 65 + d < k → acc.length ≤ 8 * i →
    portmanteauref17_Print.l0 k xs (strN acc) ws (ws.length : Int) (i : Int) = some (strN (acc ++ rowB (xs.drop i) (ws.drop i))) := by
  intro d
  induction d with
  | zero =>
    intro i k acc hi hk ha
    obtain ⟨k, rfl⟩ : ∃ m, k = m + 1 := ⟨k - 1, by omega⟩
    unfold portmanteauref17_Print.l0
    rw [if_neg (by omega), List.drop_of_length_le (by omega : xs.length ≤ i)]
    simp [rowB]
  | succ d ih =>
    intro i k acc hi hk ha
    obtain ⟨k, rfl⟩ : ∃ m, k = m + 1 := ⟨k - 1, by omega⟩
    have h1 : i < xs.length := by omega
    have h2 : i < ws.length := by omega
    have g1 : rd xs (i : Int) = xs[i] := by unfold rd; rw [List.getD_eq_getElem?_getD, Int.toNat_natCast, List.getElem?_eq_getElem h1]; rfl
    have g2 : rd ws (i : Int) = ws[i] := by unfold rd; rw [List.getD_eq_getElem?_getD, Int.toNat_natCast, List.getElem?_eq_getElem h2]; rfl
    obtain ⟨b1, b2⟩ := hx _ (List.getElem_mem h1)
    obtain ⟨c1, c2⟩ := hw _ (List.getElem_mem h2)
    have e1 : xs.drop i = xs[i] :: xs.drop (i + 1) := List.drop_eq_getElem_cons h1
    have e2 : ws.drop i = ws[i] :: ws.drop (i + 1) := List.drop_eq_getElem_cons h2
    obtain ⟨x, hxx⟩ : ∃ x : Nat, xs[i] = (x : Int) := ⟨(xs[i]).toNat, by omega⟩
    obtain ⟨c, hcc⟩ : ∃ c, ws[i] = c := ⟨_, rfl⟩
    rw [hxx] at g1 e1 b1 b2
    rw [hcc] at g2 e2 c1 c2
    have hof : portmanteauref01_Of.f k (x : Int) c = some (strN (ofN c.toNat x)) := by
      rw [ref_of_eq x (by omega) c k (by omega)]
      unfold ofI
      rw [show min c.toNat 64 = c.toNat by omega]
    have q1 : (i : Int) < (ws.length : Int) := by omega
    have q2 : (0 : Int) ≤ (i : Int) := Int.natCast_nonneg _
    have q3 : (i : Int) < (xs.length : Int) := by omega
    have q4 : (strN acc).size + (strN (ofN c.toNat x)).size ≤ 9223372036854775807 := by rw [strN_size, strN_size, ofN_length]; omega
    have hih := ih (i + 1) k (acc ++ ofN c.toNat x) (by omega) (by omega) (by rw [List.length_append, ofN_length]; omega)
    have hww : wrap64 ((i : Int) + 1) = ((i + 1 : Nat) : Int) := by rw [wrap_id (by omega) (by omega)]; simp
    unfold portmanteauref17_Print.l0
    rw [if_pos q1, if_pos q2, if_pos q1, if_pos q3, g1, g2, hof, Option.bind_some, if_pos q4, hww, strN_app, hih, e1, e2]
    simp [rowB]
theorem print_eq (xs ws : List Int) (hl : xs.length = ws.length) (hx : ∀ x ∈ xs, 0 ≤ x ∧ x < 18446744073709551616) (hw : ∀ x ∈ ws, 0 ≤ x ∧ x ≤ 8) (hn : ws.length ≤ 100) : portmanteauref17_Print.f 200 xs ws = some (strN (rowB xs ws)) := by
  have h0 := print_loop xs ws hl hx hw hn ws.length 0 200 [] (Nat.zero_add _) (by omega) (Nat.zero_le _)
  rw [List.drop_zero, List.drop_zero, List.nil_append] at h0
  exact h0
theorem twos_eq (l : List Int) (hl : l.length ≤ 1000) (hx : ∀ x ∈ l, 0 ≤ x ∧ x < 2 ^ 16) : header_twos.f l = some (strN (l.flatMap fun x => ofN 2 x.toNat)) := by unfold header_twos.f; rw [if_pos ⟨hl, hx⟩]
theorem fours_eq (l : List Int) (hl : l.length ≤ 1000) (hx : ∀ x ∈ l, 0 ≤ x ∧ x < 2 ^ 32) : header_fours.f l = some (strN (l.flatMap fun x => ofN 4 x.toNat)) := by unfold header_fours.f; rw [if_pos ⟨hl, hx⟩]
theorem w64 (x : Int) (h : 0 ≤ x ∧ x ≤ 4294967295) : IntKind.u64.wrap x = x := u64_id h.1 (by omega)
theorem w16 (s : ByteArray) (h : s.size ≤ 3000) : IntKind.u16.wrap (s.size : Int) = (s.size : Int) := by rw [u16_mod]; omega
theorem w64s (s : ByteArray) (h : s.size ≤ 3000) : IntKind.u64.wrap (s.size : Int) = (s.size : Int) := u64_id (by omega) (by omega)
theorem long0 (l : List ByteArray) (k : Nat) (n : Int) (h : n = (l.length : Int)) : header_long.l0 (k + 1) l n n = some false := by unfold header_long.l0; rw [if_neg (by omega)]
theorem longS (l : List ByteArray) (n i : Nat) (hn : n = l.length) (hi : i < n) (hb : n ≤ 10) (k : Nat) (r : Bool) (h : header_long.l0 k l (n : Int) ((i + 1 : Nat) : Int) = some r) :
    header_long.l0 (k + 1) l (n : Int) (i : Int) = some (decide ((l.getD i ByteArray.empty).size > 65535) || r) := by
  have q1 : (i : Int) < (n : Int) := by omega
  have q2 : (0 : Int) ≤ (i : Int) := Int.natCast_nonneg _
  have q3 : (i : Int) < (l.length : Int) := by omega
  have hg : rdOf ByteArray.empty l (i : Int) = l.getD i ByteArray.empty := by unfold rdOf; simp
  unfold header_long.l0
  rw [if_pos q1, if_pos q2, if_pos q3, hg]
  by_cases hs : (l.getD i ByteArray.empty).size > 65535
  · rw [if_pos (by omega), decide_eq_true hs]; rfl
  · rw [if_neg (by omega), decide_eq_false hs, Bool.false_or]
    have hww : wrap64 ((i : Int) + 1) = ((i + 1 : Nat) : Int) := by rw [wrap_id (by omega) (by omega)]; simp
    rw [hww]; exact h
theorem long2 (a b : ByteArray) : header_long.f 200 [a, b] = some (decide (a.size > 65535) || (decide (b.size > 65535) || false)) :=
  longS [a, b] 2 0 rfl (by decide) (by decide) 199 _ (longS [a, b] 2 1 rfl (by decide) (by decide) 198 _ (long0 [a, b] 197 2 rfl))
theorem long3 (a b c : ByteArray) : header_long.f 200 [a, b, c] = some (decide (a.size > 65535) || (decide (b.size > 65535) || (decide (c.size > 65535) || false))) :=
  longS [a, b, c] 3 0 rfl (by decide) (by decide) 199 _ (longS [a, b, c] 3 1 rfl (by decide) (by decide) 198 _ (longS [a, b, c] 3 2 rfl (by decide) (by decide) 197 _ (long0 [a, b, c] 196 3 rfl)))
theorem local_long (a0 a1 a2 a3 a4 a5 a6 : Int) (a b : ByteArray) (h : a.size > 65535 ∨ b.size > 65535) : header_PrintLocal.f 200 a0 a1 a2 a3 a4 a5 a6 a b = some (⟨#[]⟩, 5) := by
  unfold header_PrintLocal.f
  rw [long2, Option.bind_some, if_pos (by simp; omega)]
theorem central_long (a0 a1 a2 a3 a4 a5 a6 a7 a8 a9 a10 a11 : Int) (a b c : ByteArray) (h : a.size > 65535 ∨ b.size > 65535 ∨ c.size > 65535) : header_PrintCentral.f 200 a0 a1 a2 a3 a4 a5 a6 a7 a8 a9 a10 a11 a b c = some (⟨#[]⟩, 5) := by
  unfold header_PrintCentral.f
  rw [long3, Option.bind_some, if_pos (by simp; omega)]
theorem local_eq (a0 a1 a2 a3 a4 a5 a6 : Int) (a b : ByteArray) (ha : a.size ≤ 3000) (hb : b.size ≤ 3000) (h0 : 0 ≤ a0 ∧ a0 ≤ 65535) (h1 : 0 ≤ a1 ∧ a1 ≤ 65535) (h2 : 0 ≤ a2 ∧ a2 ≤ 65535) (h3 : 0 ≤ a3 ∧ a3 ≤ 4294967295) (h4 : 0 ≤ a4 ∧ a4 ≤ 4294967295) (h5 : 0 ≤ a5 ∧ a5 ≤ 4294967295) (h6 : 0 ≤ a6 ∧ a6 ≤ 4294967295) :
    ∃ Q l, portmanteaulaw17_locals.f a0 a1 a2 a3 a4 a5 a6 a b = some l ∧ portmanteauref17_Print.f 200 l [4, 2, 2, 2, 4, 4, 4, 4, 2, 2] = some Q ∧ Q.size = 30 ∧ header_PrintLocal.f 200 a0 a1 a2 a3 a4 a5 a6 a b = some (Q ++ a ++ b, 0) := by
  have e1 := twos_eq [a0, a1, a2] (by simp) (by simp; omega)
  have e2 := fours_eq [a3, a4, a5, a6] (by simp) (by simp; omega)
  have e3 := twos_eq [IntKind.u16.wrap (a.size : Int), IntKind.u16.wrap (b.size : Int)] (by simp) (by rw [w16 a ha, w16 b hb]; simp; omega)
  have e4 := print_eq [67324752, a0, a1, a2, a3, a4, a5, a6, (a.size : Int), (b.size : Int)] [4, 2, 2, 2, 4, 4, 4, 4, 2, 2] rfl (by simp; omega) (by decide) (by decide)
  rw [w16 a ha, w16 b hb] at e3
  obtain ⟨Q, hQ⟩ : ∃ Q, strN (rowB [67324752, a0, a1, a2, a3, a4, a5, a6, (a.size : Int), (b.size : Int)] [4, 2, 2, 2, 4, 4, 4, 4, 2, 2]) = Q := ⟨_, rfl⟩
  obtain ⟨T1, hT1⟩ : ∃ T, strN ([a0, a1, a2].flatMap fun x => ofN 2 x.toNat) = T := ⟨_, rfl⟩
  obtain ⟨T2, hT2⟩ : ∃ T, strN ([a3, a4, a5, a6].flatMap fun x => ofN 4 x.toNat) = T := ⟨_, rfl⟩
  obtain ⟨T3, hT3⟩ : ∃ T, strN ([(a.size : Int), (b.size : Int)].flatMap fun x => ofN 2 x.toNat) = T := ⟨_, rfl⟩
  have s0 : Q.size = 30 := by rw [← hQ, strN_size]; simp [rowB, ofN_length]
  have s1 : T1.size = 6 := by rw [← hT1, strN_size]; simp [ofN_length]
  have s2 : T2.size = 16 := by rw [← hT2, strN_size]; simp [ofN_length]
  have s3 : T3.size = 4 := by rw [← hT3, strN_size]; simp [ofN_length]
  have hR : (((⟨#[80, 75, 3, 4]⟩ : ByteArray) ++ T1) ++ T2) ++ T3 = Q := by
    rw [show (⟨#[80, 75, 3, 4]⟩ : ByteArray) = strN (ofN 4 67324752) from by decide +kernel, ← hT1, ← hT2, ← hT3, ← hQ, strN_app, strN_app, strN_app]
    simp [rowB]
  rw [hT1] at e1; rw [hT2] at e2; rw [hT3] at e3; rw [hQ] at e4
  refine ⟨Q, _, rfl, ?_, s0, ?_⟩
  · rw [w64 a0 (by omega), w64 a1 (by omega), w64 a2 (by omega), w64 a3 h3, w64 a4 h4, w64 a5 h5, w64 a6 h6, w64s a ha, w64s b hb]; exact e4
  · unfold header_PrintLocal.f
    rw [long2, Option.bind_some, if_neg (by simp; omega), e1, Option.bind_some, if_pos (by omega), e2, Option.bind_some, if_pos (by omega), w16 a ha, w16 b hb, e3, Option.bind_some, if_pos (by omega), if_pos (by omega), if_pos (by omega), hR]
theorem central_eq (a0 a1 a2 a3 a4 a5 a6 a7 a8 a9 a10 a11 : Int) (a b c : ByteArray) (ha : a.size ≤ 3000) (hb : b.size ≤ 3000) (hc : c.size ≤ 3000) (h0 : 0 ≤ a0 ∧ a0 ≤ 65535) (h1 : 0 ≤ a1 ∧ a1 ≤ 65535) (h2 : 0 ≤ a2 ∧ a2 ≤ 65535) (h3 : 0 ≤ a3 ∧ a3 ≤ 65535) (h4 : 0 ≤ a4 ∧ a4 ≤ 4294967295) (h5 : 0 ≤ a5 ∧ a5 ≤ 4294967295) (h6 : 0 ≤ a6 ∧ a6 ≤ 4294967295) (h7 : 0 ≤ a7 ∧ a7 ≤ 4294967295) (h8 : 0 ≤ a8 ∧ a8 ≤ 65535) (h9 : 0 ≤ a9 ∧ a9 ≤ 65535) (h10 : 0 ≤ a10 ∧ a10 ≤ 4294967295) (h11 : 0 ≤ a11 ∧ a11 ≤ 4294967295) :
    ∃ Q l, portmanteaulaw17_centrals.f a0 a1 a2 a3 a4 a5 a6 a7 a8 a9 a10 a11 a b c = some l ∧ portmanteauref17_Print.f 200 l [4, 2, 2, 2, 2, 4, 4, 4, 4, 2, 2, 2, 2, 2, 4, 4] = some Q ∧ Q.size = 46 ∧ header_PrintCentral.f 200 a0 a1 a2 a3 a4 a5 a6 a7 a8 a9 a10 a11 a b c = some (Q ++ a ++ b ++ c, 0) := by
  have e1 := twos_eq [a0, a1, a2, a3] (by simp) (by simp; omega)
  have e2 := fours_eq [a4, a5, a6, a7] (by simp) (by simp; omega)
  have e3 := twos_eq [IntKind.u16.wrap (a.size : Int), IntKind.u16.wrap (b.size : Int), IntKind.u16.wrap (c.size : Int), a8, a9] (by simp) (by rw [w16 a ha, w16 b hb, w16 c hc]; simp; omega)
  have e5 := fours_eq [a10, a11] (by simp) (by simp; omega)
  have e4 := print_eq [33639248, a0, a1, a2, a3, a4, a5, a6, a7, (a.size : Int), (b.size : Int), (c.size : Int), a8, a9, a10, a11] [4, 2, 2, 2, 2, 4, 4, 4, 4, 2, 2, 2, 2, 2, 4, 4] rfl (by simp; omega) (by decide) (by decide)
  rw [w16 a ha, w16 b hb, w16 c hc] at e3
  obtain ⟨Q, hQ⟩ : ∃ Q, strN (rowB [33639248, a0, a1, a2, a3, a4, a5, a6, a7, (a.size : Int), (b.size : Int), (c.size : Int), a8, a9, a10, a11] [4, 2, 2, 2, 2, 4, 4, 4, 4, 2, 2, 2, 2, 2, 4, 4]) = Q := ⟨_, rfl⟩
  obtain ⟨T1, hT1⟩ : ∃ T, strN ([a0, a1, a2, a3].flatMap fun x => ofN 2 x.toNat) = T := ⟨_, rfl⟩
  obtain ⟨T2, hT2⟩ : ∃ T, strN ([a4, a5, a6, a7].flatMap fun x => ofN 4 x.toNat) = T := ⟨_, rfl⟩
  obtain ⟨T3, hT3⟩ : ∃ T, strN ([(a.size : Int), (b.size : Int), (c.size : Int), a8, a9].flatMap fun x => ofN 2 x.toNat) = T := ⟨_, rfl⟩
  obtain ⟨T4, hT4⟩ : ∃ T, strN ([a10, a11].flatMap fun x => ofN 4 x.toNat) = T := ⟨_, rfl⟩
  have s0 : Q.size = 46 := by rw [← hQ, strN_size]; simp [rowB, ofN_length]
  have s1 : T1.size = 8 := by rw [← hT1, strN_size]; simp [ofN_length]
  have s2 : T2.size = 16 := by rw [← hT2, strN_size]; simp [ofN_length]
  have s3 : T3.size = 10 := by rw [← hT3, strN_size]; simp [ofN_length]
  have s4 : T4.size = 8 := by rw [← hT4, strN_size]; simp [ofN_length]
  have hR : ((((⟨#[80, 75, 1, 2]⟩ : ByteArray) ++ T1) ++ T2) ++ T3) ++ T4 = Q := by
    rw [show (⟨#[80, 75, 1, 2]⟩ : ByteArray) = strN (ofN 4 33639248) from by decide +kernel, ← hT1, ← hT2, ← hT3, ← hT4, ← hQ, strN_app, strN_app, strN_app, strN_app]
    simp [rowB]
  rw [hT1] at e1; rw [hT2] at e2; rw [hT3] at e3; rw [hT4] at e5; rw [hQ] at e4
  refine ⟨Q, _, rfl, ?_, s0, ?_⟩
  · rw [w64 a0 (by omega), w64 a1 (by omega), w64 a2 (by omega), w64 a3 (by omega), w64 a4 (by omega), w64 a5 (by omega), w64 a6 (by omega), w64 a7 (by omega), w64 a8 (by omega), w64 a9 (by omega), w64 a10 (by omega), w64 a11 (by omega), w64s a ha, w64s b hb, w64s c hc]; exact e4
  · unfold header_PrintCentral.f
    rw [long3, Option.bind_some, if_neg (by simp; omega), e1, Option.bind_some, if_pos (by omega), e2, Option.bind_some, if_pos (by omega), w16 a ha, w16 b hb, w16 c hc, e3, Option.bind_some, if_pos (by omega), e5, Option.bind_some, if_pos (by omega), if_pos (by omega), if_pos (by omega), if_pos (by omega), hR]
theorem desc_eq (a0 : Int) (n z : Nat) (h0 : 0 ≤ a0 ∧ a0 ≤ 4294967295) (hn : n < 18446744073709551616) (hz : z < 18446744073709551616) (wide : Bool) :
    ∃ D l ws, portmanteaulaw17_descriptors.f a0 (n : Int) (z : Int) = some l ∧ portmanteauref17_Descriptors.f wide = some ws ∧ portmanteauref17_Print.f 200 l ws = some D ∧ header_PrintDescriptor.f 200 a0 (n : Int) (z : Int) wide = some D ∧ D.size = (if wide = true then 24 else 16) := by
  obtain ⟨x, rfl⟩ : ∃ x : Nat, a0 = (x : Int) := ⟨a0.toNat, by omega⟩
  have hm : (⟨#[80, 75, 7, 8]⟩ : ByteArray) = strN (ofN 4 134695760) := by decide +kernel
  cases wide with
  | true =>
    have e := print_eq [134695760, (x : Int), (n : Int), (z : Int)] [4, 4, 8, 8] rfl (by simp; omega) (by decide) (by decide)
    have l1 : (strN (ofN 4 x)).size = 4 := ofN_length 4 x
    have l2 : (strN (ofN 8 n)).size = 8 := ofN_length 8 n
    have l3 : (strN (ofN 8 z)).size = 8 := ofN_length 8 z
    obtain ⟨D, hD⟩ : ∃ D, strN (rowB [134695760, (x : Int), (n : Int), (z : Int)] [4, 4, 8, 8]) = D := ⟨_, rfl⟩
    have hR : (((⟨#[80, 75, 7, 8]⟩ : ByteArray) ++ strN (ofN 4 x)) ++ strN (ofN 8 n)) ++ strN (ofN 8 z) = D := by
      rw [hm, strN_app, strN_app, strN_app, ← hD]
      simp [rowB]
    have s0 : D.size = 24 := by rw [← hD, strN_size]; simp [rowB, ofN_length]
    rw [hD] at e
    refine ⟨D, _, _, rfl, rfl, by rw [w64 _ h0]; exact e, ?_, s0⟩
    unfold header_PrintDescriptor.f
    rw [if_pos rfl, four_eq x (by omega) 200 (by omega), Option.bind_some, if_pos (by omega), eight_eq n hn 200 (by omega), Option.bind_some, if_pos (by omega), eight_eq z hz 200 (by omega), Option.bind_some, if_pos (by omega), hR]
  | false =>
    have e := print_eq [134695760, (x : Int), (n : Int), (z : Int)] [4, 4, 4, 4] rfl (by simp; omega) (by decide) (by decide)
    have e1 := fours_eq [(x : Int), (n : Int) % 4294967296, (z : Int) % 4294967296] (by simp) (by simp; omega)
    obtain ⟨D, hD⟩ : ∃ D, strN (rowB [134695760, (x : Int), (n : Int), (z : Int)] [4, 4, 4, 4]) = D := ⟨_, rfl⟩
    obtain ⟨T, hT⟩ : ∃ T, strN ([(x : Int), (n : Int) % 4294967296, (z : Int) % 4294967296].flatMap fun x => ofN 4 x.toNat) = T := ⟨_, rfl⟩
    have m1 : ofN 4 ((n : Int) % 4294967296).toNat = ofN 4 n := by rw [show ((n : Int) % 4294967296).toNat = n % 256 ^ 4 by omega]; exact ofN_mod 4 n
    have m2 : ofN 4 ((z : Int) % 4294967296).toNat = ofN 4 z := by rw [show ((z : Int) % 4294967296).toNat = z % 256 ^ 4 by omega]; exact ofN_mod 4 z
    have hR : (⟨#[80, 75, 7, 8]⟩ : ByteArray) ++ T = D := by
      rw [hm, ← hT, strN_app, ← hD]
      simp only [List.flatMap_cons, List.flatMap_nil, m1, m2]
      simp [rowB]
    have s0 : D.size = 16 := by rw [← hD, strN_size]; simp [rowB, ofN_length]
    have s1 : T.size = 12 := by rw [← hT, strN_size]; simp [ofN_length]
    rw [hD] at e
    rw [hT] at e1
    refine ⟨D, _, _, rfl, rfl, by rw [w64 _ h0]; exact e, ?_, s0⟩
    unfold header_PrintDescriptor.f
    rw [if_neg (by decide), e1, Option.bind_some, if_pos (by omega), hR]
theorem awake_true : portmanteaulaw17_awake.f 200 = some true := by
  obtain ⟨Q, l, _, _, hq, h1⟩ := local_eq 0 0 0 0 0 0 0 ⟨#[]⟩ ⟨#[]⟩ (by decide) (by decide) (by decide) (by decide) (by decide) (by decide) (by decide) (by decide) (by decide)
  obtain ⟨R, l2, _, _, hr, h2⟩ := central_eq 0 0 0 0 0 0 0 0 0 0 0 0 ⟨#[]⟩ ⟨#[]⟩ ⟨#[]⟩ (by decide) (by decide) (by decide) (by decide) (by decide) (by decide) (by decide) (by decide) (by decide) (by decide) (by decide) (by decide) (by decide) (by decide) (by decide)
  obtain ⟨D, _, _, _, _, _, h3, hd⟩ := desc_eq 0 0 0 (by decide) (by decide) (by decide) false
  obtain ⟨E, _, _, _, _, _, h4, he⟩ := desc_eq 0 0 0 (by decide) (by decide) (by decide) true
  have hz : (⟨#[]⟩ : ByteArray).size = 0 := rfl
  have hd' : D.size = 16 := hd
  have he' : E.size = 24 := he
  unfold portmanteaulaw17_awake.f
  rw [h1, Option.bind_some, h2, Option.bind_some]
  dsimp only
  rw [if_pos rfl, if_pos rfl, if_pos (by rw [ByteArray.size_append, ByteArray.size_append]; omega), if_pos (by rw [ByteArray.size_append, ByteArray.size_append, ByteArray.size_append]; omega)]
  rw [show header_PrintDescriptor.f 200 0 0 0 false = some D from h3, Option.bind_some, if_pos (by omega), show header_PrintDescriptor.f 200 0 0 0 true = some E from h4, Option.bind_some]
  simp [he']
end Go.Proofs.Ytnjfddmajiihjaa.D17
