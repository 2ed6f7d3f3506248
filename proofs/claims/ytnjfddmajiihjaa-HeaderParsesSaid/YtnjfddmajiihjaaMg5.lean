import Derived.Test.YtnjfddmajiihjaaMg4
import Derived.Test.YtnjfddmajiihjaaMg3
import Derived.Test.YtnjfddmajiihjaaMg2
import Derived.Test.YtnjfddmajiihjaaPx4
import Derived.Test.YtnjfddmajiihjaaPx5
import Derived.Test.YtnjfddmajiihjaaPx6
import Derived.Test.YtnjfddmajiihjaaPx7
import Derived.Test.YtnjfddmajiihjaaPx8
import Derived.Test.YtnjfddmajiihjaaPx13
import Derived.Test.YtnjfddmajiihjaaPx14
import Derived.Test.YtnjfddmajiihjaaGiveparsecentral
import Derived.Test.YtnjfddmajiihjaaGiveparsedesc
import Derived.Test.YtnjfddmajiihjaaGiveparselocal
namespace Go.Proofs.Ytnjfddmajiihjaa.D17
set_option linter.unusedVariables false
set_option linter.unusedSimpArgs false
open Go Go.RowKit Go.Proofs.Ytnjfddmajiihjaa.P Go.Proofs.Ytnjfddmajiihjaa.B Go.Proofs.Ytnjfddmajiihjaa.Num Go.Proofs.YtnjfddmajiihjaaW.PrintWords Go.Proofs.YtnjfddmajiihjaaW.PrintLast Go.Proofs.YtnjfddmajiihjaaW.PrintMore
theorem strN_app (x y : List UInt8) : strN x ++ strN y = strN (x ++ y) := by
  apply ByteArray.ext
  simp [strN]
theorem strN_size (x : List UInt8) : (strN x).size = x.length := rfl
def rowB (xs ws : List Int) : List UInt8 := (xs.zip ws).flatMap fun p => ofN p.2.toNat p.1.toNat
theorem print_loop (xs ws : List Int) (hl : xs.length = ws.length) (hx : ∀ x ∈ xs, 0 ≤ x ∧ x < 18446744073709551616) (hw : ∀ x ∈ ws, 0 ≤ x ∧ x ≤ 8) (hn : ws.length ≤ 100) : ∀ d i k acc, i + d = ws.length → 65 + d < k → acc.length ≤ 8 * i →
    portmanteauref17_Print.l0 k xs (strN acc) ws (ws.length : Int) (i : Int) = some (strN (acc ++ rowB (xs.drop i) (ws.drop i))) := by
  intro d
  induction d with
  | zero =>
    intro i k acc hi hk ha
    obtain ⟨k, rfl⟩ : ∃ m, k = m + 1 := ⟨k - 1, by omega⟩
    unfold portmanteauref17_Print.l0
    rw [if_neg (by omega), List.drop_of_length_le (by omega : xs.length ≤ i)]
    simp [rowB]
  | succ d ih =>
    intro i k acc hi hk ha
    obtain ⟨k, rfl⟩ : ∃ m, k = m + 1 := ⟨k - 1, by omega⟩
    have h1 : i < xs.length := by omega
    have h2 : i < ws.length := by omega
    have g1 : rd xs (i : Int) = xs[i] := by unfold rd; rw [List.getD_eq_getElem?_getD, Int.toNat_natCast, List.getElem?_eq_getElem h1]; rfl
    have g2 : rd ws (i : Int) = ws[i] := by unfold rd; rw [List.getD_eq_getElem?_getD, Int.toNat_natCast, List.getElem?_eq_getElem h2]; rfl
    obtain ⟨b1, b2⟩ := hx _ (List.getElem_mem h1)
    obtain ⟨c1, c2⟩ := hw _ (List.getElem_mem h2)
    have e1 : xs.drop i = xs[i] :: xs.drop (i + 1) := List.drop_eq_getElem_cons h1
    have e2 : ws.drop i = ws[i] :: ws.drop (i + 1) := List.drop_eq_getElem_cons h2
    obtain ⟨x, hxx⟩ : ∃ x : Nat, xs[i] = (x : Int) := ⟨(xs[i]).toNat, by omega⟩
    obtain ⟨c, hcc⟩ : ∃ c, ws[i] = c := ⟨_, rfl⟩
    rw [hxx] at g1 e1 b1 b2
    rw [hcc] at g2 e2 c1 c2
    have hof : portmanteauref01_Of.f k (x : Int) c = some (strN (ofN c.toNat x)) := by
      rw [ref_of_eq x (by omega) c k (by omega)]
      unfold ofI
      rw [show min c.toNat 64 = c.toNat by omega]
    have q1 : (i : Int) < (ws.length : Int) := by omega
    have q2 : (0 : Int) ≤ (i : Int) := Int.natCast_nonneg _
    have q3 : (i : Int) < (xs.length : Int) := by omega
    have q4 : (strN acc).size + (strN (ofN c.toNat x)).size ≤ 9223372036854775807 := by rw [strN_size, strN_size, ofN_length]; omega
    have hih := ih (i + 1) k (acc ++ ofN c.toNat x) (by omega) (by omega) (by rw [List.length_append, ofN_length]; omega)
    have hww : wrap64 ((i : Int) + 1) = ((i + 1 : Nat) : Int) := by rw [wrap_id (by omega) (by omega)]; simp
    unfold portmanteauref17_Print.l0
    rw [if_pos q1, if_pos q2, if_pos q1, if_pos q3, g1, g2, hof, Option.bind_some, if_pos q4, hww, strN_app, hih, e1, e2]
    simp [rowB]
theorem print_eq (xs ws : List Int) (hl : xs.length = ws.length) (hx : ∀ x ∈ xs, 0 ≤ x ∧ x < 18446744073709551616) (hw : ∀ x ∈ ws, 0 ≤ x ∧ x ≤ 8) (hn : ws.length ≤ 100) : portmanteauref17_Print.f 200 xs ws = some (strN (rowB xs ws)) := by
  have h0 := print_loop xs ws hl hx hw hn ws.length 0 200 [] (Nat.zero_add _) (by omega) (Nat.zero_le _)
  rw [List.drop_zero, List.drop_zero, List.nil_append] at h0
  exact h0
theorem twos_eq (l : List Int) (hl : l.length ≤ 1000) (hx : ∀ x ∈ l, 0 ≤ x ∧ x < 2 ^ 16) : header_twos.f l = some (strN (l.flatMap fun x => ofN 2 x.toNat)) := by unfold header_twos.f; rw [if_pos ⟨hl, hx⟩]
theorem fours_eq (l : List Int) (hl : l.length ≤ 1000) (hx : ∀ x ∈ l, 0 ≤ x ∧ x < 2 ^ 32) : header_fours.f l = some (strN (l.flatMap fun x => ofN 4 x.toNat)) := by unfold header_fours.f; rw [if_pos ⟨hl, hx⟩]
theorem w64 (x : Int) (h : 0 ≤ x ∧ x ≤ 4294967295) : IntKind.u64.wrap x = x := u64_id h.1 (by omega)
theorem w16 (s : ByteArray) (h : s.size ≤ 3000) : IntKind.u16.wrap (s.size : Int) = (s.size : Int) := by rw [u16_mod]; omega
theorem w64s (s : ByteArray) (h : s.size ≤ 3000) : IntKind.u64.wrap (s.size : Int) = (s.size : Int) := u64_id (by omega) (by omega)
theorem long0 (l : List ByteArray) (k : Nat) (n : Int) (h : n = (l.length : Int)) : header_long.l0 (k + 1) l n n = some false := by unfold header_long.l0; rw [if_neg (by omega)]
theorem longS (l : List ByteArray) (n i : Nat) (hn : n = l.length) (hi : i < n) (hb : n ≤ 10) (k : Nat) (r : Bool) (h : header_long.l0 k l (n : Int) ((i + 1 : Nat) : Int) = some r) :
    header_long.l0 (k + 1) l (n : Int) (i : Int) = some (decide ((l.getD i ByteArray.empty).size > 65535) || r) := by
  have q1 : (i : Int) < (n : Int) := by omega
  have q2 : (0 : Int) ≤ (i : Int) := Int.natCast_nonneg _
  have q3 : (i : Int) < (l.length : Int) := by omega
  have hg : rdOf ByteArray.empty l (i : Int) = l.getD i ByteArray.empty := by unfold rdOf; simp
  unfold header_long.l0
  rw [if_pos q1, if_pos q2, if_pos q3, hg]
  by_cases hs : (l.getD i ByteArray.empty).size > 65535
  · rw [if_pos (by omega), decide_eq_true hs]; rfl
  · rw [if_neg (by omega), decide_eq_false hs, Bool.false_or]
    have hww : wrap64 ((i : Int) + 1) = ((i + 1 : Nat) : Int) := by rw [wrap_id (by omega) (by omega)]; simp
    rw [hww]; exact h
theorem long2 (a b : ByteArray) : header_long.f 200 [a, b] = some (decide (a.size > 65535) || (decide (b.size > 65535) || false)) :=
  longS [a, b] 2 0 rfl (by decide) (by decide) 199 _ (longS [a, b] 2 1 rfl (by decide) (by decide) 198 _ (long0 [a, b] 197 2 rfl))
theorem long3 (a b c : ByteArray) : header_long.f 200 [a, b, c] = some (decide (a.size > 65535) || (decide (b.size > 65535) || (decide (c.size > 65535) || false))) :=
  longS [a, b, c] 3 0 rfl (by decide) (by decide) 199 _ (longS [a, b, c] 3 1 rfl (by decide) (by decide) 198 _ (longS [a, b, c] 3 2 rfl (by decide) (by decide) 197 _ (long0 [a, b, c] 196 3 rfl)))
theorem local_eq (a0 a1 a2 a3 a4 a5 a6 : Int) (a b : ByteArray) (ha : a.size ≤ 3000) (hb : b.size ≤ 3000) (h0 : 0 ≤ a0 ∧ a0 ≤ 65535) (h1 : 0 ≤ a1 ∧ a1 ≤ 65535) (h2 : 0 ≤ a2 ∧ a2 ≤ 65535) (h3 : 0 ≤ a3 ∧ a3 ≤ 4294967295) (h4 : 0 ≤ a4 ∧ a4 ≤ 4294967295) (h5 : 0 ≤ a5 ∧ a5 ≤ 4294967295) (h6 : 0 ≤ a6 ∧ a6 ≤ 4294967295) :
    ∃ Q l, portmanteaulaw17_locals.f a0 a1 a2 a3 a4 a5 a6 a b = some l ∧ portmanteauref17_Print.f 200 l [4, 2, 2, 2, 4, 4, 4, 4, 2, 2] = some Q ∧ Q.size = 30 ∧ header_PrintLocal.f 200 a0 a1 a2 a3 a4 a5 a6 a b = some (Q ++ a ++ b, 0) := by
  have e1 := twos_eq [a0, a1, a2] (by simp) (by simp; omega)
  have e2 := fours_eq [a3, a4, a5, a6] (by simp) (by simp; omega)
  have e3 := twos_eq [IntKind.u16.wrap (a.size : Int), IntKind.u16.wrap (b.size : Int)] (by simp) (by rw [w16 a ha, w16 b hb]; simp; omega)
  have e4 := print_eq [67324752, a0, a1, a2, a3, a4, a5, a6, (a.size : Int), (b.size : Int)] [4, 2, 2, 2, 4, 4, 4, 4, 2, 2] rfl (by simp; omega) (by decide) (by decide)
  rw [w16 a ha, w16 b hb] at e3
  obtain ⟨Q, hQ⟩ : ∃ Q, strN (rowB [67324752, a0, a1, a2, a3, a4, a5, a6, (a.size : Int), (b.size : Int)] [4, 2, 2, 2, 4, 4, 4, 4, 2, 2]) = Q := ⟨_, rfl⟩
  obtain ⟨T1, hT1⟩ : ∃ T, strN ([a0, a1, a2].flatMap fun x => ofN 2 x.toNat) = T := ⟨_, rfl⟩
  obtain ⟨T2, hT2⟩ : ∃ T, strN ([a3, a4, a5, a6].flatMap fun x => ofN 4 x.toNat) = T := ⟨_, rfl⟩
  obtain ⟨T3, hT3⟩ : ∃ T, strN ([(a.size : Int), (b.size : Int)].flatMap fun x => ofN 2 x.toNat) = T := ⟨_, rfl⟩
  have s0 : Q.size = 30 := by rw [← hQ, strN_size]; simp [rowB, ofN_length]
  have s1 : T1.size = 6 := by rw [← hT1, strN_size]; simp [ofN_length]
  have s2 : T2.size = 16 := by rw [← hT2, strN_size]; simp [ofN_length]
  have s3 : T3.size = 4 := by rw [← hT3, strN_size]; simp [ofN_length]
  have hR : (((⟨#[80, 75, 3, 4]⟩ : ByteArray) ++ T1) ++ T2) ++ T3 = Q := by
    rw [show (⟨#[80, 75, 3, 4]⟩ : ByteArray) = strN (ofN 4 67324752) from by decide +kernel, ← hT1, ← hT2, ← hT3, ← hQ, strN_app, strN_app, strN_app]
    simp [rowB]
  rw [hT1] at e1; rw [hT2] at e2; rw [hT3] at e3; rw [hQ] at e4
  refine ⟨Q, _, rfl, ?_, s0, ?_⟩
  · rw [w64 a0 (by omega), w64 a1 (by omega), w64 a2 (by omega), w64 a3 h3, w64 a4 h4, w64 a5 h5, w64 a6 h6, w64s a ha, w64s b hb]; exact e4
  · unfold header_PrintLocal.f
    rw [long2, Option.bind_some, if_neg (by simp; omega), e1, Option.bind_some, if_pos (by omega), e2, Option.bind_some, if_pos (by omega), w16 a ha, w16 b hb, e3, Option.bind_some, if_pos (by omega), if_pos (by omega), if_pos (by omega), hR]
theorem central_eq (a0 a1 a2 a3 a4 a5 a6 a7 a8 a9 a10 a11 : Int) (a b c : ByteArray) (ha : a.size ≤ 3000) (hb : b.size ≤ 3000) (hc : c.size ≤ 3000) (h0 : 0 ≤ a0 ∧ a0 ≤ 65535) (h1 : 0 ≤ a1 ∧ a1 ≤ 65535) (h2 : 0 ≤ a2 ∧ a2 ≤ 65535) (h3 : 0 ≤ a3 ∧ a3 ≤ 65535) (h4 : 0 ≤ a4 ∧ a4 ≤ 4294967295) (h5 : 0 ≤ a5 ∧ a5 ≤ 4294967295) (h6 : 0 ≤ a6 ∧ a6 ≤ 4294967295) (h7 : 0 ≤ a7 ∧ a7 ≤ 4294967295) (h8 : 0 ≤ a8 ∧ a8 ≤ 65535) (h9 : 0 ≤ a9 ∧ a9 ≤ 65535) (h10 : 0 ≤ a10 ∧ a10 ≤ 4294967295) (h11 : 0 ≤ a11 ∧ a11 ≤ 4294967295) :
    ∃ Q l, portmanteaulaw17_centrals.f a0 a1 a2 a3 a4 a5 a6 a7 a8 a9 a10 a11 a b c = some l ∧ portmanteauref17_Print.f 200 l [4, 2, 2, 2, 2, 4, 4, 4, 4, 2, 2, 2, 2, 2, 4, 4] = some Q ∧ Q.size = 46 ∧ header_PrintCentral.f 200 a0 a1 a2 a3 a4 a5 a6 a7 a8 a9 a10 a11 a b c = some (Q ++ a ++ b ++ c, 0) := by
  have e1 := twos_eq [a0, a1, a2, a3] (by simp) (by simp; omega)
  have e2 := fours_eq [a4, a5, a6, a7] (by simp) (by simp; omega)
  have e3 := twos_eq [IntKind.u16.wrap (a.size : Int), IntKind.u16.wrap (b.size : Int), IntKind.u16.wrap (c.size : Int), a8, a9] (by simp) (by rw [w16 a ha, w16 b hb, w16 c hc]; simp; omega)
  have e5 := fours_eq [a10, a11] (by simp) (by simp; omega)
  have e4 := print_eq [33639248, a0, a1, a2, a3, a4, a5, a6, a7, (a.size : Int), (b.size : Int), (c.size : Int), a8, a9, a10, a11] [4, 2, 2, 2, 2, 4, 4, 4, 4, 2, 2, 2, 2, 2, 4, 4] rfl (by simp; omega) (by decide) (by decide)
  rw [w16 a ha, w16 b hb, w16 c hc] at e3
  obtain ⟨Q, hQ⟩ : ∃ Q, strN (rowB [33639248, a0, a1, a2, a3, a4, a5, a6, a7, (a.size : Int), (b.size : Int), (c.size : Int), a8, a9, a10, a11] [4, 2, 2, 2, 2, 4, 4, 4, 4, 2, 2, 2, 2, 2, 4, 4]) = Q := ⟨_, rfl⟩
  obtain ⟨T1, hT1⟩ : ∃ T, strN ([a0, a1, a2, a3].flatMap fun x => ofN 2 x.toNat) = T := ⟨_, rfl⟩
  obtain ⟨T2, hT2⟩ : ∃ T, strN ([a4, a5, a6, a7].flatMap fun x => ofN 4 x.toNat) = T := ⟨_, rfl⟩
  obtain ⟨T3, hT3⟩ : ∃ T, strN ([(a.size : Int), (b.size : Int), (c.size : Int), a8, a9].flatMap fun x => ofN 2 x.toNat) = T := ⟨_, rfl⟩
  obtain ⟨T4, hT4⟩ : ∃ T, strN ([a10, a11].flatMap fun x => ofN 4 x.toNat) = T := ⟨_, rfl⟩
  have s0 : Q.size = 46 := by rw [← hQ, strN_size]; simp [rowB, ofN_length]
  have s1 : T1.size = 8 := by rw [← hT1, strN_size]; simp [ofN_length]
  have s2 : T2.size = 16 := by rw [← hT2, strN_size]; simp [ofN_length]
  have s3 : T3.size = 10 := by rw [← hT3, strN_size]; simp [ofN_length]
  have s4 : T4.size = 8 := by rw [← hT4, strN_size]; simp [ofN_length]
  have hR : ((((⟨#[80, 75, 1, 2]⟩ : ByteArray) ++ T1) ++ T2) ++ T3) ++ T4 = Q := by
    rw [show (⟨#[80, 75, 1, 2]⟩ : ByteArray) = strN (ofN 4 33639248) from by decide +kernel, ← hT1, ← hT2, ← hT3, ← hT4, ← hQ, strN_app, strN_app, strN_app, strN_app]
    simp [rowB]
  rw [hT1] at e1; rw [hT2] at e2; rw [hT3] at e3; rw [hT4] at e5; rw [hQ] at e4
  refine ⟨Q, _, rfl, ?_, s0, ?_⟩
  · rw [w64 a0 (by omega), w64 a1 (by omega), w64 a2 (by omega), w64 a3 (by omega), w64 a4 (by omega), w64 a5 (by omega), w64 a6 (by omega), w64 a7 (by omega), w64 a8 (by omega), w64 a9 (by omega), w64 a10 (by omega), w64 a11 (by omega), w64s a ha, w64s b hb, w64s c hc]; exact e4
  · unfold header_PrintCentral.f
    rw [long3, Option.bind_some, if_neg (by simp; omega), e1, Option.bind_some, if_pos (by omega), e2, Option.bind_some, if_pos (by omega), w16 a ha, w16 b hb, w16 c hc, e3, Option.bind_some, if_pos (by omega), e5, Option.bind_some, if_pos (by omega), if_pos (by omega), if_pos (by omega), if_pos (by omega), hR]
theorem desc_eq (a0 : Int) (n z : Nat) (h0 : 0 ≤ a0 ∧ a0 ≤ 4294967295) (hn : n < 18446744073709551616) (hz : z < 18446744073709551616) (wide : Bool) :
    ∃ D l ws, portmanteaulaw17_descriptors.f a0 (n : Int) (z : Int) = some l ∧ portmanteauref17_Descriptors.f wide = some ws ∧ portmanteauref17_Print.f 200 l ws = some D ∧ header_PrintDescriptor.f 200 a0 (n : Int) (z : Int) wide = some D ∧ D.size = (if wide = true then 24 else 16) := by
  obtain ⟨x, rfl⟩ : ∃ x : Nat, a0 = (x : Int) := ⟨a0.toNat, by omega⟩
  have hm : (⟨#[80, 75, 7, 8]⟩ : ByteArray) = strN (ofN 4 134695760) := by decide +kernel
  cases wide with
  | true =>
    have e := print_eq [134695760, (x : Int), (n : Int), (z : Int)] [4, 4, 8, 8] rfl (by simp; omega) (by decide) (by decide)
    have l1 : (strN (ofN 4 x)).size = 4 := ofN_length 4 x
    have l2 : (strN (ofN 8 n)).size = 8 := ofN_length 8 n
    have l3 : (strN (ofN 8 z)).size = 8 := ofN_length 8 z
    obtain ⟨D, hD⟩ : ∃ D, strN (rowB [134695760, (x : Int), (n : Int), (z : Int)] [4, 4, 8, 8]) = D := ⟨_, rfl⟩
    have hR : (((⟨#[80, 75, 7, 8]⟩ : ByteArray) ++ strN (ofN 4 x)) ++ strN (ofN 8 n)) ++ strN (ofN 8 z) = D := by
      rw [hm, strN_app, strN_app, strN_app, ← hD]
      simp [rowB]
    have s0 : D.size = 24 := by rw [← hD, strN_size]; simp [rowB, ofN_length]
    rw [hD] at e
    refine ⟨D, _, _, rfl, rfl, by rw [w64 _ h0]; exact e, ?_, s0⟩
    unfold header_PrintDescriptor.f
    rw [if_pos rfl, four_eq x (by omega) 200 (by omega), Option.bind_some, if_pos (by omega), eight_eq n hn 200 (by omega), Option.bind_some, if_pos (by omega), eight_eq z hz 200 (by omega), Option.bind_some, if_pos (by omega), hR]
  | false =>
    have e := print_eq [134695760, (x : Int), (n : Int), (z : Int)] [4, 4, 4, 4] rfl (by simp; omega) (by decide) (by decide)
    have e1 := fours_eq [(x : Int), (n : Int) % 4294967296, (z : Int) % 4294967296] (by simp) (by simp; omega)
    obtain ⟨D, hD⟩ : ∃ D, strN (rowB [134695760, (x : Int), (n : Int), (z : Int)] [4, 4, 4, 4]) = D := ⟨_, rfl⟩
    obtain ⟨T, hT⟩ : ∃ T, strN ([(x : Int), (n : Int) % 4294967296, (z : Int) % 4294967296].flatMap fun x => ofN 4 x.toNat) = T := ⟨_, rfl⟩
    have m1 : ofN 4 ((n : Int) % 4294967296).toNat = ofN 4 n := by rw [show ((n : Int) % 4294967296).toNat = n % 256 ^ 4 by omega]; exact ofN_mod 4 n
    have m2 : ofN 4 ((z : Int) % 4294967296).toNat = ofN 4 z := by rw [show ((z : Int) % 4294967296).toNat = z % 256 ^ 4 by omega]; exact ofN_mod 4 z
    have hR : (⟨#[80, 75, 7, 8]⟩ : ByteArray) ++ T = D := by
      rw [hm, ← hT, strN_app, ← hD]
      simp only [List.flatMap_cons, List.flatMap_nil, m1, m2]
      simp [rowB]
    have s0 : D.size = 16 := by rw [← hD, strN_size]; simp [rowB, ofN_length]
    have s1 : T.size = 12 := by rw [← hT, strN_size]; simp [ofN_length]
    rw [hD] at e
    rw [hT] at e1
    refine ⟨D, _, _, rfl, rfl, by rw [w64 _ h0]; exact e, ?_, s0⟩
    unfold header_PrintDescriptor.f
    rw [if_neg (by decide), e1, Option.bind_some, if_pos (by omega), hR]
theorem awake_true : portmanteaulaw17_awake.f 200 = some true := by
  obtain ⟨Q, l, _, _, hq, h1⟩ := local_eq 0 0 0 0 0 0 0 ⟨#[]⟩ ⟨#[]⟩ (by decide) (by decide) (by decide) (by decide) (by decide) (by decide) (by decide) (by decide) (by decide)
  obtain ⟨R, l2, _, _, hr, h2⟩ := central_eq 0 0 0 0 0 0 0 0 0 0 0 0 ⟨#[]⟩ ⟨#[]⟩ ⟨#[]⟩ (by decide) (by decide) (by decide) (by decide) (by decide) (by decide) (by decide) (by decide) (by decide) (by decide) (by decide) (by decide) (by decide) (by decide) (by decide)
  obtain ⟨D, _, _, _, _, _, h3, hd⟩ := desc_eq 0 0 0 (by decide) (by decide) (by decide) false
  obtain ⟨E, _, _, _, _, _, h4, he⟩ := desc_eq 0 0 0 (by decide) (by decide) (by decide) true
  have hz : (⟨#[]⟩ : ByteArray).size = 0 := rfl
  have hd' : D.size = 16 := hd
  have he' : E.size = 24 := he
  unfold portmanteaulaw17_awake.f
  rw [h1, Option.bind_some, h2, Option.bind_some]
  dsimp only
  rw [if_pos rfl, if_pos rfl, if_pos (by rw [ByteArray.size_append, ByteArray.size_append]; omega), if_pos (by rw [ByteArray.size_append, ByteArray.size_append, ByteArray.size_append]; omega)]
  rw [show header_PrintDescriptor.f 200 0 0 0 false = some D from h3, Option.bind_some, if_pos (by omega), show header_PrintDescriptor.f 200 0 0 0 true = some E from h4, Option.bind_some]
  simp [he']
end Go.Proofs.Ytnjfddmajiihjaa.D17
namespace Go.Proofs.Ytnjfddmajiihjaa.Hp
set_option linter.unusedVariables false
set_option linter.unusedSimpArgs false
open Go Go.RowKit Go.Proofs.Ytnjfddmajiihjaa.P Go.Proofs.Ytnjfddmajiihjaa.B Go.Proofs.Ytnjfddmajiihjaa.D17 Go.Proofs.Ytnjfddmajiihjaa.Num Go.Proofs.YtnjfddmajiihjaaW.PrintWords Go.Proofs.YtnjfddmajiihjaaW.PrintLast Go.Proofs.YtnjfddmajiihjaaW.PrintMore
theorem parse_at (s : ByteArray) (A1 : Option Addr) (n1 c1 : Nat) (l1 : List Int) (a2 : Int) (A3 : Option Addr) (n3 c3 : Nat) (l3 : List Int) (r1 : List Int) (r2 : List ByteArray) (r3 r4 : Int) (w : World) (e1 : l1.length = n1) (e3 : l3.length = n3) (hr1 : Kd.C (Kd.int .i64) w A1 n1 l1) (hc1 : n1 ≤ c1) (hr3 : Kd.C (Kd.int .i64) w A3 n3 l3) (hc3 : n3 ≤ c3)
    (h : portmanteauref17_Parse.f 300 s l1 a2 l3 = some (r1, r2, r3, r4)) : Calls Try.prog 18 #[.string s, .slice A1 n1 c1, .int .u64 a2, .slice A3 n3 c3] w fun e w' => ∃ v0_ v1_ : Value, e = .returned (.tuple #[v0_, v1_, .int .i64 r3, .int .i64 r4]) ∧ Kd.R (Kd.int .u64) 28 w' w.heap.size (fun _ => True) v0_ r1 ∧ Kd.R Kd.string 9 w' w.heap.size (fun _ => True) v1_ r2 ∧ Below w.heap.size w w' := by
  subst e1 e3
  exact portmanteauref17_Parse.calls 300 s A1 c1 l1 a2 A3 c3 l3 r1 r2 r3 r4 w hr1 hc1 hr3 hc3 h
theorem equal_at (A0 : Option Addr) (n0 c0 : Nat) (A1 : Option Addr) (n1 c1 : Nat) (l : List Int) (hl : l.length ≤ 100) (w : World) (e0 : l.length = n0) (e1 : l.length = n1) (hr0 : Kd.C (Kd.int .u64) w A0 n0 l) (hc0 : n0 ≤ c0) (hr1 : Kd.C (Kd.int .u64) w A1 n1 l) (hc1 : n1 ≤ c1) :
    Calls Try.prog 19 #[.slice A0 n0 c0, .slice A1 n1 c1] w fun e w' => e = .returned (.bool true) ∧ Drawn0 w w' := by
  subst e0
  have e2 : l.length = n1 := e1
  subst e2
  refine portmanteaulaw17_equal.calls 200 A0 c0 l A1 c1 l true w hr0 hc0 hr1 hc1 ?_
  unfold portmanteaulaw17_equal.f
  rw [if_pos rfl]
  have : ∀ (d k : Nat) (i : Int), 0 ≤ i → i + (d : Int) = l.length → d < k → portmanteaulaw17_equal.l0 k l l l.length i = some true := by
    intro d
    induction d with
    | zero =>
      intro k i h0 h1 hk
      obtain ⟨k, rfl⟩ : ∃ m, k = m + 1 := ⟨k - 1, by omega⟩
      simp only [portmanteaulaw17_equal.l0]
      rw [if_neg (by omega)]
    | succ d ih =>
      intro k i h0 h1 hk
      obtain ⟨k, rfl⟩ : ∃ m, k = m + 1 := ⟨k - 1, by omega⟩
      simp only [portmanteaulaw17_equal.l0]
      rw [if_pos (by omega), if_pos h0, if_pos (by omega), if_pos (by omega), if_pos trivial, wrap_id (by omega) (by omega)]
      exact ih k (i + 1) (by omega) (by omega) (by omega)
  exact this l.length 200 0 (by omega) (by omega) (by omega)
theorem ints2 (W : World) (a b : Int) : Kd.C (Kd.int .i64) (W.alloc (.cells #[.int .i64 a, .int .i64 b] 3)) (some ⟨W.heap.size, 0, none⟩) 2 [a, b] := by
  refine Full.C_of_reps (cs := [.int .i64 a, .int .i64 b]) (Full.cells_new W _ 3) ?_ (by simp)
  exact Reps.snoc (Reps.snoc (Reps.none _ _) (show (Kd.int .i64).K _ a [.int .i64 a] from rfl) rfl) (show (Kd.int .i64).K _ b [.int .i64 b] from rfl) rfl
theorem ints3 (W : World) (a b c : Int) : Kd.C (Kd.int .i64) (W.alloc (.cells #[.int .i64 a, .int .i64 b, .int .i64 c] 3)) (some ⟨W.heap.size, 0, none⟩) 3 [a, b, c] := by
  refine Full.C_of_reps (cs := [.int .i64 a, .int .i64 b, .int .i64 c]) (Full.cells_new W _ 3) ?_ (by simp)
  exact Reps.snoc (Reps.snoc (Reps.snoc (Reps.none _ _) (show (Kd.int .i64).K _ a [.int .i64 a] from rfl) rfl) (show (Kd.int .i64).K _ b [.int .i64 b] from rfl) rfl) (show (Kd.int .i64).K _ c [.int .i64 c] from rfl) rfl
theorem ints0 (W : World) : Kd.C (Kd.int .i64) W none 0 ([] : List Int) := Kd.C_nil _ _
theorem row_out {W : World} {base : Nat} {e : Nat} {α : Type} {d : Kd α} {v : Value} {l : List α} (h : Kd.R d e W base (fun _ => True) v l) : ∃ A c, v = .slice A l.length c ∧ l.length ≤ c ∧ Kd.C d W A l.length l := Kd.R_reads h
theorem text_cell {W : World} {base : Nat} {v : Value} {l : List ByteArray} (h : Kd.R Kd.string 9 W base (fun _ => True) v l) (hp : 0 < l.length) : ∃ g c, v = .slice (some ⟨g, 0, none⟩) l.length c ∧ l.length ≤ c ∧ ∀ j (hj : j < l.length), W.cell? ⟨g, j, none⟩ = some (.string l[j]) := by
  obtain ⟨g, c, rfl, _⟩ := Kd.R_form h hp
  obtain ⟨_, hlc, _⟩ := Kd.R_reads' h
  refine ⟨g, c, rfl, hlc, fun j hj => ?_⟩
  have := (Kd.R_cell (⟨#[]⟩ : ByteArray) h (j : Int) (by omega) (by omega)).1
  rw [Int.toNat_natCast] at this
  rw [this]
  unfold rdOf
  rw [Int.toNat_natCast, List.getD_eq_getElem?_getD, List.getElem?_eq_getElem hj]
  rfl
end Go.Proofs.Ytnjfddmajiihjaa.Hp
namespace Go.Proofs.Ytnjfddmajiihjaa.Hp
set_option linter.unusedVariables false
set_option linter.unusedSimpArgs false
open Go Go.RowKit Go.Proofs.Ytnjfddmajiihjaa.P Go.Proofs.Ytnjfddmajiihjaa.B Go.Proofs.Ytnjfddmajiihjaa.Num Go.Proofs.Ytnjfddmajiihjaa.Cur Go.Proofs.YtnjfddmajiihjaaW.PrintWords Go.Proofs.YtnjfddmajiihjaaW.PrintLast Go.Proofs.YtnjfddmajiihjaaW.PrintMore
theorem central_short (s : ByteArray) (hs : s.size ≤ 3000) (h : s.size < 4) : header_ParseCentral.f s = some (0, 0, 0, 0, 0, 0, 0, 0, 0, 0, 0, 0, (⟨#[]⟩ : ByteArray), (⟨#[]⟩ : ByteArray), (⟨#[]⟩ : ByteArray), 0, 3) := by
  unfold header_ParseCentral.f
  rw [first_none s hs h, Option.bind_some]
  dsimp only
  rw [if_neg (by decide)]
theorem central_no4 (s : ByteArray) (hs : s.size ≤ 3000) (h : 4 ≤ s.size) (hm : s.data.toList.take 4 ≠ [80, 75, 1, 2]) : header_ParseCentral.f s = some (0, 0, 0, 0, 0, 0, 0, 0, 0, 0, 0, 0, (⟨#[]⟩ : ByteArray), (⟨#[]⟩ : ByteArray), (⟨#[]⟩ : ByteArray), 0, 4) := by
  unfold header_ParseCentral.f
  rw [first_four s hs h, Option.bind_some]
  dsimp only
  rw [if_pos rfl, if_neg]
  rw [strN_toList, toL]
  simpa using hm
theorem central_fix (s : ByteArray) (hs : s.size ≤ 3000) (h4 : 4 ≤ s.size) (hm : s.data.toList.take 4 = [80, 75, 1, 2]) (h : s.size < 4 + 42) : header_ParseCentral.f s = some (0, 0, 0, 0, 0, 0, 0, 0, 0, 0, 0, 0, (⟨#[]⟩ : ByteArray), (⟨#[]⟩ : ByteArray), (⟨#[]⟩ : ByteArray), 0, 3) := by
  have h0 := at_four s hs h4
  obtain ⟨vs, b, hc⟩ := chain_fail [2, 2, 2, 2, 4, 4, 4, 4, 2, 2, 2, 2, 2, 4, 4] 4 (s.data.toList.drop 4) (by intro w hw; simp only [List.mem_cons, List.mem_nil_iff, or_false] at hw; unfold Wd; omega) h0 (by rw [List.length_drop, toList_length]; simp; omega)
  obtain ⟨v1, s1, a1, e1, us1, g1, hc, hv1⟩ := chain_cons hc
  rw [op2] at g1
  obtain ⟨v2, s2, a2, e2, us2, g2, hc, hv2⟩ := chain_cons hc
  rw [op2] at g2
  obtain ⟨v3, s3, a3, e3, us3, g3, hc, hv3⟩ := chain_cons hc
  rw [op2] at g3
  obtain ⟨v4, s4, a4, e4, us4, g4, hc, hv4⟩ := chain_cons hc
  rw [op2] at g4
  obtain ⟨v5, s5, a5, e5, us5, g5, hc, hv5⟩ := chain_cons hc
  rw [op4] at g5
  obtain ⟨v6, s6, a6, e6, us6, g6, hc, hv6⟩ := chain_cons hc
  rw [op4] at g6
  obtain ⟨v7, s7, a7, e7, us7, g7, hc, hv7⟩ := chain_cons hc
  rw [op4] at g7
  obtain ⟨v8, s8, a8, e8, us8, g8, hc, hv8⟩ := chain_cons hc
  rw [op4] at g8
  obtain ⟨v9, s9, a9, e9, us9, g9, hc, hv9⟩ := chain_cons hc
  rw [op2] at g9
  obtain ⟨v10, s10, a10, e10, us10, g10, hc, hv10⟩ := chain_cons hc
  rw [op2] at g10
  obtain ⟨v11, s11, a11, e11, us11, g11, hc, hv11⟩ := chain_cons hc
  rw [op2] at g11
  obtain ⟨v12, s12, a12, e12, us12, g12, hc, hv12⟩ := chain_cons hc
  rw [op2] at g12
  obtain ⟨v13, s13, a13, e13, us13, g13, hc, hv13⟩ := chain_cons hc
  rw [op2] at g13
  obtain ⟨v14, s14, a14, e14, us14, g14, hc, hv14⟩ := chain_cons hc
  rw [op4] at g14
  obtain ⟨v15, s15, a15, e15, us15, g15, hc, hv15⟩ := chain_cons hc
  rw [op4] at g15
  obtain ⟨hs9, ha9, he9, hv0⟩ := chain_nil hc
  subst hs9 ha9 he9
  unfold header_ParseCentral.f
  rw [first_four s hs (by omega), Option.bind_some]
  dsimp only
  rw [if_pos rfl, if_pos (by rw [strN_toList, hm, toL]; rfl)]
  rw [g1, Option.bind_some]
  dsimp only
  rw [g2, Option.bind_some]
  dsimp only
  rw [g3, Option.bind_some]
  dsimp only
  rw [g4, Option.bind_some]
  dsimp only
  rw [g5, Option.bind_some]
  dsimp only
  rw [g6, Option.bind_some]
  dsimp only
  rw [g7, Option.bind_some]
  dsimp only
  rw [g8, Option.bind_some]
  dsimp only
  rw [g9, Option.bind_some]
  dsimp only
  rw [g10, Option.bind_some]
  dsimp only
  rw [g11, Option.bind_some]
  dsimp only
  rw [g12, Option.bind_some]
  dsimp only
  rw [g13, Option.bind_some]
  dsimp only
  rw [g14, Option.bind_some]
  dsimp only
  rw [g15, Option.bind_some]
  dsimp only
  rw [take_bad (by decide), Option.bind_some]
  dsimp only
  rw [take_bad (by decide), Option.bind_some]
  dsimp only
  rw [take_bad (by decide), Option.bind_some]
  dsimp only
  rw [if_neg (by decide)]
theorem central_txt (s : ByteArray) (hs : s.size ≤ 3000) (hm : s.data.toList.take 4 = [80, 75, 1, 2]) (h : 4 + 42 ≤ s.size) (v1 : Int) (v2 : Int) (v3 : Int) (v4 : Int) (v5 : Int) (v6 : Int) (v7 : Int) (v8 : Int) (v9 : Int) (v10 : Int) (v11 : Int) (v12 : Int) (v13 : Int) (v14 : Int) (v15 : Int) (hn : numsL [2, 2, 2, 2, 4, 4, 4, 4, 2, 2, 2, 2, 2, 4, 4] (s.data.toList.drop 4) = [v1, v2, v3, v4, v5, v6, v7, v8, v9, v10, v11, v12, v13, v14, v15]) (q1 : Nat) (hq1 : v9 = (q1 : Int)) (q2 : Nat) (hq2 : v10 = (q2 : Int)) (q3 : Nat) (hq3 : v11 = (q3 : Int)) (hk : s.size < 46 + (q1 + q2 + q3)) : header_ParseCentral.f s = some (0, 0, 0, 0, 0, 0, 0, 0, 0, 0, 0, 0, (⟨#[]⟩ : ByteArray), (⟨#[]⟩ : ByteArray), (⟨#[]⟩ : ByteArray), 0, 3) := by
  have h0 := at_four s hs (by omega)
  have hc := chain_ok [2, 2, 2, 2, 4, 4, 4, 4, 2, 2, 2, 2, 2, 4, 4] 4 (s.data.toList.drop 4) (by intro w hw; simp only [List.mem_cons, List.mem_nil_iff, or_false] at hw; unfold Wd; omega) h0 (by rw [List.length_drop, toList_length]; simp; omega)
  rw [hn] at hc
  change chain [2, 2, 2, 2, 4, 4, 4, 4, 2, 2, 2, 2, 2, 4, 4] s 4 0 = some ([v1, v2, v3, v4, v5, v6, v7, v8, v9, v10, v11, v12, v13, v14, v15], s, 4 + ((42 : Nat) : Int), 0) at hc
  obtain ⟨y1, s1, a1, e1, us1, g1, hc, hv1⟩ := chain_cons hc
  rw [op2] at g1
  injection hv1 with hy1 hv1
  subst hy1 hv1
  obtain ⟨y2, s2, a2, e2, us2, g2, hc, hv2⟩ := chain_cons hc
  rw [op2] at g2
  injection hv2 with hy2 hv2
  subst hy2 hv2
  obtain ⟨y3, s3, a3, e3, us3, g3, hc, hv3⟩ := chain_cons hc
  rw [op2] at g3
  injection hv3 with hy3 hv3
  subst hy3 hv3
  obtain ⟨y4, s4, a4, e4, us4, g4, hc, hv4⟩ := chain_cons hc
  rw [op2] at g4
  injection hv4 with hy4 hv4
  subst hy4 hv4
  obtain ⟨y5, s5, a5, e5, us5, g5, hc, hv5⟩ := chain_cons hc
  rw [op4] at g5
  injection hv5 with hy5 hv5
  subst hy5 hv5
  obtain ⟨y6, s6, a6, e6, us6, g6, hc, hv6⟩ := chain_cons hc
  rw [op4] at g6
  injection hv6 with hy6 hv6
  subst hy6 hv6
  obtain ⟨y7, s7, a7, e7, us7, g7, hc, hv7⟩ := chain_cons hc
  rw [op4] at g7
  injection hv7 with hy7 hv7
  subst hy7 hv7
  obtain ⟨y8, s8, a8, e8, us8, g8, hc, hv8⟩ := chain_cons hc
  rw [op4] at g8
  injection hv8 with hy8 hv8
  subst hy8 hv8
  obtain ⟨y9, s9, a9, e9, us9, g9, hc, hv9⟩ := chain_cons hc
  rw [op2] at g9
  injection hv9 with hy9 hv9
  subst hy9 hv9
  obtain ⟨y10, s10, a10, e10, us10, g10, hc, hv10⟩ := chain_cons hc
  rw [op2] at g10
  injection hv10 with hy10 hv10
  subst hy10 hv10
  obtain ⟨y11, s11, a11, e11, us11, g11, hc, hv11⟩ := chain_cons hc
  rw [op2] at g11
  injection hv11 with hy11 hv11
  subst hy11 hv11
  obtain ⟨y12, s12, a12, e12, us12, g12, hc, hv12⟩ := chain_cons hc
  rw [op2] at g12
  injection hv12 with hy12 hv12
  subst hy12 hv12
  obtain ⟨y13, s13, a13, e13, us13, g13, hc, hv13⟩ := chain_cons hc
  rw [op2] at g13
  injection hv13 with hy13 hv13
  subst hy13 hv13
  obtain ⟨y14, s14, a14, e14, us14, g14, hc, hv14⟩ := chain_cons hc
  rw [op4] at g14
  injection hv14 with hy14 hv14
  subst hy14 hv14
  obtain ⟨y15, s15, a15, e15, us15, g15, hc, hv15⟩ := chain_cons hc
  rw [op4] at g15
  injection hv15 with hy15 hv15
  subst hy15 hv15
  obtain ⟨hs9, ha9, he9, _⟩ := chain_nil hc
  subst hs9 ha9 he9
  have h1 := at_drop h0 42 (by rw [List.length_drop, toList_length]; omega)
  rw [List.drop_drop] at h1
  obtain ⟨us, b, ht⟩ := tchain_fail [q1, q2, q3] _ _ h1 (by rw [List.length_drop, toList_length]; simp; omega)
  simp only [List.map_cons, List.map_nil] at ht
  obtain ⟨x1, sx1, ax1, ex1, ux1, gx1, ht, hx1⟩ := tchain_cons ht
  obtain ⟨x2, sx2, ax2, ex2, ux2, gx2, ht, hx2⟩ := tchain_cons ht
  obtain ⟨x3, sx3, ax3, ex3, ux3, gx3, ht, hx3⟩ := tchain_cons ht
  obtain ⟨hs8, ha8, he8, hx0⟩ := tchain_nil ht
  subst hs8 ha8 he8
  unfold header_ParseCentral.f
  rw [first_four s hs (by omega), Option.bind_some]
  dsimp only
  rw [if_pos rfl, if_pos (by rw [strN_toList, hm, toL]; rfl)]
  rw [g1, Option.bind_some]
  dsimp only
  rw [g2, Option.bind_some]
  dsimp only
  rw [g3, Option.bind_some]
  dsimp only
  rw [g4, Option.bind_some]
  dsimp only
  rw [g5, Option.bind_some]
  dsimp only
  rw [g6, Option.bind_some]
  dsimp only
  rw [g7, Option.bind_some]
  dsimp only
  rw [g8, Option.bind_some]
  dsimp only
  rw [g9, Option.bind_some]
  dsimp only
  rw [g10, Option.bind_some]
  dsimp only
  rw [g11, Option.bind_some]
  dsimp only
  rw [g12, Option.bind_some]
  dsimp only
  rw [g13, Option.bind_some]
  dsimp only
  rw [g14, Option.bind_some]
  dsimp only
  rw [g15, Option.bind_some]
  dsimp only
  rw [hq1, gx1, Option.bind_some]
  dsimp only
  rw [hq2, gx2, Option.bind_some]
  dsimp only
  rw [hq3, gx3, Option.bind_some]
  dsimp only
  rw [if_neg (by decide)]
theorem central_good (s : ByteArray) (hs : s.size ≤ 3000) (hm : s.data.toList.take 4 = [80, 75, 1, 2]) (h : 4 + 42 ≤ s.size) (v1 : Int) (v2 : Int) (v3 : Int) (v4 : Int) (v5 : Int) (v6 : Int) (v7 : Int) (v8 : Int) (v9 : Int) (v10 : Int) (v11 : Int) (v12 : Int) (v13 : Int) (v14 : Int) (v15 : Int) (hn : numsL [2, 2, 2, 2, 4, 4, 4, 4, 2, 2, 2, 2, 2, 4, 4] (s.data.toList.drop 4) = [v1, v2, v3, v4, v5, v6, v7, v8, v9, v10, v11, v12, v13, v14, v15]) (q1 : Nat) (hq1 : v9 = (q1 : Int)) (q2 : Nat) (hq2 : v10 = (q2 : Int)) (q3 : Nat) (hq3 : v11 = (q3 : Int)) (x1 : ByteArray) (x2 : ByteArray) (x3 : ByteArray) (hx : textsL [q1, q2, q3] (s.data.toList.drop 46) = [x1, x2, x3]) (hk : 46 + (q1 + q2 + q3) ≤ s.size) : header_ParseCentral.f s = some (v1, v2, v3, v4, v5, v6, v7, v8, v12, v13, v14, v15, x1, x2, x3, ((46 + (q1 + q2 + q3) : Nat) : Int), 0) := by
  have h0 := at_four s hs (by omega)
  have hc := chain_ok [2, 2, 2, 2, 4, 4, 4, 4, 2, 2, 2, 2, 2, 4, 4] 4 (s.data.toList.drop 4) (by intro w hw; simp only [List.mem_cons, List.mem_nil_iff, or_false] at hw; unfold Wd; omega) h0 (by rw [List.length_drop, toList_length]; simp; omega)
  rw [hn] at hc
  change chain [2, 2, 2, 2, 4, 4, 4, 4, 2, 2, 2, 2, 2, 4, 4] s 4 0 = some ([v1, v2, v3, v4, v5, v6, v7, v8, v9, v10, v11, v12, v13, v14, v15], s, 4 + ((42 : Nat) : Int), 0) at hc
  obtain ⟨y1, s1, a1, e1, us1, g1, hc, hv1⟩ := chain_cons hc
  rw [op2] at g1
  injection hv1 with hy1 hv1
  subst hy1 hv1
  obtain ⟨y2, s2, a2, e2, us2, g2, hc, hv2⟩ := chain_cons hc
  rw [op2] at g2
  injection hv2 with hy2 hv2
  subst hy2 hv2
  obtain ⟨y3, s3, a3, e3, us3, g3, hc, hv3⟩ := chain_cons hc
  rw [op2] at g3
  injection hv3 with hy3 hv3
  subst hy3 hv3
  obtain ⟨y4, s4, a4, e4, us4, g4, hc, hv4⟩ := chain_cons hc
  rw [op2] at g4
  injection hv4 with hy4 hv4
  subst hy4 hv4
  obtain ⟨y5, s5, a5, e5, us5, g5, hc, hv5⟩ := chain_cons hc
  rw [op4] at g5
  injection hv5 with hy5 hv5
  subst hy5 hv5
  obtain ⟨y6, s6, a6, e6, us6, g6, hc, hv6⟩ := chain_cons hc
  rw [op4] at g6
  injection hv6 with hy6 hv6
  subst hy6 hv6
  obtain ⟨y7, s7, a7, e7, us7, g7, hc, hv7⟩ := chain_cons hc
  rw [op4] at g7
  injection hv7 with hy7 hv7
  subst hy7 hv7
  obtain ⟨y8, s8, a8, e8, us8, g8, hc, hv8⟩ := chain_cons hc
  rw [op4] at g8
  injection hv8 with hy8 hv8
  subst hy8 hv8
  obtain ⟨y9, s9, a9, e9, us9, g9, hc, hv9⟩ := chain_cons hc
  rw [op2] at g9
  injection hv9 with hy9 hv9
  subst hy9 hv9
  obtain ⟨y10, s10, a10, e10, us10, g10, hc, hv10⟩ := chain_cons hc
  rw [op2] at g10
  injection hv10 with hy10 hv10
  subst hy10 hv10
  obtain ⟨y11, s11, a11, e11, us11, g11, hc, hv11⟩ := chain_cons hc
  rw [op2] at g11
  injection hv11 with hy11 hv11
  subst hy11 hv11
  obtain ⟨y12, s12, a12, e12, us12, g12, hc, hv12⟩ := chain_cons hc
  rw [op2] at g12
  injection hv12 with hy12 hv12
  subst hy12 hv12
  obtain ⟨y13, s13, a13, e13, us13, g13, hc, hv13⟩ := chain_cons hc
  rw [op2] at g13
  injection hv13 with hy13 hv13
  subst hy13 hv13
  obtain ⟨y14, s14, a14, e14, us14, g14, hc, hv14⟩ := chain_cons hc
  rw [op4] at g14
  injection hv14 with hy14 hv14
  subst hy14 hv14
  obtain ⟨y15, s15, a15, e15, us15, g15, hc, hv15⟩ := chain_cons hc
  rw [op4] at g15
  injection hv15 with hy15 hv15
  subst hy15 hv15
  obtain ⟨hs9, ha9, he9, _⟩ := chain_nil hc
  subst hs9 ha9 he9
  have h1 := at_drop h0 42 (by rw [List.length_drop, toList_length]; omega)
  rw [List.drop_drop] at h1
  have ht := tchain_ok [q1, q2, q3] _ _ h1 (by rw [List.length_drop, toList_length]; simp; omega)
  rw [hx] at ht
  simp only [List.map_cons, List.map_nil] at ht
  obtain ⟨y1, sx1, ax1, ex1, ux1, gx1, ht, hx1⟩ := tchain_cons ht
  injection hx1 with hy1 hx1
  subst hy1 hx1
  obtain ⟨y2, sx2, ax2, ex2, ux2, gx2, ht, hx2⟩ := tchain_cons ht
  injection hx2 with hy2 hx2
  subst hy2 hx2
  obtain ⟨y3, sx3, ax3, ex3, ux3, gx3, ht, hx3⟩ := tchain_cons ht
  injection hx3 with hy3 hx3
  subst hy3 hx3
  obtain ⟨hs8, ha8, he8, _⟩ := tchain_nil ht
  subst hs8 he8
  unfold header_ParseCentral.f
  rw [first_four s hs (by omega), Option.bind_some]
  dsimp only
  rw [if_pos rfl, if_pos (by rw [strN_toList, hm, toL]; rfl)]
  rw [g1, Option.bind_some]
  dsimp only
  rw [g2, Option.bind_some]
  dsimp only
  rw [g3, Option.bind_some]
  dsimp only
  rw [g4, Option.bind_some]
  dsimp only
  rw [g5, Option.bind_some]
  dsimp only
  rw [g6, Option.bind_some]
  dsimp only
  rw [g7, Option.bind_some]
  dsimp only
  rw [g8, Option.bind_some]
  dsimp only
  rw [g9, Option.bind_some]
  dsimp only
  rw [g10, Option.bind_some]
  dsimp only
  rw [g11, Option.bind_some]
  dsimp only
  rw [g12, Option.bind_some]
  dsimp only
  rw [g13, Option.bind_some]
  dsimp only
  rw [g14, Option.bind_some]
  dsimp only
  rw [g15, Option.bind_some]
  dsimp only
  rw [hq1, gx1, Option.bind_some]
  dsimp only
  rw [hq2, gx2, Option.bind_some]
  dsimp only
  rw [hq3, gx3, Option.bind_some]
  dsimp only
  rw [if_pos rfl, ← ha8]
  simp only [Option.some.injEq, Prod.mk.injEq, and_true, true_and, List.sum_cons, List.sum_nil]
  omega
end Go.Proofs.Ytnjfddmajiihjaa.Hp
namespace Go.Proofs.Ytnjfddmajiihjaa.Hp
set_option linter.unusedVariables false
set_option linter.unusedSimpArgs false
open Go Go.RowKit Go.Proofs.Ytnjfddmajiihjaa.P Go.Proofs.Ytnjfddmajiihjaa.B Go.Proofs.Ytnjfddmajiihjaa.Num Go.Proofs.Ytnjfddmajiihjaa.Cur Go.Proofs.YtnjfddmajiihjaaW.PrintWords Go.Proofs.YtnjfddmajiihjaaW.PrintLast Go.Proofs.YtnjfddmajiihjaaW.PrintMore
theorem descw_short (s : ByteArray) (hs : s.size ≤ 3000) (h : s.size < 4) : header_ParseDescriptor.f s true = some (0, 0, 0, 0, 3) := by
  unfold header_ParseDescriptor.f
  rw [first_none s hs h, Option.bind_some]
  dsimp only
  rw [if_neg (by decide)]
theorem descw_no4 (s : ByteArray) (hs : s.size ≤ 3000) (h : 4 ≤ s.size) (hm : s.data.toList.take 4 ≠ [80, 75, 7, 8]) : header_ParseDescriptor.f s true = some (0, 0, 0, 0, 4) := by
  unfold header_ParseDescriptor.f
  rw [first_four s hs h, Option.bind_some]
  dsimp only
  rw [if_pos rfl, if_neg]
  rw [strN_toList, toL]
  simpa using hm
theorem descw_fix (s : ByteArray) (hs : s.size ≤ 3000) (h4 : 4 ≤ s.size) (hm : s.data.toList.take 4 = [80, 75, 7, 8]) (h : s.size < 4 + 20) : header_ParseDescriptor.f s true = some (0, 0, 0, 0, 3) := by
  have h0 := at_four s hs h4
  obtain ⟨vs, b, hc⟩ := chain_fail [4, 8, 8] 4 (s.data.toList.drop 4) (by intro w hw; simp only [List.mem_cons, List.mem_nil_iff, or_false] at hw; unfold Wd; omega) h0 (by rw [List.length_drop, toList_length]; simp; omega)
  obtain ⟨v1, s1, a1, e1, us1, g1, hc, hv1⟩ := chain_cons hc
  rw [op4] at g1
  obtain ⟨v2, s2, a2, e2, us2, g2, hc, hv2⟩ := chain_cons hc
  rw [op8] at g2
  obtain ⟨v3, s3, a3, e3, us3, g3, hc, hv3⟩ := chain_cons hc
  rw [op8] at g3
  obtain ⟨hs9, ha9, he9, hv0⟩ := chain_nil hc
  subst hs9 ha9 he9
  unfold header_ParseDescriptor.f
  rw [first_four s hs (by omega), Option.bind_some]
  dsimp only
  rw [if_pos rfl, if_pos (by rw [strN_toList, hm, toL]; rfl)]
  rw [if_pos rfl]
  rw [g1, Option.bind_some]
  dsimp only
  rw [g2, Option.bind_some]
  dsimp only
  rw [g3, Option.bind_some]
  dsimp only
  rw [if_neg (by decide)]
theorem descw_good (s : ByteArray) (hs : s.size ≤ 3000) (hm : s.data.toList.take 4 = [80, 75, 7, 8]) (h : 4 + 20 ≤ s.size) (v1 : Int) (v2 : Int) (v3 : Int) (hn : numsL [4, 8, 8] (s.data.toList.drop 4) = [v1, v2, v3])  : header_ParseDescriptor.f s true = some (v1, v2, v3, ((24 : Nat) : Int), 0) := by
  have h0 := at_four s hs (by omega)
  have hc := chain_ok [4, 8, 8] 4 (s.data.toList.drop 4) (by intro w hw; simp only [List.mem_cons, List.mem_nil_iff, or_false] at hw; unfold Wd; omega) h0 (by rw [List.length_drop, toList_length]; simp; omega)
  rw [hn] at hc
  change chain [4, 8, 8] s 4 0 = some ([v1, v2, v3], s, 4 + ((20 : Nat) : Int), 0) at hc
  obtain ⟨y1, s1, a1, e1, us1, g1, hc, hv1⟩ := chain_cons hc
  rw [op4] at g1
  injection hv1 with hy1 hv1
  subst hy1 hv1
  obtain ⟨y2, s2, a2, e2, us2, g2, hc, hv2⟩ := chain_cons hc
  rw [op8] at g2
  injection hv2 with hy2 hv2
  subst hy2 hv2
  obtain ⟨y3, s3, a3, e3, us3, g3, hc, hv3⟩ := chain_cons hc
  rw [op8] at g3
  injection hv3 with hy3 hv3
  subst hy3 hv3
  obtain ⟨hs9, ha9, he9, _⟩ := chain_nil hc
  subst hs9 ha9 he9
  have h1 := at_drop h0 20 (by rw [List.length_drop, toList_length]; omega)
  rw [List.drop_drop] at h1
  unfold header_ParseDescriptor.f
  rw [first_four s hs (by omega), Option.bind_some]
  dsimp only
  rw [if_pos rfl, if_pos (by rw [strN_toList, hm, toL]; rfl)]
  rw [if_pos rfl]
  rw [g1, Option.bind_some]
  dsimp only
  rw [g2, Option.bind_some]
  dsimp only
  rw [g3, Option.bind_some]
  dsimp only
  rw [if_pos rfl]
  simp only [Option.some.injEq, Prod.mk.injEq, and_true, true_and, List.sum_cons, List.sum_nil]
  omega
theorem descn_short (s : ByteArray) (hs : s.size ≤ 3000) (h : s.size < 4) : header_ParseDescriptor.f s false = some (0, 0, 0, 0, 3) := by
  unfold header_ParseDescriptor.f
  rw [first_none s hs h, Option.bind_some]
  dsimp only
  rw [if_neg (by decide)]
theorem descn_no4 (s : ByteArray) (hs : s.size ≤ 3000) (h : 4 ≤ s.size) (hm : s.data.toList.take 4 ≠ [80, 75, 7, 8]) : header_ParseDescriptor.f s false = some (0, 0, 0, 0, 4) := by
  unfold header_ParseDescriptor.f
  rw [first_four s hs h, Option.bind_some]
  dsimp only
  rw [if_pos rfl, if_neg]
  rw [strN_toList, toL]
  simpa using hm
theorem descn_fix (s : ByteArray) (hs : s.size ≤ 3000) (h4 : 4 ≤ s.size) (hm : s.data.toList.take 4 = [80, 75, 7, 8]) (h : s.size < 4 + 12) : header_ParseDescriptor.f s false = some (0, 0, 0, 0, 3) := by
  have h0 := at_four s hs h4
  obtain ⟨vs, b, hc⟩ := chain_fail [4, 4, 4] 4 (s.data.toList.drop 4) (by intro w hw; simp only [List.mem_cons, List.mem_nil_iff, or_false] at hw; unfold Wd; omega) h0 (by rw [List.length_drop, toList_length]; simp; omega)
  obtain ⟨v1, s1, a1, e1, us1, g1, hc, hv1⟩ := chain_cons hc
  rw [op4] at g1
  obtain ⟨v2, s2, a2, e2, us2, g2, hc, hv2⟩ := chain_cons hc
  rw [op4] at g2
  obtain ⟨v3, s3, a3, e3, us3, g3, hc, hv3⟩ := chain_cons hc
  rw [op4] at g3
  obtain ⟨hs9, ha9, he9, hv0⟩ := chain_nil hc
  subst hs9 ha9 he9
  unfold header_ParseDescriptor.f
  rw [first_four s hs (by omega), Option.bind_some]
  dsimp only
  rw [if_pos rfl, if_pos (by rw [strN_toList, hm, toL]; rfl)]
  rw [if_neg (by decide)]
  rw [g1, Option.bind_some]
  dsimp only
  rw [g2, Option.bind_some]
  dsimp only
  rw [g3, Option.bind_some]
  dsimp only
  rw [if_neg (by decide)]
theorem descn_good (s : ByteArray) (hs : s.size ≤ 3000) (hm : s.data.toList.take 4 = [80, 75, 7, 8]) (h : 4 + 12 ≤ s.size) (v1 : Int) (v2 : Int) (v3 : Int) (hn : numsL [4, 4, 4] (s.data.toList.drop 4) = [v1, v2, v3])  : header_ParseDescriptor.f s false = some (v1, v2, v3, ((16 : Nat) : Int), 0) := by
  have h0 := at_four s hs (by omega)
  have hc := chain_ok [4, 4, 4] 4 (s.data.toList.drop 4) (by intro w hw; simp only [List.mem_cons, List.mem_nil_iff, or_false] at hw; unfold Wd; omega) h0 (by rw [List.length_drop, toList_length]; simp; omega)
  rw [hn] at hc
  change chain [4, 4, 4] s 4 0 = some ([v1, v2, v3], s, 4 + ((12 : Nat) : Int), 0) at hc
  obtain ⟨y1, s1, a1, e1, us1, g1, hc, hv1⟩ := chain_cons hc
  rw [op4] at g1
  injection hv1 with hy1 hv1
  subst hy1 hv1
  obtain ⟨y2, s2, a2, e2, us2, g2, hc, hv2⟩ := chain_cons hc
  rw [op4] at g2
  injection hv2 with hy2 hv2
  subst hy2 hv2
  obtain ⟨y3, s3, a3, e3, us3, g3, hc, hv3⟩ := chain_cons hc
  rw [op4] at g3
  injection hv3 with hy3 hv3
  subst hy3 hv3
  obtain ⟨hs9, ha9, he9, _⟩ := chain_nil hc
  subst hs9 ha9 he9
  have h1 := at_drop h0 12 (by rw [List.length_drop, toList_length]; omega)
  rw [List.drop_drop] at h1
  unfold header_ParseDescriptor.f
  rw [first_four s hs (by omega), Option.bind_some]
  dsimp only
  rw [if_pos rfl, if_pos (by rw [strN_toList, hm, toL]; rfl)]
  rw [if_neg (by decide)]
  rw [g1, Option.bind_some]
  dsimp only
  rw [g2, Option.bind_some]
  dsimp only
  rw [g3, Option.bind_some]
  dsimp only
  rw [if_pos rfl]
  simp only [Option.some.injEq, Prod.mk.injEq, and_true, true_and, List.sum_cons, List.sum_nil]
  omega
end Go.Proofs.Ytnjfddmajiihjaa.Hp
namespace Go.Proofs.Ytnjfddmajiihjaa.Hp
set_option linter.unusedVariables false
set_option linter.unusedSimpArgs false
open Go Go.RowKit Go.Proofs.Ytnjfddmajiihjaa.P Go.Proofs.Ytnjfddmajiihjaa.B Go.Proofs.Ytnjfddmajiihjaa.Num Go.Proofs.Ytnjfddmajiihjaa.Cur Go.Proofs.YtnjfddmajiihjaaW.PrintWords Go.Proofs.YtnjfddmajiihjaaW.PrintLast Go.Proofs.YtnjfddmajiihjaaW.PrintMore
theorem local_short (s : ByteArray) (hs : s.size ≤ 3000) (h : s.size < 4) : header_ParseLocal.f s = some (0, 0, 0, 0, 0, 0, 0, (⟨#[]⟩ : ByteArray), (⟨#[]⟩ : ByteArray), 0, 3) := by
  unfold header_ParseLocal.f
  rw [first_none s hs h, Option.bind_some]
  dsimp only
  rw [if_neg (by decide)]
theorem local_no4 (s : ByteArray) (hs : s.size ≤ 3000) (h : 4 ≤ s.size) (hm : s.data.toList.take 4 ≠ [80, 75, 3, 4]) : header_ParseLocal.f s = some (0, 0, 0, 0, 0, 0, 0, (⟨#[]⟩ : ByteArray), (⟨#[]⟩ : ByteArray), 0, 4) := by
  unfold header_ParseLocal.f
  rw [first_four s hs h, Option.bind_some]
  dsimp only
  rw [if_pos rfl, if_neg]
  rw [strN_toList, toL]
  simpa using hm
theorem local_fix (s : ByteArray) (hs : s.size ≤ 3000) (h4 : 4 ≤ s.size) (hm : s.data.toList.take 4 = [80, 75, 3, 4]) (h : s.size < 4 + 26) : header_ParseLocal.f s = some (0, 0, 0, 0, 0, 0, 0, (⟨#[]⟩ : ByteArray), (⟨#[]⟩ : ByteArray), 0, 3) := by
  have h0 := at_four s hs h4
  obtain ⟨vs, b, hc⟩ := chain_fail [2, 2, 2, 4, 4, 4, 4, 2, 2] 4 (s.data.toList.drop 4) (by intro w hw; simp only [List.mem_cons, List.mem_nil_iff, or_false] at hw; unfold Wd; omega) h0 (by rw [List.length_drop, toList_length]; simp; omega)
  obtain ⟨v1, s1, a1, e1, us1, g1, hc, hv1⟩ := chain_cons hc
  rw [op2] at g1
  obtain ⟨v2, s2, a2, e2, us2, g2, hc, hv2⟩ := chain_cons hc
  rw [op2] at g2
  obtain ⟨v3, s3, a3, e3, us3, g3, hc, hv3⟩ := chain_cons hc
  rw [op2] at g3
  obtain ⟨v4, s4, a4, e4, us4, g4, hc, hv4⟩ := chain_cons hc
  rw [op4] at g4
  obtain ⟨v5, s5, a5, e5, us5, g5, hc, hv5⟩ := chain_cons hc
  rw [op4] at g5
  obtain ⟨v6, s6, a6, e6, us6, g6, hc, hv6⟩ := chain_cons hc
  rw [op4] at g6
  obtain ⟨v7, s7, a7, e7, us7, g7, hc, hv7⟩ := chain_cons hc
  rw [op4] at g7
  obtain ⟨v8, s8, a8, e8, us8, g8, hc, hv8⟩ := chain_cons hc
  rw [op2] at g8
  obtain ⟨v9, s9, a9, e9, us9, g9, hc, hv9⟩ := chain_cons hc
  rw [op2] at g9
  obtain ⟨hs9, ha9, he9, hv0⟩ := chain_nil hc
  subst hs9 ha9 he9
  unfold header_ParseLocal.f
  rw [first_four s hs (by omega), Option.bind_some]
  dsimp only
  rw [if_pos rfl, if_pos (by rw [strN_toList, hm, toL]; rfl)]
  rw [g1, Option.bind_some]
  dsimp only
  rw [g2, Option.bind_some]
  dsimp only
  rw [g3, Option.bind_some]
  dsimp only
  rw [g4, Option.bind_some]
  dsimp only
  rw [g5, Option.bind_some]
  dsimp only
  rw [g6, Option.bind_some]
  dsimp only
  rw [g7, Option.bind_some]
  dsimp only
  rw [g8, Option.bind_some]
  dsimp only
  rw [g9, Option.bind_some]
  dsimp only
  rw [take_bad (by decide), Option.bind_some]
  dsimp only
  rw [take_bad (by decide), Option.bind_some]
  dsimp only
  rw [if_neg (by decide)]
theorem local_txt (s : ByteArray) (hs : s.size ≤ 3000) (hm : s.data.toList.take 4 = [80, 75, 3, 4]) (h : 4 + 26 ≤ s.size) (v1 : Int) (v2 : Int) (v3 : Int) (v4 : Int) (v5 : Int) (v6 : Int) (v7 : Int) (v8 : Int) (v9 : Int) (hn : numsL [2, 2, 2, 4, 4, 4, 4, 2, 2] (s.data.toList.drop 4) = [v1, v2, v3, v4, v5, v6, v7, v8, v9]) (q1 : Nat) (hq1 : v8 = (q1 : Int)) (q2 : Nat) (hq2 : v9 = (q2 : Int)) (hk : s.size < 30 + (q1 + q2)) : header_ParseLocal.f s = some (0, 0, 0, 0, 0, 0, 0, (⟨#[]⟩ : ByteArray), (⟨#[]⟩ : ByteArray), 0, 3) := by
  have h0 := at_four s hs (by omega)
  have hc := chain_ok [2, 2, 2, 4, 4, 4, 4, 2, 2] 4 (s.data.toList.drop 4) (by intro w hw; simp only [List.mem_cons, List.mem_nil_iff, or_false] at hw; unfold Wd; omega) h0 (by rw [List.length_drop, toList_length]; simp; omega)
  rw [hn] at hc
  change chain [2, 2, 2, 4, 4, 4, 4, 2, 2] s 4 0 = some ([v1, v2, v3, v4, v5, v6, v7, v8, v9], s, 4 + ((26 : Nat) : Int), 0) at hc
  obtain ⟨y1, s1, a1, e1, us1, g1, hc, hv1⟩ := chain_cons hc
  rw [op2] at g1
  injection hv1 with hy1 hv1
  subst hy1 hv1
  obtain ⟨y2, s2, a2, e2, us2, g2, hc, hv2⟩ := chain_cons hc
  rw [op2] at g2
  injection hv2 with hy2 hv2
  subst hy2 hv2
  obtain ⟨y3, s3, a3, e3, us3, g3, hc, hv3⟩ := chain_cons hc
  rw [op2] at g3
  injection hv3 with hy3 hv3
  subst hy3 hv3
  obtain ⟨y4, s4, a4, e4, us4, g4, hc, hv4⟩ := chain_cons hc
  rw [op4] at g4
  injection hv4 with hy4 hv4
  subst hy4 hv4
  obtain ⟨y5, s5, a5, e5, us5, g5, hc, hv5⟩ := chain_cons hc
  rw [op4] at g5
  injection hv5 with hy5 hv5
  subst hy5 hv5
  obtain ⟨y6, s6, a6, e6, us6, g6, hc, hv6⟩ := chain_cons hc
  rw [op4] at g6
  injection hv6 with hy6 hv6
  subst hy6 hv6
  obtain ⟨y7, s7, a7, e7, us7, g7, hc, hv7⟩ := chain_cons hc
  rw [op4] at g7
  injection hv7 with hy7 hv7
  subst hy7 hv7
  obtain ⟨y8, s8, a8, e8, us8, g8, hc, hv8⟩ := chain_cons hc
  rw [op2] at g8
  injection hv8 with hy8 hv8
  subst hy8 hv8
  obtain ⟨y9, s9, a9, e9, us9, g9, hc, hv9⟩ := chain_cons hc
  rw [op2] at g9
  injection hv9 with hy9 hv9
  subst hy9 hv9
  obtain ⟨hs9, ha9, he9, _⟩ := chain_nil hc
  subst hs9 ha9 he9
  have h1 := at_drop h0 26 (by rw [List.length_drop, toList_length]; omega)
  rw [List.drop_drop] at h1
  obtain ⟨us, b, ht⟩ := tchain_fail [q1, q2] _ _ h1 (by rw [List.length_drop, toList_length]; simp; omega)
  simp only [List.map_cons, List.map_nil] at ht
  obtain ⟨x1, sx1, ax1, ex1, ux1, gx1, ht, hx1⟩ := tchain_cons ht
  obtain ⟨x2, sx2, ax2, ex2, ux2, gx2, ht, hx2⟩ := tchain_cons ht
  obtain ⟨hs8, ha8, he8, hx0⟩ := tchain_nil ht
  subst hs8 ha8 he8
  unfold header_ParseLocal.f
  rw [first_four s hs (by omega), Option.bind_some]
  dsimp only
  rw [if_pos rfl, if_pos (by rw [strN_toList, hm, toL]; rfl)]
  rw [g1, Option.bind_some]
  dsimp only
  rw [g2, Option.bind_some]
  dsimp only
  rw [g3, Option.bind_some]
  dsimp only
  rw [g4, Option.bind_some]
  dsimp only
  rw [g5, Option.bind_some]
  dsimp only
  rw [g6, Option.bind_some]
  dsimp only
  rw [g7, Option.bind_some]
  dsimp only
  rw [g8, Option.bind_some]
  dsimp only
  rw [g9, Option.bind_some]
  dsimp only
  rw [hq1, gx1, Option.bind_some]
  dsimp only
  rw [hq2, gx2, Option.bind_some]
  dsimp only
  rw [if_neg (by decide)]
theorem local_good (s : ByteArray) (hs : s.size ≤ 3000) (hm : s.data.toList.take 4 = [80, 75, 3, 4]) (h : 4 + 26 ≤ s.size) (v1 : Int) (v2 : Int) (v3 : Int) (v4 : Int) (v5 : Int) (v6 : Int) (v7 : Int) (v8 : Int) (v9 : Int) (hn : numsL [2, 2, 2, 4, 4, 4, 4, 2, 2] (s.data.toList.drop 4) = [v1, v2, v3, v4, v5, v6, v7, v8, v9]) (q1 : Nat) (hq1 : v8 = (q1 : Int)) (q2 : Nat) (hq2 : v9 = (q2 : Int)) (x1 : ByteArray) (x2 : ByteArray) (hx : textsL [q1, q2] (s.data.toList.drop 30) = [x1, x2]) (hk : 30 + (q1 + q2) ≤ s.size) : header_ParseLocal.f s = some (v1, v2, v3, v4, v5, v6, v7, x1, x2, ((30 + (q1 + q2) : Nat) : Int), 0) := by
  have h0 := at_four s hs (by omega)
  have hc := chain_ok [2, 2, 2, 4, 4, 4, 4, 2, 2] 4 (s.data.toList.drop 4) (by intro w hw; simp only [List.mem_cons, List.mem_nil_iff, or_false] at hw; unfold Wd; omega) h0 (by rw [List.length_drop, toList_length]; simp; omega)
  rw [hn] at hc
  change chain [2, 2, 2, 4, 4, 4, 4, 2, 2] s 4 0 = some ([v1, v2, v3, v4, v5, v6, v7, v8, v9], s, 4 + ((26 : Nat) : Int), 0) at hc
  obtain ⟨y1, s1, a1, e1, us1, g1, hc, hv1⟩ := chain_cons hc
  rw [op2] at g1
  injection hv1 with hy1 hv1
  subst hy1 hv1
  obtain ⟨y2, s2, a2, e2, us2, g2, hc, hv2⟩ := chain_cons hc
  rw [op2] at g2
  injection hv2 with hy2 hv2
  subst hy2 hv2
  obtain ⟨y3, s3, a3, e3, us3, g3, hc, hv3⟩ := chain_cons hc
  rw [op2] at g3
  injection hv3 with hy3 hv3
  subst hy3 hv3
  obtain ⟨y4, s4, a4, e4, us4, g4, hc, hv4⟩ := chain_cons hc
  rw [op4] at g4
  injection hv4 with hy4 hv4
  subst hy4 hv4
  obtain ⟨y5, s5, a5, e5, us5, g5, hc, hv5⟩ := chain_cons hc
  rw [op4] at g5
  injection hv5 with hy5 hv5
  subst hy5 hv5
  obtain ⟨y6, s6, a6, e6, us6, g6, hc, hv6⟩ := chain_cons hc
  rw [op4] at g6
  injection hv6 with hy6 hv6
  subst hy6 hv6
  obtain ⟨y7, s7, a7, e7, us7, g7, hc, hv7⟩ := chain_cons hc
  rw [op4] at g7
  injection hv7 with hy7 hv7
  subst hy7 hv7
  obtain ⟨y8, s8, a8, e8, us8, g8, hc, hv8⟩ := chain_cons hc
  rw [op2] at g8
  injection hv8 with hy8 hv8
  subst hy8 hv8
  obtain ⟨y9, s9, a9, e9, us9, g9, hc, hv9⟩ := chain_cons hc
  rw [op2] at g9
  injection hv9 with hy9 hv9
  subst hy9 hv9
  obtain ⟨hs9, ha9, he9, _⟩ := chain_nil hc
  subst hs9 ha9 he9
  have h1 := at_drop h0 26 (by rw [List.length_drop, toList_length]; omega)
  rw [List.drop_drop] at h1
  have ht := tchain_ok [q1, q2] _ _ h1 (by rw [List.length_drop, toList_length]; simp; omega)
  rw [hx] at ht
  simp only [List.map_cons, List.map_nil] at ht
  obtain ⟨y1, sx1, ax1, ex1, ux1, gx1, ht, hx1⟩ := tchain_cons ht
  injection hx1 with hy1 hx1
  subst hy1 hx1
  obtain ⟨y2, sx2, ax2, ex2, ux2, gx2, ht, hx2⟩ := tchain_cons ht
  injection hx2 with hy2 hx2
  subst hy2 hx2
  obtain ⟨hs8, ha8, he8, _⟩ := tchain_nil ht
  subst hs8 he8
  unfold header_ParseLocal.f
  rw [first_four s hs (by omega), Option.bind_some]
  dsimp only
  rw [if_pos rfl, if_pos (by rw [strN_toList, hm, toL]; rfl)]
  rw [g1, Option.bind_some]
  dsimp only
  rw [g2, Option.bind_some]
  dsimp only
  rw [g3, Option.bind_some]
  dsimp only
  rw [g4, Option.bind_some]
  dsimp only
  rw [g5, Option.bind_some]
  dsimp only
  rw [g6, Option.bind_some]
  dsimp only
  rw [g7, Option.bind_some]
  dsimp only
  rw [g8, Option.bind_some]
  dsimp only
  rw [g9, Option.bind_some]
  dsimp only
  rw [hq1, gx1, Option.bind_some]
  dsimp only
  rw [hq2, gx2, Option.bind_some]
  dsimp only
  rw [if_pos rfl, ← ha8]
  simp only [Option.some.injEq, Prod.mk.injEq, and_true, true_and, List.sum_cons, List.sum_nil]
  omega
end Go.Proofs.Ytnjfddmajiihjaa.Hp
