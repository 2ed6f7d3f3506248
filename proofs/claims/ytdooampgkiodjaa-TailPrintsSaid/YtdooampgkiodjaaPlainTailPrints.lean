/- TailPrints: the bytes of any end: plain Lean. -/
import Derived.Test.YtdooampgkiodjaaNumOR
import Derived.Test.YtdooampgkiodjaaGivetailprint
import Derived.Test.YtdooampgkiodjaaGiverepeat
import Derived.Test.YtdooampgkiodjaaPx10
import Derived.Test.YtdooampgkiodjaaPx11
import Derived.Test.YtdooampgkiodjaaPx12
import Derived.Test.YtdooampgkiodjaaPx13
namespace Go.Proofs.Ytdooampgkiodjaa.D18
set_option linter.unusedVariables false
set_option linter.unusedSimpArgs false
open Go Go.RowKit Go.Proofs.Ytdooampgkiodjaa.P Go.Proofs.Ytdooampgkiodjaa.B Go.Proofs.Ytdooampgkiodjaa.Num Go.Proofs.YtdooampgkiodjaaW.PrintWords Go.Proofs.YtdooampgkiodjaaW.PrintLast Go.Proofs.YtdooampgkiodjaaW.PrintMore

theorem strN_app (x y : List UInt8) : strN x ++ strN y = strN (x ++ y) := by
  apply ByteArray.ext
  simp [strN]
theorem strN_size (x : List UInt8) : (strN x).size = x.length := rfl
theorem strN_self (s : ByteArray) : strN s.data.toList = s := by
  apply ByteArray.ext
  simp [strN]
/-- A row of numbers, each in its width. -/
def rowB (xs ws : List Int) : List UInt8 := (xs.zip ws).flatMap fun p => ofN p.2.toNat p.1.toNat
theorem print_loop (xs ws : List Int) (hl : xs.length = ws.length) (hx : ∀ x ∈ xs, 0 ≤ x ∧ x < 18446744073709551616) (hw : ∀ x ∈ ws, 0 ≤ x ∧ x ≤ 8) (hn : ws.length ≤ 100) : ∀ d i k acc, i + d = ws.length → 65 + d < k → acc.length ≤ 8 * i →
    portmanteauref17_Print.l0 k xs (strN acc) ws (ws.length : Int) (i : Int) = some (strN (acc ++ rowB (xs.drop i) (ws.drop i))) := by
  intro d
  induction d with
  | zero =>
    intro i k acc hi hk ha
    obtain ⟨k, rfl⟩ : ∃ m, k = m + 1 := ⟨k - 1, by omega⟩
    unfold portmanteauref17_Print.l0
    rw [if_neg (by omega), List.drop_of_length_le (by omega : xs.length ≤ i)]
    simp [rowB]
  | succ d ih =>
    intro i k acc hi hk ha
    obtain ⟨k, rfl⟩ : ∃ m, k = m + 1 := ⟨k - 1, by omega⟩
    have h1 : i < xs.length := by omega
    have h2 : i < ws.length := by omega
    have g1 : rd xs (i : Int) = xs[i] := by unfold rd; rw [List.getD_eq_getElem?_getD, Int.toNat_natCast, List.getElem?_eq_getElem h1]; rfl
    have g2 : rd ws (i : Int) = ws[i] := by unfold rd; rw [List.getD_eq_getElem?_getD, Int.toNat_natCast, List.getElem?_eq_getElem h2]; rfl
    obtain ⟨b1, b2⟩ := hx _ (List.getElem_mem h1)
    obtain ⟨c1, c2⟩ := hw _ (List.getElem_mem h2)
    have e1 : xs.drop i = xs[i] :: xs.drop (i + 1) := List.drop_eq_getElem_cons h1
    have e2 : ws.drop i = ws[i] :: ws.drop (i + 1) := List.drop_eq_getElem_cons h2
    obtain ⟨x, hxx⟩ : ∃ x : Nat, xs[i] = (x : Int) := ⟨(xs[i]).toNat, by omega⟩
    obtain ⟨c, hcc⟩ : ∃ c, ws[i] = c := ⟨_, rfl⟩
    rw [hxx] at g1 e1 b1 b2
    rw [hcc] at g2 e2 c1 c2
    have hof : portmanteauref01_Of.f k (x : Int) c = some (strN (ofN c.toNat x)) := by
      rw [ref_of_eq x (by omega) c k (by omega)]
      unfold ofI
      rw [show min c.toNat 64 = c.toNat by omega]
    have q1 : (i : Int) < (ws.length : Int) := by omega
    have q2 : (0 : Int) ≤ (i : Int) := Int.natCast_nonneg _
    have q3 : (i : Int) < (xs.length : Int) := by omega
    have q4 : (strN acc).size + (strN (ofN c.toNat x)).size ≤ 9223372036854775807 := by rw [strN_size, strN_size, ofN_length]; omega
    have hih := ih (i + 1) k (acc ++ ofN c.toNat x) (by omega) (by omega) (by rw [List.length_append, ofN_length]; omega)
    have hww : wrap64 ((i : Int) + 1) = ((i + 1 : Nat) : Int) := by rw [wrap_id (by omega) (by omega)]; simp
    unfold portmanteauref17_Print.l0
    rw [if_pos q1, if_pos q2, if_pos q1, if_pos q3, g1, g2, hof, Option.bind_some, if_pos q4, hww, strN_app, hih, e1, e2]
    simp [rowB]
theorem print_eq (xs ws : List Int) (hl : xs.length = ws.length) (hx : ∀ x ∈ xs, 0 ≤ x ∧ x < 18446744073709551616) (hw : ∀ x ∈ ws, 0 ≤ x ∧ x ≤ 8) (hn : ws.length ≤ 100) : portmanteauref17_Print.f 200 xs ws = some (strN (rowB xs ws)) := by
  have h0 := print_loop xs ws hl hx hw hn ws.length 0 200 [] (Nat.zero_add _) (by omega) (Nat.zero_le _)
  rw [List.drop_zero, List.drop_zero, List.nil_append] at h0
  exact h0
theorem awake_true (k : Nat) (hk : 1000 < k) : portmanteaulaw18_awake.f k = some true := by
  have h0 : portmanteaulaw18_awake.f 30 = some true := by decide +kernel
  obtain ⟨d, rfl⟩ : ∃ d, k = 30 + d := ⟨k - 30, by omega⟩
  clear hk
  induction d with
  | zero => exact h0
  | succ d ih => exact portmanteaulaw18_awake.mono _ _ ih
theorem up300 (k : Nat) (xs ws : List Int) (r : ByteArray) (hk : 200 ≤ k) (h : portmanteauref17_Print.f 200 xs ws = some r) : portmanteauref17_Print.f k xs ws = some r := by
  obtain ⟨d, rfl⟩ : ∃ d, k = 200 + d := ⟨k - 200, by omega⟩
  clear hk
  induction d with
  | zero => exact h
  | succ d ih => exact portmanteauref17_Print.mono _ _ _ _ ih
theorem end_eq (n z o : Nat) (hn : n < 18446744073709551616) (hz : z < 18446744073709551616) (ho : o < 18446744073709551616) (c : ByteArray) (hc : c.size ≤ 100000) (k : Nat) (hk : 200 ≤ k) :
    ∃ E, portmanteauref17_Print.f k [101010256, 0, 0, (n : Int), (n : Int), (z : Int), (o : Int), (c.size : Int)] [4, 2, 2, 2, 2, 4, 4, 2] = some E ∧ E.size = 22 ∧ E ++ c = strN (endB n z o c.data.toList) := by
  have e := print_eq [101010256, 0, 0, (n : Int), (n : Int), (z : Int), (o : Int), (c.size : Int)] [4, 2, 2, 2, 2, 4, 4, 2] rfl (by simp; omega) (by decide) (by decide)
  refine ⟨_, up300 k _ _ _ hk e, by rw [strN_size]; simp [rowB, ofN_length], ?_⟩
  have hl : c.data.toList.length = c.size := by simp
  rw [← strN_self c, strN_app, strN_self c]
  congr 1
theorem wide_eq (n z o : Nat) (hn : n < 18446744073709551616) (hz : z < 18446744073709551616) (ho : o < 18446744073709551616) (k : Nat) (hk : 200 ≤ k) :
    ∃ A B, portmanteauref17_Print.f k [101075792, 44, 45, 45, 0, 0, (n : Int), (n : Int), (z : Int), (o : Int)] [4, 8, 2, 2, 4, 4, 8, 8, 8, 8] = some A ∧ portmanteauref17_Print.f k [117853008, 0, (((o + z) % 18446744073709551616 : Nat) : Int), 1] [4, 4, 8, 4] = some B ∧ A.size = 56 ∧ B.size = 20 ∧ A ++ B = strN (wideB n z o) := by
  have hm : (o + z) % 18446744073709551616 < 18446744073709551616 := Nat.mod_lt _ (by decide)
  obtain ⟨m, hmm⟩ : ∃ m, (o + z) % 18446744073709551616 = m := ⟨_, rfl⟩
  have e := print_eq [101075792, 44, 45, 45, 0, 0, (n : Int), (n : Int), (z : Int), (o : Int)] [4, 8, 2, 2, 4, 4, 8, 8, 8, 8] rfl (by simp; omega) (by decide) (by decide)
  rw [hmm] at hm ⊢
  have e2 := print_eq [117853008, 0, (m : Int), 1] [4, 4, 8, 4] rfl (by simp; omega) (by decide) (by decide)
  refine ⟨_, _, up300 k _ _ _ hk e, up300 k _ _ _ hk e2, by rw [strN_size]; simp [rowB, ofN_length], by rw [strN_size]; simp [rowB, ofN_length], ?_⟩
  rw [strN_app]
  congr 1
  unfold wideB
  rw [hmm, show ([80, 75, 6, 6] : List UInt8) = ofN 4 101075792 from by decide +kernel, show ([80, 75, 6, 7] : List UInt8) = ofN 4 117853008 from by decide +kernel]
  simp [rowB]
theorem j0_bad (k : Nat) (x4 : ByteArray) (a b c a0 a1 a2 a3 : Int) (d : ByteArray) (w : Bool) : portmanteauref18_Print.j0 (k + 1) x4 a b c true a0 a1 a2 a3 d w = some (⟨#[]⟩, 8) := rfl
theorem print_same (a0 : Int) (n z o : Nat) (hn : n < 18446744073709551616) (hz : z < 18446744073709551616) (ho : o < 18446744073709551616) (c : ByteArray) (hc : c.size ≤ 100000) (wide : Bool) (k : Nat) (hk : 300 ≤ k) :
    portmanteauref18_Print.f (k + 1) a0 n z o c wide = some (tailGo n z o c wide) := by
  unfold portmanteauref18_Print.f tailGo
  by_cases hb : 65535 < c.size
  · rw [if_pos (by omega), if_pos hb]
  rw [if_neg (by omega), if_neg hb]
  have hcl : IntKind.u64.wrap (c.size : Int) = (c.size : Int) := u64_id (by omega) (by omega)
  cases wide with
  | true =>
    obtain ⟨A, B, e1, e2, s1, s2, hab⟩ := wide_eq n z o hn hz ho (k + 1) (by omega)
    obtain ⟨E, e3, s3, he⟩ := end_eq 65535 4294967295 4294967295 (by omega) (by omega) (by omega) c hc (k + 1) (by omega)
    have hsum : IntKind.u64.wrap ((o : Int) + (z : Int)) = (((o + z) % 18446744073709551616 : Nat) : Int) := by rw [u64_mod]; omega
    unfold portmanteauref18_wides.f portmanteauref18_locators.f portmanteauref18_ends.f
    rw [if_pos rfl, if_pos rfl, Option.bind_some, e1, Option.bind_some, Option.bind_some, hsum, e2, Option.bind_some, if_pos (by omega), Option.bind_some, hcl]
    rw [show portmanteauref17_Print.f (k + 1) [101010256, 0, 0, 65535, 65535, 4294967295, 4294967295, (c.size : Int)] [4, 2, 2, 2, 2, 4, 4, 2] = some E from e3, Option.bind_some, if_pos (by omega), if_pos (by omega)]
    rw [hab, ByteArray.append_assoc, he, strN_app]
  | false =>
    simp only [Bool.false_eq_true, if_false]
    by_cases h1 : 65535 ≤ n
    · rw [if_pos (by omega), if_pos h1, j0_bad]
    rw [if_neg (by omega), if_neg h1]
    by_cases h2 : 4294967295 ≤ z
    · rw [if_pos (by omega), if_pos h2, j0_bad]
    rw [if_neg (by omega), if_neg h2]
    by_cases h3 : 4294967295 ≤ o
    · rw [if_pos h3, show decide ((o : Int) ≥ 4294967295) = true from decide_eq_true (by omega), j0_bad]
    rw [if_neg h3, show decide ((o : Int) ≥ 4294967295) = false from decide_eq_false (by omega)]
    obtain ⟨E, e3, s3, he⟩ := end_eq n z o hn hz ho c hc k (by omega)
    unfold portmanteauref18_Print.j0 portmanteauref18_ends.f
    dsimp only
    have hz0 : (⟨#[]⟩ : ByteArray).size = 0 := rfl
    rw [if_neg (by decide), Option.bind_some, hcl, e3, Option.bind_some, if_pos (by omega), if_pos (by omega), ByteArray.append_assoc, he]
    congr 2
theorem law (a0 a1 a2 a3 : Int) (c : ByteArray) (wide more : Bool) (h1 : 0 ≤ a1 ∧ a1 ≤ 18446744073709551615) (h2 : 0 ≤ a2 ∧ a2 ≤ 18446744073709551615) (h3 : 0 ≤ a3 ∧ a3 ≤ 18446744073709551615) (k : Nat) (hk : 2000 ≤ k) :
    portmanteaulaw18_TailPrints.f (k + 1) a0 a1 a2 a3 c wide more = some true := by
  obtain ⟨n, rfl⟩ : ∃ x : Nat, a1 = (x : Int) := ⟨a1.toNat, by omega⟩
  obtain ⟨z, rfl⟩ : ∃ x : Nat, a2 = (x : Int) := ⟨a2.toNat, by omega⟩
  obtain ⟨o, rfl⟩ : ∃ x : Nat, a3 = (x : Int) := ⟨a3.toNat, by omega⟩
  have ht : ∀ c : ByteArray, tail_Print.f a0 (n : Int) (z : Int) (o : Int) c wide = some (tailGo n z o c wide) := fun c => by
    unfold tail_Print.f
    rw [if_pos ⟨⟨by omega, by omega⟩, ⟨by omega, by omega⟩, ⟨by omega, by omega⟩⟩]
    simp only [Int.toNat_natCast]
  have hp : ∀ c : ByteArray, c.size ≤ 100000 → portmanteauref18_Print.f (k + 1) a0 (n : Int) (z : Int) (o : Int) c wide = some (tailGo n z o c wide) := fun c hc => print_same a0 n z o (by omega) (by omega) (by omega) c hc wide k (by omega)
  unfold portmanteaulaw18_TailPrints.f
  rw [awake_true (k + 1) (by omega), Option.bind_some, if_pos rfl]
  by_cases hs : (c.size : Int) > 3000
  · rw [if_pos hs]
  rw [if_neg hs]
  cases more with
  | false =>
    rw [if_neg (by decide), ht, Option.bind_some, hp c (by omega), Option.bind_some, if_pos rfl]
    simp
  | true =>
    obtain ⟨L, hL, hLs⟩ : ∃ L : ByteArray, strings_Repeat.f ⟨#[97]⟩ 65536 = some L ∧ L.size ≤ 100000 := by
      refine ⟨_, if_pos ⟨by decide, by decide, by decide⟩, ?_⟩
      show (Lib.repeatL [97] 65536).length ≤ 100000
      rw [Lib.repeatL_length]
      decide
    rw [if_pos rfl, hL, Option.bind_some, ht, Option.bind_some, hp L hLs, Option.bind_some, if_pos rfl]
    simp
end Go.Proofs.Ytdooampgkiodjaa.D18
