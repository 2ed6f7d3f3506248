/- ExtraReads: the fields that any bytes are, the bytes of any fields: plain Lean. -/
import Derived.Test.YtdlcihbfdbdbbaaAt2
import Derived.Test.YtdlcihbfdbdbbaaNumOR
import Derived.Test.YtdlcihbfdbdbbaaNumNR
import Derived.Test.YtdlcihbfdbdbbaaGiveextraprint
import Derived.Test.YtdlcihbfdbdbbaaPx3
import Derived.Test.YtdlcihbfdbdbbaaPx4
import Derived.Test.YtdlcihbfdbdbbaaPx5
import Derived.Test.YtdlcihbfdbdbbaaPx8
import Derived.Test.YtdlcihbfdbdbbaaPx9
namespace Go.Proofs.Ytdlcihbfdbdbbaa.D13
set_option linter.unusedVariables false
set_option linter.unusedSimpArgs false
open Go Go.RowKit Go.Proofs.Ytdlcihbfdbdbbaa.P Go.Proofs.Ytdlcihbfdbdbbaa.B Go.Proofs.Ytdlcihbfdbdbbaa.Num Go.Proofs.Ytdlcihbfdbdbbaa.Cur Go.Proofs.YtdlcihbfdbdbbaaW.PrintWords Go.Proofs.YtdlcihbfdbdbbaaW.PrintLast Go.Proofs.YtdlcihbfdbdbbaaW.PrintMore

theorem size_of (s : ByteArray) : s.size = s.data.toList.length := (toList_length s).symm
/-- With an error the program's loop ends. -/
theorem parse_bad (s : ByteArray) (a : Int) (R : List UInt8) (h : At s a R) (acc : List S38) (k : Nat) : extra_Parse.l0 (k + 2) acc s a 3 = some ([], 24) := by
  have hj : extra_Parse.j1 (k + 1) acc false s a 3 = some ([], 24) := by
    unfold extra_Parse.j1
    rw [if_neg (by decide)]
    unfold cursor_Cursor_Err.f
    rw [Option.bind_some]
    dsimp only
    rw [if_neg (by decide)]
  unfold extra_Parse.l0 cursor_Cursor_Left.f
  rw [Option.bind_some]
  dsimp only
  rw [left_at h]
  by_cases hR : 0 < R.length
  · rw [if_pos (by omega)]
    unfold cursor_Cursor_Err.f
    rw [Option.bind_some]
    dsimp only
    rw [show ((3 : Int) == 0) = false from rfl]
    exact hj
  · rw [if_neg (by omega)]
    exact hj
theorem parse_same (s : ByteArray) : ∀ (n : Nat) (R : List UInt8), R.length = n → ∀ (a : Int) (x : ByteArray) (acc : List S38) (j k : Nat), At s a R → x.data.toList = R → acc.length + R.length ≤ 100000 → 2 * n + 50 < j → n + 20 < k →
    ∃ r, extra_Parse.l0 j acc s a 0 = some r ∧ portmanteauref13_Parse.l0 k x acc = some r ∧ r.1.length ≤ acc.length + R.length := by
  intro n
  induction n using Nat.strongRecOn with
  | _ n ih =>
  intro R hRn a x acc j k hA hx hacc hj hk
  obtain ⟨j, rfl⟩ : ∃ m, j = m + 2 := ⟨j - 2, by omega⟩
  obtain ⟨k, rfl⟩ : ∃ m, k = m + 1 := ⟨k - 1, by omega⟩
  have hxs : x.size = R.length := by rw [size_of, hx]
  unfold extra_Parse.l0 portmanteauref13_Parse.l0 cursor_Cursor_Left.f
  rw [Option.bind_some]
  dsimp only
  rw [left_at hA]
  by_cases h0 : R.length = 0
  · rw [if_neg (by omega), if_neg (by omega)]
    obtain rfl : R = [] := List.length_eq_zero_iff.1 h0
    refine ⟨(acc, 0), ?_, rfl, by simp⟩
    unfold extra_Parse.j1
    rw [if_neg (by decide)]
    unfold cursor_Cursor_Err.f
    rw [Option.bind_some]
    dsimp only
    rw [if_pos rfl]
  rw [if_pos (by omega), if_pos (by omega)]
  unfold cursor_Cursor_Err.f
  rw [Option.bind_some]
  dsimp only
  unfold extra_Parse.j1
  rw [show ((0 : Int) == 0) = true from rfl, if_pos rfl]
  by_cases h4 : R.length < 4
  · rw [if_pos (by omega)]
    refine ⟨([], 24), ?_, rfl, by simp⟩
    by_cases h2 : R.length < 2
    · rw [two_fail hA h2 j (by omega), Option.bind_some]
      dsimp only
      rw [two_bad (by decide) j (by omega), Option.bind_some]
      dsimp only
      rw [take_bad (by decide), Option.bind_some]
      dsimp only
      rw [if_pos (by omega)]
      obtain ⟨m, rfl⟩ : ∃ m, j = m + 2 := ⟨j - 2, by omega⟩
      exact parse_bad s a R hA _ m
    · obtain ⟨p, q, t, rfl⟩ : ∃ p q t, R = p :: q :: t := by
        match R, h2 with
        | z :: u :: t, _ => exact ⟨z, u, t, rfl⟩
        | [_], h => exact absurd (by simp) h
        | [], h => exact absurd (by simp) h
      have hA2 := (show At s a ([p, q] ++ t) from hA).on
      simp only [List.length_cons] at h4
      rw [two_at (show At s a ([p, q] ++ t) from hA) rfl j (by omega), Option.bind_some]
      dsimp only
      rw [two_fail hA2 (by omega) j (by omega), Option.bind_some]
      dsimp only
      rw [take_bad (by decide), Option.bind_some]
      dsimp only
      rw [if_pos (by omega)]
      obtain ⟨m, rfl⟩ : ∃ m, j = m + 2 := ⟨j - 2, by omega⟩
      exact parse_bad s _ t hA2 _ m
  obtain ⟨p, q, u, v, t, rfl⟩ : ∃ p q u v t, R = p :: q :: u :: v :: t := by
    match R, h4 with
    | p :: q :: u :: v :: t, _ => exact ⟨p, q, u, v, t, rfl⟩
    | [_, _, _], h => exact absurd (by simp) h
    | [_, _], h => exact absurd (by simp) h
    | [_], h => exact absurd (by simp) h
    | [], h => exact absurd (by simp) h
  clear h4 h0
  simp only [List.length_cons] at hRn hxs hacc
  have hA2 : At s (a + ([p, q] : List UInt8).length) (u :: v :: t) := (show At s a ([p, q] ++ (u :: v :: t)) from hA).on
  have hA3 : At s (a + ([p, q] : List UInt8).length + ([u, v] : List UInt8).length) t := (show At s _ ([u, v] ++ t) from hA2).on
  have b1 : leN [p, q] < 65536 := by have h := leN_lt [p, q]; rw [show ([p, q] : List UInt8).length = 2 from rfl] at h; omega
  have b2 : leN [u, v] < 65536 := by have h := leN_lt [u, v]; rw [show ([u, v] : List UInt8).length = 2 from rfl] at h; omega
  have e1 : (x.extract 0 2).data.toList = [p, q] := by rw [extract_list, hx]; rfl
  have e2 : (x.extract 2 4).data.toList = [u, v] := by rw [extract_list, hx]; rfl
  have n1 : portmanteauref01_Number.f k (x.extract 0 2) = some ((leN [p, q] : Nat) : Int) := by rw [ref_number_eq _ (by rw [size_of, e1]; exact Nat.le_of_ble_eq_true rfl) k (by omega), e1]
  have n2 : portmanteauref01_Number.f k (x.extract 2 4) = some ((leN [u, v] : Nat) : Int) := by rw [ref_number_eq _ (by rw [size_of, e2]; exact Nat.le_of_ble_eq_true rfl) k (by omega), e2]
  rw [two_at (show At s a ([p, q] ++ (u :: v :: t)) from hA) rfl j (by omega), Option.bind_some]
  dsimp only
  rw [two_at (show At s _ ([u, v] ++ t) from hA2) rfl j (by omega), Option.bind_some]
  dsimp only
  rw [if_neg (by omega), if_pos (by decide), if_pos (by omega), n1, Option.bind_some, if_pos (by decide), if_pos (by omega), n2, Option.bind_some]
  obtain ⟨id, hid⟩ : ∃ id, leN [p, q] = id := ⟨_, rfl⟩
  obtain ⟨ln, hln⟩ : ∃ ln, leN [u, v] = ln := ⟨_, rfl⟩
  rw [hid] at b1 ⊢
  rw [hln] at b2 ⊢
  have d1 : (-9223372036854775808 : Int) ≤ (ln : Int) := by omega
  have d2 : (ln : Int) ≤ 9223372036854775807 := by omega
  have d3 : (-9223372036854775808 : Int) ≤ 4 + (ln : Int) := by omega
  have d4 : 4 + (ln : Int) ≤ 9223372036854775807 := by omega
  clear e1 e2 n1 n2 hid hln
  by_cases hshort : t.length < ln
  · have hc : (x.size : Int) < 4 + (ln : Int) := by omega
    have hf := take_fail (n := (ln : Int)) hA3 (.inr (by omega))
    have ha2 : acc.length < 5864062014805 := by omega
    refine ⟨([], 24), ?_, ?_, by simp⟩
    · obtain ⟨m, rfl⟩ : ∃ m, j = m + 2 := ⟨j - 2, by omega⟩
      rw [show wrap64 ((ln : Nat) : Int) = (ln : Int) from wrap_id d1 d2, hf, Option.bind_some]
      dsimp only
      rw [if_pos ha2]
      exact parse_bad s _ t hA3 _ m
    · rw [show wrap64 ((ln : Nat) : Int) = (ln : Int) from wrap_id d1 d2, show wrap64 (4 + (ln : Int)) = 4 + (ln : Int) from wrap_id d3 d4, if_pos hc]
  · obtain ⟨m, t, rfl, hm⟩ : ∃ m t', t = m ++ t' ∧ m.length = ln := ⟨t.take ln, t.drop ln, (List.take_append_drop _ _).symm, by rw [List.length_take]; omega⟩
    rw [List.length_append] at hRn hxs hacc hshort
    have hc : ¬ (x.size : Int) < 4 + (ln : Int) := by omega
    have q1 : (4 : Int) ≤ 4 + (ln : Int) := by omega
    have q2 : 4 + (ln : Int) ≤ (x.size : Int) := by omega
    have q3 : acc.length < 5864062014805 := by omega
    have q4 : (0 : Int) ≤ 4 + (ln : Int) := by omega
    have tn : (4 + (ln : Int)).toNat = 4 + ln := by omega
    have hf := take_at (n := (ln : Int)) hA3 (by omega)
    have hA4 := hA3.on
    have x1 : (x.extract (4 + ln) x.size).data.toList = t := by
      rw [extract_list, hx, List.take_of_length_le (by simp only [List.length_cons, List.length_append]; omega), show 4 + ln = ln + 1 + 1 + 1 + 1 by omega]
      simp only [List.drop_succ_cons]
      rw [← hm, List.drop_left]
    have x2 : x.extract 4 (4 + ln) = strN m := by
      apply ext_list
      rw [extract_list, hx, show 4 + ln = ln + 1 + 1 + 1 + 1 by omega]
      simp only [List.take_succ_cons, List.drop_succ_cons, List.drop_zero]
      rw [← hm, List.take_left]; rfl
    obtain ⟨r, r1, r2, r3⟩ := ih t.length (by omega) t rfl _ (x.extract (4 + ln) x.size) (acc ++ [⟨(id : Int), strN m⟩]) j k hA4 x1 (by rw [List.length_append]; simp only [List.length_cons, List.length_nil]; omega) (by omega) (by omega)
    rw [List.length_append] at r3
    simp only [List.length_cons, List.length_nil] at r3
    have q5 : r.1.length ≤ acc.length + (p :: q :: u :: v :: (m ++ t)).length := by simp only [List.length_cons, List.length_append]; omega
    have w1 : IntKind.u16.wrap ((id : Nat) : Int) = (id : Int) := by rw [u16_mod]; omega
    have w2 : wrap64 ((ln : Nat) : Int) = (ln : Int) := wrap_id d1 d2
    have w3 : wrap64 (4 + (ln : Int)) = 4 + (ln : Int) := wrap_id d3 d4
    refine ⟨r, ?_, ?_, q5⟩
    · rw [w2, hf, Option.bind_some]
      dsimp only
      rw [if_pos q3]
      exact r1
    · rw [w2, w3, if_neg hc, if_pos q1, if_pos q2, if_pos q3, if_pos q4, tn, w1, x2]
      exact r2
theorem parse_eq (s : ByteArray) (hs : s.size ≤ 70000) (k : Nat) (hk : 200000 < k) : ∃ r, extra_Parse.f k s = some r ∧ portmanteauref13_Parse.f k s = some r ∧ r.1.length ≤ 70000 := by
  unfold extra_Parse.f portmanteauref13_Parse.f cursor_Over.f
  by_cases hb : (s.size : Int) > 65535
  · rw [if_pos hb, if_pos hb]; exact ⟨([], 5), rfl, rfl, Nat.zero_le _⟩
  rw [if_neg hb, if_neg hb, Option.bind_some]
  dsimp only
  have hz := size_of s
  obtain ⟨r, r1, r2, r3⟩ := parse_same s _ s.data.toList rfl 0 s [] k k (At.start s (by omega)) rfl (by simp only [List.length_nil]; omega) (by omega) (by omega)
  exact ⟨r, r1, r2, by simp only [List.length_nil] at r3; omega⟩
theorem same_loop (l : List S38) (hl : l.length ≤ 100000) : ∀ d i k, i + d = l.length → d < k → portmanteauref13_Same.l0 k l l (l.length : Int) (i : Int) = some true := by
  intro d
  induction d with
  | zero =>
    intro i k hi hk
    obtain ⟨k, rfl⟩ : ∃ m, k = m + 1 := ⟨k - 1, by omega⟩
    unfold portmanteauref13_Same.l0
    rw [if_neg (by omega)]
  | succ d ih =>
    intro i k hi hk
    obtain ⟨k, rfl⟩ : ∃ m, k = m + 1 := ⟨k - 1, by omega⟩
    have q1 : (i : Int) < (l.length : Int) := by omega
    have q2 : (0 : Int) ≤ (i : Int) := Int.natCast_nonneg _
    have hi' := ih (i + 1) k (by omega) (by omega)
    have hw : wrap64 ((i : Int) + 1) = ((i + 1 : Nat) : Int) := by rw [wrap_id (by omega) (by omega)]; simp
    unfold portmanteauref13_Same.l0
    rw [if_pos q1, if_pos q2, if_pos q1, if_pos q1, if_neg (by simp), hw, hi']
theorem same_eq (l : List S38) (hl : l.length ≤ 100000) (k : Nat) (hk : l.length < k) : portmanteauref13_Same.f k l l = some true := by
  unfold portmanteauref13_Same.f
  rw [if_pos rfl]
  exact same_loop l hl l.length 0 k (by omega) hk
theorem strN_app (x y : List UInt8) : strN x ++ strN y = strN (x ++ y) := Cur.strN_append x y
theorem print_loop (l : List S38) (hr : ∀ x ∈ l, 0 ≤ x.f0 ∧ x.f0 < 65536) (hl : l.length ≤ 100) : ∀ d i k acc, i + d = l.length → acc.length ≤ 65535 → 2 * d + 70 < k → portmanteauref13_Print.l0 k (strN acc) l (l.length : Int) (i : Int) = some (extraGo (l.drop i) acc) := by
  intro d
  induction d with
  | zero =>
    intro i k acc hi ha hk
    obtain ⟨k, rfl⟩ : ∃ m, k = m + 1 := ⟨k - 1, by omega⟩
    unfold portmanteauref13_Print.l0
    rw [if_neg (by omega), List.drop_of_length_le (by omega)]
    rfl
  | succ d ih =>
    intro i k acc hi ha hk
    obtain ⟨k, rfl⟩ : ∃ m, k = m + 2 := ⟨k - 2, by omega⟩
    have hlt : i < l.length := by omega
    have hg : rd_T38 l (i : Int) = l[i] := by unfold rd_T38; rw [List.getD_eq_getElem?_getD, Int.toNat_natCast, List.getElem?_eq_getElem hlt]; rfl
    have hdrop : l.drop i = l[i] :: l.drop (i + 1) := List.drop_eq_getElem_cons hlt
    obtain ⟨hx0, hx1⟩ := hr _ (List.getElem_mem hlt)
    have q1 : (i : Int) < (l.length : Int) := by omega
    have q2 : (0 : Int) ≤ (i : Int) := Int.natCast_nonneg _
    have c1 : -9223372036854775808 ≤ (i : Int) + 1 := by omega
    have c2 : (i : Int) + 1 ≤ 9223372036854775807 := by omega
    obtain ⟨t, ht⟩ : ∃ t, l[i] = t := ⟨_, rfl⟩
    rw [ht] at hg hdrop hx0 hx1
    obtain ⟨f0, f1⟩ := t
    simp only at hx0 hx1
    obtain ⟨x, rfl⟩ : ∃ x : Nat, f0 = (x : Int) := ⟨f0.toNat, by omega⟩
    have hfl := fieldB_len ⟨(x : Int), f1⟩
    simp only at hfl
    unfold portmanteauref13_Print.l0
    rw [if_pos q1, if_pos q2, if_pos q1, hg, hdrop]
    dsimp only
    unfold extraGo
    dsimp only
    by_cases hb : 65535 < f1.size
    · rw [if_pos (by omega), if_pos hb]
      unfold portmanteauref13_Print.j1
      rw [if_pos rfl]
    rw [if_neg (by omega), if_neg hb]
    have w1 : wrap64 (((strN acc).size : Int) + 4) = (acc.length : Int) + 4 := by rw [show (strN acc).size = acc.length from rfl]; exact wrap_id (by omega) (by omega)
    have c3 : -9223372036854775808 ≤ (acc.length : Int) + 4 + (f1.size : Int) := by clear w1; omega
    have c4 : (acc.length : Int) + 4 + (f1.size : Int) ≤ 9223372036854775807 := by clear w1; omega
    rw [w1, wrap_id c3 c4]
    clear w1 c3 c4
    unfold portmanteauref13_Print.j1
    by_cases h2 : 65535 < (acc ++ fieldB ⟨(x : Int), f1⟩).length
    · rw [if_pos h2]
      rw [List.length_append, hfl] at h2
      rw [if_pos (by simp; omega)]
    · rw [if_neg h2]
      have h3 := h2
      rw [List.length_append, hfl] at h3
      have s1 : (strN (ofN 2 x)).size = 2 := ofN_length 2 x
      have s2 : (strN (ofN 2 f1.size)).size = 2 := ofN_length 2 f1.size
      have s3 : (strN acc).size = acc.length := rfl
      have r1 : portmanteauref01_Of.f k (x : Int) 2 = some (strN (ofN 2 x)) := ref_of_eq x (by omega) 2 k (by omega)
      have r2 : portmanteauref01_Of.f k (f1.size : Int) 2 = some (strN (ofN 2 f1.size)) := ref_of_eq f1.size (by omega) 2 k (by omega)
      have hnew : ((strN acc ++ strN (ofN 2 x)) ++ strN (ofN 2 f1.size)) ++ f1 = strN (acc ++ fieldB ⟨(x : Int), f1⟩) := by
        apply ext_list
        simp [fieldB, strN]
      have hih := ih (i + 1) k (acc ++ fieldB ⟨(x : Int), f1⟩) (by omega) (by omega) (by omega)
      rw [if_neg (by simp; omega), u64_id (by omega) (by omega), u64_id (by omega) (by omega), r1, Option.bind_some, if_pos (by omega), r2, Option.bind_some, if_pos (by omega), if_pos (by omega), hnew, wrap_id c1 c2]
      exact hih
theorem print_eq (l : List S38) (hr : ∀ x ∈ l, 0 ≤ x.f0 ∧ x.f0 < 65536) (hl : l.length ≤ 60) (k : Nat) (hk : 1000 < k) : portmanteauref13_Print.f k l = some (extraGo l []) := by
  have h0 := print_loop l hr (by omega) l.length 0 k [] (by omega) (by simp) (by omega)
  rw [List.drop_zero] at h0
  exact h0
theorem few_loop (l : List S38) (hl : l.length ≤ 60) : ∀ d i k, i + d = l.length → d < k → ∃ b, portmanteaulaw13_few.l0 k l l (l.length : Int) (i : Int) = some b := by
  intro d
  induction d with
  | zero =>
    intro i k hi hk
    obtain ⟨k, rfl⟩ : ∃ m, k = m + 1 := ⟨k - 1, by omega⟩
    unfold portmanteaulaw13_few.l0
    rw [if_neg (by omega)]
    exact ⟨_, rfl⟩
  | succ d ih =>
    intro i k hi hk
    obtain ⟨k, rfl⟩ : ∃ m, k = m + 1 := ⟨k - 1, by omega⟩
    have q1 : (i : Int) < (l.length : Int) := by omega
    have q2 : (0 : Int) ≤ (i : Int) := Int.natCast_nonneg _
    obtain ⟨b, hb⟩ := ih (i + 1) k (by omega) (by omega)
    have c1 : -9223372036854775808 ≤ (i : Int) + 1 := by omega
    have c2 : (i : Int) + 1 ≤ 9223372036854775807 := by omega
    unfold portmanteaulaw13_few.l0
    rw [if_pos q1, if_pos q2, if_pos q1, if_neg (by omega), wrap_id c1 c2]
    split
    · exact ⟨_, rfl⟩
    · exact ⟨b, hb⟩
theorem few_eq (l : List S38) (k : Nat) (hk : 1000 < k) : ∃ b, portmanteaulaw13_few.f k l = some b ∧ (b = true → l.length ≤ 60) := by
  by_cases hl : l.length ≤ 60
  · obtain ⟨b, hb⟩ := few_loop l hl l.length 0 k (by omega) (by omega)
    exact ⟨b, hb, fun _ => hl⟩
  · refine ⟨false, ?_, fun h => by cases h⟩
    unfold portmanteaulaw13_few.f
    obtain ⟨k, rfl⟩ : ∃ m, k = m + 1 := ⟨k - 1, by omega⟩
    unfold portmanteaulaw13_few.l0
    rw [if_pos (by omega), if_pos (by decide), if_pos (by omega), if_pos (by omega)]
theorem awake_true (k : Nat) (hk : 1000 < k) : portmanteaulaw13_awake.f k = some true := by
  have h0 : portmanteaulaw13_awake.f 20 = some true := by decide +kernel
  obtain ⟨d, rfl⟩ : ∃ d, k = 20 + d := ⟨k - 20, by omega⟩
  clear hk
  induction d with
  | zero => exact h0
  | succ d ih => exact portmanteaulaw13_awake.mono _ _ ih
theorem law (s : ByteArray) (l : List S38) (hr : ∀ x ∈ l, 0 ≤ x.f0 ∧ x.f0 < 65536) (k : Nat) (hk : 300000 < k) : portmanteaulaw13_ExtraReads.f k s l = some true := by
  obtain ⟨k, rfl⟩ : ∃ m, k = m + 1 := ⟨k - 1, by omega⟩
  have htrue : ∀ (s : ByteArray) (l : List S38), portmanteaulaw13_ExtraReads.j0 (k + 1) s l true = some true := fun s l => rfl
  unfold portmanteaulaw13_ExtraReads.f
  rw [awake_true (k + 1) (by omega), Option.bind_some, if_pos rfl]
  by_cases hs : (s.size : Int) > 70000
  · rw [if_pos hs, htrue]
  rw [if_neg hs]
  obtain ⟨b, hb, hb2⟩ := few_eq l (k + 1) (by omega)
  rw [hb, Option.bind_some]
  cases b with
  | false => exact htrue s l
  | true =>
    have hl := hb2 rfl
    obtain ⟨r, r1, r2, r3⟩ := parse_eq s (by omega) k (by omega)
    unfold portmanteaulaw13_ExtraReads.j0
    dsimp only
    rw [if_neg (by decide), r1, Option.bind_some, r2, Option.bind_some, show extra_Print.f l = some (extraGo l []) from if_pos hr, Option.bind_some, print_eq l hr hl k (by omega), Option.bind_some, same_eq r.1 (by omega) k (by omega), Option.bind_some, if_pos rfl, if_pos rfl, if_pos rfl]
    simp
end Go.Proofs.Ytdlcihbfdbdbbaa.D13
