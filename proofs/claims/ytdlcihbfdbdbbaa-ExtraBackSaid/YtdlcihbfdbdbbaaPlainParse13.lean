/- ExtraBack: what is printed is parsed as it was; what is parsed is printed so; what was put is found, once: plain Lean. -/
import Derived.Test.YtdlcihbfdbdbbaaAt2
import Derived.Test.YtdlcihbfdbdbbaaNumN
import Derived.Test.YtdlcihbfdbdbbaaGiveextraprint
import Derived.Test.YtdlcihbfdbdbbaaGiveconcat
import Derived.Test.YtdlcihbfdbdbbaaPx11
import Derived.Test.YtdlcihbfdbdbbaaPx12
import Derived.Test.YtdlcihbfdbdbbaaPx4
import Derived.Test.YtdlcihbfdbdbbaaPx5
import Derived.Test.YtdlcihbfdbdbbaaPx7
import Derived.Test.YtdlcihbfdbdbbaaPx8
import Derived.Test.YtdlcihbfdbdbbaaPx9
namespace Go.Proofs.Ytdlcihbfdbdbbaa.D13
set_option linter.unusedVariables false
set_option linter.unusedSimpArgs false
open Go Go.RowKit Go.Proofs.Ytdlcihbfdbdbbaa.P Go.Proofs.Ytdlcihbfdbdbbaa.B Go.Proofs.Ytdlcihbfdbdbbaa.Num Go.Proofs.Ytdlcihbfdbdbbaa.Cur Go.Proofs.YtdlcihbfdbdbbaaW.PrintWords Go.Proofs.YtdlcihbfdbdbbaaW.PrintLast Go.Proofs.YtdlcihbfdbdbbaaW.PrintMore
/-- The fields that bytes are. -/
def parseG : List UInt8 → Option (List S38)
  | [] => some []
  | p :: q :: u :: v :: t => if t.length < leN [u, v] then none else (parseG (t.drop (leN [u, v]))).map fun l => ⟨((leN [p, q] : Nat) : Int), strN (t.take (leN [u, v]))⟩ :: l
  | _ => none
termination_by l => l.length
decreasing_by simp [List.length_drop]; omega
def parseR (acc : List S38) : Option (List S38) → List S38 × Int
  | some l => (acc ++ l, 0)
  | none => ([], 24)
theorem parseG_short (R : List UInt8) (h0 : R.length ≠ 0) (h4 : R.length < 4) : parseG R = none := by
  match R, h0, h4 with
  | [_], _, _ => rw [parseG] <;> (intros; simp_all)
  | [_, _], _, _ => rw [parseG] <;> (intros; simp_all)
  | [_, _, _], _, _ => rw [parseG] <;> (intros; simp_all)
  | [], h, _ => exact absurd rfl h
  | _ :: _ :: _ :: _ :: _, _, h => simp at h; omega
theorem size_of (s : ByteArray) : s.size = s.data.toList.length := (toList_length s).symm
/-- With an error the program's loop ends. -/
theorem parse_bad (s : ByteArray) (a : Int) (R : List UInt8) (h : At s a R) (acc : List S38) (k : Nat) : extra_Parse.l0 (k + 2) acc s a 3 = some ([], 24) := by
  have hj : extra_Parse.j1 (k + 1) acc false s a 3 = some ([], 24) := by
    unfold extra_Parse.j1
    rw [if_neg (by decide)]
    unfold cursor_Cursor_Err.f
    rw [Option.bind_some]
    dsimp only
    rw [if_neg (by decide)]
  unfold extra_Parse.l0 cursor_Cursor_Left.f
  rw [Option.bind_some]
  dsimp only
  rw [left_at h]
  by_cases hR : 0 < R.length
  · rw [if_pos (by omega)]
    unfold cursor_Cursor_Err.f
    rw [Option.bind_some]
    dsimp only
    rw [show ((3 : Int) == 0) = false from rfl]
    exact hj
  · rw [if_neg (by omega)]
    exact hj
theorem parse_go (s : ByteArray) : ∀ (n : Nat) (R : List UInt8), R.length = n → ∀ (a : Int) (acc : List S38) (j : Nat), At s a R → acc.length + R.length ≤ 100000 → 2 * n + 50 < j →
    extra_Parse.l0 j acc s a 0 = some (parseR acc (parseG R)) := by
  intro n
  induction n using Nat.strongRecOn with
  | _ n ih =>
  intro R hRn a acc j hA hacc hj
  obtain ⟨j, rfl⟩ : ∃ m, j = m + 2 := ⟨j - 2, by omega⟩
  unfold extra_Parse.l0 cursor_Cursor_Left.f
  rw [Option.bind_some]
  dsimp only
  rw [left_at hA]
  by_cases h0 : R.length = 0
  · rw [if_neg (by omega)]
    obtain rfl : R = [] := List.length_eq_zero_iff.1 h0
    rw [parseG, parseR, List.append_nil]
    unfold extra_Parse.j1
    rw [if_neg (by decide)]
    unfold cursor_Cursor_Err.f
    rw [Option.bind_some]
    dsimp only
    rw [if_pos rfl]
  rw [if_pos (by omega)]
  unfold cursor_Cursor_Err.f
  rw [Option.bind_some]
  dsimp only
  unfold extra_Parse.j1
  rw [show ((0 : Int) == 0) = true from rfl, if_pos rfl]
  by_cases h4 : R.length < 4
  · rw [parseG_short R (by omega) h4]
    by_cases h2 : R.length < 2
    · rw [two_fail hA h2 j (by omega), Option.bind_some]
      dsimp only
      rw [two_bad (by decide) j (by omega), Option.bind_some]
      dsimp only
      rw [take_bad (by decide), Option.bind_some]
      dsimp only
      rw [if_pos (by omega)]
      obtain ⟨m, rfl⟩ : ∃ m, j = m + 2 := ⟨j - 2, by omega⟩
      exact parse_bad s a R hA _ m
    · obtain ⟨p, q, t, rfl⟩ : ∃ p q t, R = p :: q :: t := by
        match R, h2 with
        | z :: u :: t, _ => exact ⟨z, u, t, rfl⟩
        | [_], h => exact absurd (by simp) h
        | [], h => exact absurd (by simp) h
      have hA2 := (show At s a ([p, q] ++ t) from hA).on
      simp only [List.length_cons] at h4
      rw [two_at (show At s a ([p, q] ++ t) from hA) rfl j (by omega), Option.bind_some]
      dsimp only
      rw [two_fail hA2 (by omega) j (by omega), Option.bind_some]
      dsimp only
      rw [take_bad (by decide), Option.bind_some]
      dsimp only
      rw [if_pos (by omega)]
      obtain ⟨m, rfl⟩ : ∃ m, j = m + 2 := ⟨j - 2, by omega⟩
      exact parse_bad s _ t hA2 _ m
  obtain ⟨p, q, u, v, t, rfl⟩ : ∃ p q u v t, R = p :: q :: u :: v :: t := by
    match R, h4 with
    | p :: q :: u :: v :: t, _ => exact ⟨p, q, u, v, t, rfl⟩
    | [_, _, _], h => exact absurd (by simp) h
    | [_, _], h => exact absurd (by simp) h
    | [_], h => exact absurd (by simp) h
    | [], h => exact absurd (by simp) h
  clear h4 h0
  simp only [List.length_cons] at hRn hacc
  have hA2 : At s (a + ([p, q] : List UInt8).length) (u :: v :: t) := (show At s a ([p, q] ++ (u :: v :: t)) from hA).on
  have hA3 : At s (a + ([p, q] : List UInt8).length + ([u, v] : List UInt8).length) t := (show At s _ ([u, v] ++ t) from hA2).on
  have b1 : leN [p, q] < 65536 := by have h := leN_lt [p, q]; rw [show ([p, q] : List UInt8).length = 2 from rfl] at h; omega
  have b2 : leN [u, v] < 65536 := by have h := leN_lt [u, v]; rw [show ([u, v] : List UInt8).length = 2 from rfl] at h; omega
  rw [two_at (show At s a ([p, q] ++ (u :: v :: t)) from hA) rfl j (by omega), Option.bind_some]
  dsimp only
  rw [two_at (show At s _ ([u, v] ++ t) from hA2) rfl j (by omega), Option.bind_some]
  dsimp only
  rw [parseG]
  obtain ⟨id, hid⟩ : ∃ id, leN [p, q] = id := ⟨_, rfl⟩
  obtain ⟨ln, hln⟩ : ∃ ln, leN [u, v] = ln := ⟨_, rfl⟩
  rw [hid] at b1 ⊢
  rw [hln] at b2 ⊢
  have d1 : (-9223372036854775808 : Int) ≤ (ln : Int) := by omega
  have d2 : (ln : Int) ≤ 9223372036854775807 := by omega
  have d3 : (-9223372036854775808 : Int) ≤ 4 + (ln : Int) := by omega
  have d4 : 4 + (ln : Int) ≤ 9223372036854775807 := by omega
  clear hid hln
  by_cases hshort : t.length < ln
  · have hf := take_fail (n := (ln : Int)) hA3 (.inr (by omega))
    have ha2 : acc.length < 5864062014805 := by omega
    obtain ⟨m, rfl⟩ : ∃ m, j = m + 2 := ⟨j - 2, by omega⟩
    rw [if_pos hshort, show wrap64 ((ln : Nat) : Int) = (ln : Int) from wrap_id d1 d2, hf, Option.bind_some]
    dsimp only
    rw [if_pos ha2]
    exact parse_bad s _ t hA3 _ m
  · obtain ⟨m, t, rfl, hm⟩ : ∃ m t', t = m ++ t' ∧ m.length = ln := ⟨t.take ln, t.drop ln, (List.take_append_drop _ _).symm, by rw [List.length_take]; omega⟩
    rw [List.length_append] at hRn hacc hshort
    have q3 : acc.length < 5864062014805 := by omega
    have hf := take_at (n := (ln : Int)) hA3 (by omega)
    have hA4 := hA3.on
    have r1 := ih t.length (by omega) t rfl _ (acc ++ [⟨(id : Int), strN m⟩]) j hA4 (by rw [List.length_append]; simp only [List.length_cons, List.length_nil]; omega) (by omega)
    have w1 : IntKind.u16.wrap ((id : Nat) : Int) = (id : Int) := by rw [u16_mod]; omega
    have w2 : wrap64 ((ln : Nat) : Int) = (ln : Int) := wrap_id d1 d2
    rw [w2, hf, Option.bind_some]
    dsimp only
    rw [if_pos q3, if_neg (by rw [List.length_append]; omega), r1, show (m ++ t).drop ln = t by rw [← hm, List.drop_left], show (m ++ t).take ln = m by rw [← hm, List.take_left]]
    cases parseG t with
    | none => rfl
    | some l => simp [parseR]
theorem same_loop (l : List S38) (hl : l.length ≤ 100000) : ∀ d i k, i + d = l.length → d < k → portmanteauref13_Same.l0 k l l (l.length : Int) (i : Int) = some true := by
  intro d
  induction d with
  | zero =>
    intro i k hi hk
    obtain ⟨k, rfl⟩ : ∃ m, k = m + 1 := ⟨k - 1, by omega⟩
    unfold portmanteauref13_Same.l0
    rw [if_neg (by omega)]
  | succ d ih =>
    intro i k hi hk
    obtain ⟨k, rfl⟩ : ∃ m, k = m + 1 := ⟨k - 1, by omega⟩
    have q1 : (i : Int) < (l.length : Int) := by omega
    have q2 : (0 : Int) ≤ (i : Int) := Int.natCast_nonneg _
    have hi' := ih (i + 1) k (by omega) (by omega)
    have hw : wrap64 ((i : Int) + 1) = ((i + 1 : Nat) : Int) := by rw [wrap_id (by omega) (by omega)]; simp
    unfold portmanteauref13_Same.l0
    rw [if_pos q1, if_pos q2, if_pos q1, if_pos q1, if_neg (by simp), hw, hi']
theorem same_eq (l : List S38) (hl : l.length ≤ 100000) (k : Nat) (hk : l.length < k) : portmanteauref13_Same.f k l l = some true := by
  unfold portmanteauref13_Same.f
  rw [if_pos rfl]
  exact same_loop l hl l.length 0 k (by omega) hk
theorem few_loop (l : List S38) (hl : l.length ≤ 60) : ∀ d i k, i + d = l.length → d < k → ∃ b, portmanteaulaw13_few.l0 k l l (l.length : Int) (i : Int) = some b := by
  intro d
  induction d with
  | zero =>
    intro i k hi hk
    obtain ⟨k, rfl⟩ : ∃ m, k = m + 1 := ⟨k - 1, by omega⟩
    unfold portmanteaulaw13_few.l0
    rw [if_neg (by omega)]
    exact ⟨_, rfl⟩
  | succ d ih =>
    intro i k hi hk
    obtain ⟨k, rfl⟩ : ∃ m, k = m + 1 := ⟨k - 1, by omega⟩
    have q1 : (i : Int) < (l.length : Int) := by omega
    have q2 : (0 : Int) ≤ (i : Int) := Int.natCast_nonneg _
    obtain ⟨b, hb⟩ := ih (i + 1) k (by omega) (by omega)
    have c1 : -9223372036854775808 ≤ (i : Int) + 1 := by omega
    have c2 : (i : Int) + 1 ≤ 9223372036854775807 := by omega
    unfold portmanteaulaw13_few.l0
    rw [if_pos q1, if_pos q2, if_pos q1, if_neg (by omega), wrap_id c1 c2]
    split
    · exact ⟨_, rfl⟩
    · exact ⟨b, hb⟩
theorem few_eq (l : List S38) (k : Nat) (hk : 1000 < k) : ∃ b, portmanteaulaw13_few.f k l = some b ∧ (b = true → l.length ≤ 60) := by
  by_cases hl : l.length ≤ 60
  · obtain ⟨b, hb⟩ := few_loop l hl l.length 0 k (by omega) (by omega)
    exact ⟨b, hb, fun _ => hl⟩
  · refine ⟨false, ?_, fun h => by cases h⟩
    unfold portmanteaulaw13_few.f
    obtain ⟨k, rfl⟩ : ∃ m, k = m + 1 := ⟨k - 1, by omega⟩
    unfold portmanteaulaw13_few.l0
    rw [if_pos (by omega), if_pos (by decide), if_pos (by omega), if_pos (by omega)]
theorem awake_true (k : Nat) (hk : 1000 < k) : portmanteaulaw13_awake.f k = some true := by
  have h0 : portmanteaulaw13_awake.f 20 = some true := by decide +kernel
  obtain ⟨d, rfl⟩ : ∃ d, k = 20 + d := ⟨k - 20, by omega⟩
  clear hk
  induction d with
  | zero => exact h0
  | succ d ih => exact portmanteaulaw13_awake.mono _ _ ih
end Go.Proofs.Ytdlcihbfdbdbbaa.D13
