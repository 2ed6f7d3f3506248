/- Several texts in one (merge.py): ExtraBack: what is printed is parsed as it was; what is parsed is printed so; what was put is found, once: plain Lean.; ExtraBack: what is printed is parsed as it was; what is parsed is printed so; what was put is found, once: plain Lean.; ExtraDoes: what is done to any fields, and told of them, is what the document says: plain Lean.; ExtraDoes: what is done to any fields, and told of them; they stay as they were: the walk through the law's own code, joined with the plain part. Printed by gendoes.py. -/
import Derived.Test.YtdlcihbfdbdbbaaMg1
import Derived.Test.YtdlcihbfdbdbbaaPx11
import Derived.Test.YtdlcihbfdbdbbaaPx12
import Derived.Test.YtdlcihbfdbdbbaaPx4
import Derived.Test.YtdlcihbfdbdbbaaPx5
import Derived.Test.YtdlcihbfdbdbbaaPx7
import Derived.Test.YtdlcihbfdbdbbaaPx8
import Derived.Test.YtdlcihbfdbdbbaaPx9
import Derived.Test.YtdlcihbfdbdbbaaPx13
import Derived.Test.YtdlcihbfdbdbbaaPx14
import Derived.Test.YtdlcihbfdbdbbaaPx15
import Derived.Test.YtdlcihbfdbdbbaaPx16
/- ExtraBack: what is printed is parsed as it was; what is parsed is printed so; what was put is found, once: plain Lean. -/
namespace Go.Proofs.Ytdlcihbfdbdbbaa.D13
set_option linter.unusedVariables false
set_option linter.unusedSimpArgs false
open Go Go.RowKit Go.Proofs.Ytdlcihbfdbdbbaa.P Go.Proofs.Ytdlcihbfdbdbbaa.B Go.Proofs.Ytdlcihbfdbdbbaa.Num Go.Proofs.Ytdlcihbfdbdbbaa.Cur Go.Proofs.YtdlcihbfdbdbbaaW.PrintWords Go.Proofs.YtdlcihbfdbdbbaaW.PrintLast Go.Proofs.YtdlcihbfdbdbbaaW.PrintMore
/-- The fields that bytes are. -/
def parseG : List UInt8 → Option (List S38)
  | [] => some []
  | p :: q :: u :: v :: t => if t.length < leN [u, v] then none else (parseG (t.drop (leN [u, v]))).map fun l => ⟨((leN [p, q] : Nat) : Int), strN (t.take (leN [u, v]))⟩ :: l
  | _ => none
termination_by l => l.length
decreasing_by simp [List.length_drop]; omega
def parseR (acc : List S38) : Option (List S38) → List S38 × Int
  | some l => (acc ++ l, 0)
  | none => ([], 24)
theorem parseG_short (R : List UInt8) (h0 : R.length ≠ 0) (h4 : R.length < 4) : parseG R = none := by
  match R, h0, h4 with
  | [_], _, _ => rw [parseG] <;> (intros; simp_all)
  | [_, _], _, _ => rw [parseG] <;> (intros; simp_all)
  | [_, _, _], _, _ => rw [parseG] <;> (intros; simp_all)
  | [], h, _ => exact absurd rfl h
  | _ :: _ :: _ :: _ :: _, _, h => simp at h; omega
theorem size_of (s : ByteArray) : s.size = s.data.toList.length := (toList_length s).symm
/-- With an error the program's loop ends. -/
theorem parse_bad (s : ByteArray) (a : Int) (R : List UInt8) (h : At s a R) (acc : List S38) (k : Nat) : extra_Parse.l0 (k + 2) acc s a 3 = some ([], 24) := by
  have hj : extra_Parse.j1 (k + 1) acc false s a 3 = some ([], 24) := by
    unfold extra_Parse.j1
    rw [if_neg (by decide)]
    unfold cursor_Cursor_Err.f
    rw [Option.bind_some]
    dsimp only
    rw [if_neg (by decide)]
  unfold extra_Parse.l0 cursor_Cursor_Left.f
  rw [Option.bind_some]
  dsimp only
  rw [left_at h]
  by_cases hR : 0 < R.length
  · rw [if_pos (by omega)]
    unfold cursor_Cursor_Err.f
    rw [Option.bind_some]
    dsimp only
    rw [show ((3 : Int) == 0) = false from rfl]
    exact hj
  · rw [if_neg (by omega)]
    exact hj
theorem parse_go (s : ByteArray) : ∀ (n : Nat) (R : List UInt8), R.length = n → ∀ (a : Int) (acc : List S38) (j : Nat), At s a R → acc.length + R.length ≤ 100000 → 2 * n + 50 < j →
    extra_Parse.l0 j acc s a 0 = some (parseR acc (parseG R)) := by
  intro n
  induction n using Nat.strongRecOn with
  | _ n ih =>
  intro R hRn a acc j hA hacc hj
  obtain ⟨j, rfl⟩ : ∃ m, j = m + 2 := ⟨j - 2, by omega⟩
  unfold extra_Parse.l0 cursor_Cursor_Left.f
  rw [Option.bind_some]
  dsimp only
  rw [left_at hA]
  by_cases h0 : R.length = 0
  · rw [if_neg (by omega)]
    obtain rfl : R = [] := List.length_eq_zero_iff.1 h0
    rw [parseG, parseR, List.append_nil]
    unfold extra_Parse.j1
    rw [if_neg (by decide)]
    unfold cursor_Cursor_Err.f
    rw [Option.bind_some]
    dsimp only
    rw [if_pos rfl]
  rw [if_pos (by omega)]
  unfold cursor_Cursor_Err.f
  rw [Option.bind_some]
  dsimp only
  unfold extra_Parse.j1
  rw [show ((0 : Int) == 0) = true from rfl, if_pos rfl]
  by_cases h4 : R.length < 4
  · rw [parseG_short R (by omega) h4]
    by_cases h2 : R.length < 2
    · rw [two_fail hA h2 j (by omega), Option.bind_some]
      dsimp only
      rw [two_bad (by decide) j (by omega), Option.bind_some]
      dsimp only
      rw [take_bad (by decide), Option.bind_some]
      dsimp only
      rw [if_pos (by omega)]
      obtain ⟨m, rfl⟩ : ∃ m, j = m + 2 := ⟨j - 2, by omega⟩
      exact parse_bad s a R hA _ m
    · obtain ⟨p, q, t, rfl⟩ : ∃ p q t, R = p :: q :: t := by
        match R, h2 with
        | z :: u :: t, _ => exact ⟨z, u, t, rfl⟩
        | [_], h => exact absurd (by simp) h
        | [], h => exact absurd (by simp) h
      have hA2 := (show At s a ([p, q] ++ t) from hA).on
      simp only [List.length_cons] at h4
      rw [two_at (show At s a ([p, q] ++ t) from hA) rfl j (by omega), Option.bind_some]
      dsimp only
      rw [two_fail hA2 (by omega) j (by omega), Option.bind_some]
      dsimp only
      rw [take_bad (by decide), Option.bind_some]
      dsimp only
      rw [if_pos (by omega)]
      obtain ⟨m, rfl⟩ : ∃ m, j = m + 2 := ⟨j - 2, by omega⟩
      exact parse_bad s _ t hA2 _ m
  obtain ⟨p, q, u, v, t, rfl⟩ : ∃ p q u v t, R = p :: q :: u :: v :: t := by
    match R, h4 with
    | p :: q :: u :: v :: t, _ => exact ⟨p, q, u, v, t, rfl⟩
    | [_, _, _], h => exact absurd (by simp) h
    | [_, _], h => exact absurd (by simp) h
    | [_], h => exact absurd (by simp) h
    | [], h => exact absurd (by simp) h
  clear h4 h0
  simp only [List.length_cons] at hRn hacc
  have hA2 : At s (a + ([p, q] : List UInt8).length) (u :: v :: t) := (show At s a ([p, q] ++ (u :: v :: t)) from hA).on
  have hA3 : At s (a + ([p, q] : List UInt8).length + ([u, v] : List UInt8).length) t := (show At s _ ([u, v] ++ t) from hA2).on
  have b1 : leN [p, q] < 65536 := by have h := leN_lt [p, q]; rw [show ([p, q] : List UInt8).length = 2 from rfl] at h; omega
  have b2 : leN [u, v] < 65536 := by have h := leN_lt [u, v]; rw [show ([u, v] : List UInt8).length = 2 from rfl] at h; omega
  rw [two_at (show At s a ([p, q] ++ (u :: v :: t)) from hA) rfl j (by omega), Option.bind_some]
  dsimp only
  rw [two_at (show At s _ ([u, v] ++ t) from hA2) rfl j (by omega), Option.bind_some]
  dsimp only
  rw [parseG]
  obtain ⟨id, hid⟩ : ∃ id, leN [p, q] = id := ⟨_, rfl⟩
  obtain ⟨ln, hln⟩ : ∃ ln, leN [u, v] = ln := ⟨_, rfl⟩
  rw [hid] at b1 ⊢
  rw [hln] at b2 ⊢
  have d1 : (-9223372036854775808 : Int) ≤ (ln : Int) := by omega
  have d2 : (ln : Int) ≤ 9223372036854775807 := by omega
  have d3 : (-9223372036854775808 : Int) ≤ 4 + (ln : Int) := by omega
  have d4 : 4 + (ln : Int) ≤ 9223372036854775807 := by omega
  clear hid hln
  by_cases hshort : t.length < ln
  · have hf := take_fail (n := (ln : Int)) hA3 (.inr (by omega))
    have ha2 : acc.length < 5864062014805 := by omega
    obtain ⟨m, rfl⟩ : ∃ m, j = m + 2 := ⟨j - 2, by omega⟩
    rw [if_pos hshort, show wrap64 ((ln : Nat) : Int) = (ln : Int) from wrap_id d1 d2, hf, Option.bind_some]
    dsimp only
    rw [if_pos ha2]
    exact parse_bad s _ t hA3 _ m
  · obtain ⟨m, t, rfl, hm⟩ : ∃ m t', t = m ++ t' ∧ m.length = ln := ⟨t.take ln, t.drop ln, (List.take_append_drop _ _).symm, by rw [List.length_take]; omega⟩
    rw [List.length_append] at hRn hacc hshort
    have q3 : acc.length < 5864062014805 := by omega
    have hf := take_at (n := (ln : Int)) hA3 (by omega)
    have hA4 := hA3.on
    have r1 := ih t.length (by omega) t rfl _ (acc ++ [⟨(id : Int), strN m⟩]) j hA4 (by rw [List.length_append]; simp only [List.length_cons, List.length_nil]; omega) (by omega)
    have w1 : IntKind.u16.wrap ((id : Nat) : Int) = (id : Int) := by rw [u16_mod]; omega
    have w2 : wrap64 ((ln : Nat) : Int) = (ln : Int) := wrap_id d1 d2
    rw [w2, hf, Option.bind_some]
    dsimp only
    rw [if_pos q3, if_neg (by rw [List.length_append]; omega), r1, show (m ++ t).drop ln = t by rw [← hm, List.drop_left], show (m ++ t).take ln = m by rw [← hm, List.take_left]]
    cases parseG t with
    | none => rfl
    | some l => simp [parseR]
theorem same_loop (l : List S38) (hl : l.length ≤ 100000) : ∀ d i k, i + d = l.length → d < k → portmanteauref13_Same.l0 k l l (l.length : Int) (i : Int) = some true := by
  intro d
  induction d with
  | zero =>
    intro i k hi hk
    obtain ⟨k, rfl⟩ : ∃ m, k = m + 1 := ⟨k - 1, by omega⟩
    unfold portmanteauref13_Same.l0
    rw [if_neg (by omega)]
  | succ d ih =>
    intro i k hi hk
    obtain ⟨k, rfl⟩ : ∃ m, k = m + 1 := ⟨k - 1, by omega⟩
    have q1 : (i : Int) < (l.length : Int) := by omega
    have q2 : (0 : Int) ≤ (i : Int) := Int.natCast_nonneg _
    have hi' := ih (i + 1) k (by omega) (by omega)
    have hw : wrap64 ((i : Int) + 1) = ((i + 1 : Nat) : Int) := by rw [wrap_id (by omega) (by omega)]; simp
    unfold portmanteauref13_Same.l0
    rw [if_pos q1, if_pos q2, if_pos q1, if_pos q1, if_neg (by simp), hw, hi']
theorem same_eq (l : List S38) (hl : l.length ≤ 100000) (k : Nat) (hk : l.length < k) : portmanteauref13_Same.f k l l = some true := by
  unfold portmanteauref13_Same.f
  rw [if_pos rfl]
  exact same_loop l hl l.length 0 k (by omega) hk
theorem few_loop (l : List S38) (hl : l.length ≤ 60) : ∀ d i k, i + d = l.length → d < k → ∃ b, portmanteaulaw13_few.l0 k l l (l.length : Int) (i : Int) = some b := by
  intro d
  induction d with
  | zero =>
    intro i k hi hk
    obtain ⟨k, rfl⟩ : ∃ m, k = m + 1 := ⟨k - 1, by omega⟩
    unfold portmanteaulaw13_few.l0
    rw [if_neg (by omega)]
    exact ⟨_, rfl⟩
  | succ d ih =>
    intro i k hi hk
    obtain ⟨k, rfl⟩ : ∃ m, k = m + 1 := ⟨k - 1, by omega⟩
    have q1 : (i : Int) < (l.length : Int) := by omega
    have q2 : (0 : Int) ≤ (i : Int) := Int.natCast_nonneg _
    obtain ⟨b, hb⟩ := ih (i + 1) k (by omega) (by omega)
    have c1 : -9223372036854775808 ≤ (i : Int) + 1 := by omega
    have c2 : (i : Int) + 1 ≤ 9223372036854775807 := by omega
    unfold portmanteaulaw13_few.l0
    rw [if_pos q1, if_pos q2, if_pos q1, if_neg (by omega), wrap_id c1 c2]
    split
    · exact ⟨_, rfl⟩
    · exact ⟨b, hb⟩
theorem few_eq (l : List S38) (k : Nat) (hk : 1000 < k) : ∃ b, portmanteaulaw13_few.f k l = some b ∧ (b = true → l.length ≤ 60) := by
  by_cases hl : l.length ≤ 60
  · obtain ⟨b, hb⟩ := few_loop l hl l.length 0 k (by omega) (by omega)
    exact ⟨b, hb, fun _ => hl⟩
  · refine ⟨false, ?_, fun h => by cases h⟩
    unfold portmanteaulaw13_few.f
    obtain ⟨k, rfl⟩ : ∃ m, k = m + 1 := ⟨k - 1, by omega⟩
    unfold portmanteaulaw13_few.l0
    rw [if_pos (by omega), if_pos (by decide), if_pos (by omega), if_pos (by omega)]
theorem awake_true (k : Nat) (hk : 1000 < k) : portmanteaulaw13_awake.f k = some true := by
  have h0 : portmanteaulaw13_awake.f 20 = some true := by decide +kernel
  obtain ⟨d, rfl⟩ : ∃ d, k = 20 + d := ⟨k - 20, by omega⟩
  clear hk
  induction d with
  | zero => exact h0
  | succ d ih => exact portmanteaulaw13_awake.mono _ _ ih
end Go.Proofs.Ytdlcihbfdbdbbaa.D13

/- ExtraBack: what is printed is parsed as it was; what is parsed is printed so; what was put is found, once: plain Lean. -/
namespace Go.Proofs.Ytdlcihbfdbdbbaa.D13
set_option linter.unusedVariables false
set_option linter.unusedSimpArgs false
open Go Go.RowKit Go.Proofs.Ytdlcihbfdbdbbaa.P Go.Proofs.Ytdlcihbfdbdbbaa.B Go.Proofs.Ytdlcihbfdbdbbaa.Num Go.Proofs.Ytdlcihbfdbdbbaa.Cur Go.Proofs.YtdlcihbfdbdbbaaW.PrintWords Go.Proofs.YtdlcihbfdbdbbaaW.PrintLast Go.Proofs.YtdlcihbfdbdbbaaW.PrintMore
theorem parse_f (s : ByteArray) (k : Nat) (hk : 200000 < k) : extra_Parse.f k s = some (if 65535 < s.size then ([], 5) else parseR [] (parseG s.data.toList)) := by
  unfold extra_Parse.f cursor_Over.f
  by_cases hb : 65535 < s.size
  · rw [if_pos (by omega), if_pos hb]
  · rw [if_neg (by omega), if_neg hb, Option.bind_some]
    dsimp only
    exact parse_go s _ s.data.toList rfl 0 [] k (At.start s (by omega)) (by rw [toList_length]; simp; omega) (by rw [toList_length]; omega)
theorem ofN2 (n : Nat) : ofN 2 n = [UInt8.ofNat (n % 256), UInt8.ofNat (n / 256 % 256)] := rfl
theorem ofN_leN : ∀ (l : List UInt8), ofN l.length (leN l) = l
  | [] => rfl
  | x :: l => by
    have hx := x.toNat_lt
    rw [List.length_cons, ofN, leN, show (x.toNat + 256 * leN l) % 256 = x.toNat by omega, show (x.toNat + 256 * leN l) / 256 = leN l by omega, ofN_leN l]
    simp
theorem leN2_lt (p q : UInt8) : leN [p, q] < 65536 := by
  have h := leN_lt [p, q]
  rw [show ([p, q] : List UInt8).length = 2 from rfl] at h
  omega
theorem parseG_flat : ∀ (l : List S38), (∀ x ∈ l, 0 ≤ x.f0 ∧ x.f0 < 65536) → (∀ x ∈ l, x.f1.size ≤ 65535) → parseG (l.flatMap fieldB) = some l
  | [], _, _ => by simp [parseG]
  | x :: l, hr, hs => by
    have ih := parseG_flat l (fun y hy => hr y (by simp [hy])) (fun y hy => hs y (by simp [hy]))
    have h1 := hr x (by simp)
    have h2 := hs x (by simp)
    have e1 : leN [UInt8.ofNat (x.f0.toNat % 256), UInt8.ofNat (x.f0.toNat / 256 % 256)] = x.f0.toNat := by rw [← ofN2, leN_ofN]; omega
    have e2 : leN [UInt8.ofNat (x.f1.size % 256), UInt8.ofNat (x.f1.size / 256 % 256)] = x.f1.size := by rw [← ofN2, leN_ofN]; omega
    have hl : x.f1.data.toList.length = x.f1.size := toList_length _
    rw [List.flatMap_cons, fieldB, ofN2, ofN2]
    show parseG (_ :: _ :: _ :: _ :: (x.f1.data.toList ++ l.flatMap fieldB)) = _
    rw [parseG, e2, e1, if_neg (by rw [List.length_append]; omega), ← hl, List.drop_left, List.take_left, ih, Option.map_some]
    obtain ⟨a, b⟩ := x
    congr 2
    show (⟨((a.toNat : Nat) : Int), strN b.data.toList⟩ : S38) = ⟨a, b⟩
    have h0 : 0 ≤ a := h1.1
    rw [show ((a.toNat : Nat) : Int) = a by omega]
    rfl
theorem parseG_inv : ∀ (n : Nat) (R : List UInt8) (m : List S38), R.length = n → parseG R = some m → m.flatMap fieldB = R ∧ ∀ x ∈ m, (0 ≤ x.f0 ∧ x.f0 < 65536) ∧ x.f1.size ≤ 65535 := by
  intro n
  induction n using Nat.strongRecOn with
  | _ n ih =>
  intro R m hn h
  by_cases h0 : R.length = 0
  · obtain rfl : R = [] := List.length_eq_zero_iff.1 h0
    rw [parseG] at h
    obtain rfl := Option.some.inj h
    simp
  by_cases h4 : R.length < 4
  · rw [parseG_short R h0 h4] at h; cases h
  obtain ⟨p, q, u, v, t, rfl⟩ : ∃ p q u v t, R = p :: q :: u :: v :: t := by
    match R, h4 with
    | p :: q :: u :: v :: t, _ => exact ⟨p, q, u, v, t, rfl⟩
    | [_, _, _], h => exact absurd (by simp) h
    | [_, _], h => exact absurd (by simp) h
    | [_], h => exact absurd (by simp) h
    | [], h => exact absurd (by simp) h
  rw [parseG] at h
  by_cases hs : t.length < leN [u, v]
  · rw [if_pos hs] at h; cases h
  rw [if_neg hs] at h
  obtain ⟨l, hl, rfl⟩ := Option.map_eq_some_iff.1 h
  simp only [List.length_cons] at hn
  obtain ⟨g1, g2⟩ := ih (t.drop (leN [u, v])).length (by rw [List.length_drop]; omega) _ l rfl hl
  have b1 := leN2_lt p q
  have b2 := leN2_lt u v
  have hts : (strN (t.take (leN [u, v]))).size = leN [u, v] := by rw [Cur.strN_size, List.length_take]; omega
  refine ⟨?_, fun x hx => ?_⟩
  · rw [List.flatMap_cons, g1]
    unfold fieldB
    dsimp only
    rw [hts, Int.toNat_natCast, show ofN 2 (leN [p, q]) = [p, q] from ofN_leN [p, q], show ofN 2 (leN [u, v]) = [u, v] from ofN_leN [u, v], Cur.strN_data]
    show p :: q :: u :: v :: (t.take (leN [u, v]) ++ t.drop (leN [u, v])) = _
    rw [List.take_append_drop]
  · rcases List.mem_cons.1 hx with rfl | hx
    · exact ⟨⟨by dsimp only; omega, by dsimp only; omega⟩, by rw [hts]; omega⟩
    · exact g2 x hx
theorem go_ok : ∀ (l : List S38) (acc : List UInt8) (t : ByteArray), acc.length ≤ 65535 → extraGo l acc = (t, 0) → t = strN (acc ++ l.flatMap fieldB) ∧ (∀ x ∈ l, x.f1.size ≤ 65535) ∧ (acc ++ l.flatMap fieldB).length ≤ 65535
  | [], acc, t, ha, h => by
    rw [extraGo] at h
    have := (Prod.mk.inj h).1
    simp [← this, ha]
  | x :: l, acc, t, ha, h => by
    rw [extraGo] at h
    by_cases h1 : 65535 < x.f1.size
    · rw [if_pos h1] at h; have := (Prod.mk.inj h).2; omega
    rw [if_neg h1] at h
    by_cases h2 : 65535 < (acc ++ fieldB x).length
    · rw [if_pos h2] at h; have := (Prod.mk.inj h).2; omega
    rw [if_neg h2] at h
    obtain ⟨g1, g2, g3⟩ := go_ok l (acc ++ fieldB x) t (by omega) h
    rw [List.append_assoc] at g1 g3
    refine ⟨by rw [List.flatMap_cons]; exact g1, fun y hy => ?_, by rw [List.flatMap_cons]; exact g3⟩
    rcases List.mem_cons.1 hy with rfl | hy
    · omega
    · exact g2 y hy
theorem go_mk : ∀ (l : List S38) (acc : List UInt8), (∀ x ∈ l, x.f1.size ≤ 65535) → (acc ++ l.flatMap fieldB).length ≤ 65535 → extraGo l acc = (strN (acc ++ l.flatMap fieldB), 0)
  | [], acc, _, _ => by rw [extraGo]; simp
  | x :: l, acc, hs, hl => by
    rw [List.flatMap_cons, ← List.append_assoc] at hl
    rw [extraGo, if_neg (by have := hs x (by simp); omega), if_neg (by rw [List.length_append] at hl; omega), go_mk l (acc ++ fieldB x) (fun y hy => hs y (by simp [hy])) hl, List.flatMap_cons, List.append_assoc]
/-! Fields without some IDs. -/
theorem index_loop (ids : List Int) (v : Int) (hl : ids.length ≤ 100000) : ∀ d i k, i + d = ids.length → d < k → ∃ r, slices_Index_uint16_uint16.l0 k ids v (ids.length : Int) (i : Int) = some r ∧ (0 ≤ r ↔ v ∈ ids.drop i)
  | 0, i, k, hi, hk => by
    obtain ⟨k, rfl⟩ : ∃ m, k = m + 1 := ⟨k - 1, by omega⟩
    refine ⟨-1, by rw [slices_Index_uint16_uint16.l0, if_neg (by omega)], ?_⟩
    rw [List.drop_of_length_le (by omega)]; simp
  | d + 1, i, k, hi, hk => by
    obtain ⟨k, rfl⟩ : ∃ m, k = m + 1 := ⟨k - 1, by omega⟩
    have hlt : i < ids.length := by omega
    have hrd : rd ids (i : Int) = ids[i] := by unfold rd; rw [Int.toNat_natCast, List.getD_eq_getElem?_getD, List.getElem?_eq_getElem hlt]; rfl
    rw [slices_Index_uint16_uint16.l0, if_pos (by omega), if_pos (by omega), if_pos (by omega), hrd, List.drop_eq_getElem_cons hlt]
    by_cases he : v = ids[i]
    · rw [if_pos he]
      exact ⟨_, rfl, ⟨fun _ => by rw [← he]; exact List.mem_cons_self, fun _ => by omega⟩⟩
    · rw [if_neg he, wrap_id (by omega) (by omega)]
      obtain ⟨r, hr, hiff⟩ := index_loop ids v hl d (i + 1) k (by omega) (by omega)
      exact ⟨r, hr, by rw [hiff, List.mem_cons]; simp [he]⟩
theorem contains_eq (ids : List Int) (v : Int) (hl : ids.length ≤ 100000) (k : Nat) (hk : ids.length < k) : slices_Contains_uint16_uint16.f k ids v = some (decide (v ∈ ids)) := by
  obtain ⟨r, hr, hiff⟩ := index_loop ids v hl ids.length 0 k (by omega) (by omega)
  unfold slices_Contains_uint16_uint16.f slices_Index_uint16_uint16.f
  rw [show ((0 : Nat) : Int) = 0 from rfl] at hr
  rw [hr, Option.bind_some]
  congr 1
  rw [List.drop_zero] at hiff
  by_cases h : v ∈ ids
  · rw [decide_eq_true h, decide_eq_true (hiff.2 h)]
  · rw [decide_eq_false h, decide_eq_false (fun q => h (hiff.1 q))]
def woG (l : List S38) (ids : List Int) : List S38 := l.filter fun x => !decide (x.f0 ∈ ids)
theorem woG_cons (x : S38) (l : List S38) (ids : List Int) : woG (x :: l) ids = if x.f0 ∈ ids then woG l ids else x :: woG l ids := by
  unfold woG
  by_cases h : x.f0 ∈ ids
  · rw [if_pos h, List.filter_cons_of_neg (by simp [h])]
  · rw [if_neg h, List.filter_cons_of_pos (by simp [h])]
theorem without_loop (l : List S38) (ids : List Int) (hl : l.length ≤ 100000) (hi : ids.length ≤ 1000) : ∀ d i k acc, i + d = l.length → d + 2000 < k → acc.length ≤ i → extra_Without.l0 k ids acc l (l.length : Int) (i : Int) = some (acc ++ woG (l.drop i) ids)
  | 0, i, k, acc, he, hk, ha => by
    obtain ⟨k, rfl⟩ : ∃ m, k = m + 1 := ⟨k - 1, by omega⟩
    rw [extra_Without.l0, if_neg (by omega), List.drop_of_length_le (by omega)]
    simp [woG]
  | d + 1, i, k, acc, he, hk, ha => by
    obtain ⟨k, rfl⟩ : ∃ m, k = m + 1 := ⟨k - 1, by omega⟩
    have hlt : i < l.length := by omega
    rw [extra_Without.l0, if_pos (by omega), if_pos (by omega), if_pos (by omega), rdT_get l i hlt, contains_eq ids _ (by omega) k (by omega), Option.bind_some, List.drop_eq_getElem_cons hlt]
    have hw : wrap64 ((i : Int) + 1) = ((i + 1 : Nat) : Int) := by rw [wrap_id (by omega) (by omega)]; omega
    by_cases hm : l[i].f0 ∈ ids
    · rw [decide_eq_true hm, if_pos rfl, hw, without_loop l ids hl hi d (i + 1) k acc (by omega) (by omega) (by omega), woG_cons, if_pos hm]
    · rw [decide_eq_false hm, if_neg (by decide), if_pos (by omega), hw, without_loop l ids hl hi d (i + 1) k _ (by omega) (by omega) (by rw [List.length_append]; simp; omega), woG_cons, if_neg hm, List.append_assoc]
      rfl
theorem without_eq (l : List S38) (ids : List Int) (hl : l.length ≤ 100000) (hi : ids.length ≤ 1000) (k : Nat) (hk : l.length + 2000 < k) : extra_Without.f k l ids = some (woG l ids) := by
  have := without_loop l ids hl hi l.length 0 k [] (by omega) (by omega) (by simp)
  unfold extra_Without.f
  simpa using this
theorem wo_all (l : List S38) (id : Int) (h : ∀ x ∈ l, x.f0 ≠ id) : woG l [id] = l := by
  unfold woG
  rw [List.filter_eq_self]
  intro x hx
  simpa using h x hx
theorem wo_mem (l : List S38) (id : Int) : ∀ x ∈ woG l [id], x.f0 ≠ id := by
  intro x hx
  have := (List.mem_filter.1 hx).2
  simpa using this
/-- What was put: in its place, once. -/
theorem put_shape (l : List S38) (id : Int) (v : ByteArray) (hl : l.length ≤ 60) (k : Nat) (hk : 3000 < k) :
    ∃ A B, extra_Put.f k l id v = some (A ++ ⟨id, v⟩ :: B) ∧ (∀ x ∈ A, x.f0 ≠ id) ∧ (∀ x ∈ B, x.f0 ≠ id) ∧ A.length + B.length ≤ 60 := by
  unfold extra_Put.f extra_place.f
  rw [if_pos (by omega), Option.bind_some]
  unfold placeOf
  cases hf : l.findIdx? (fun x => x.f0 == id) with
  | none =>
    have hno := List.findIdx?_eq_none_iff.1 hf
    dsimp only
    unfold api_Field_34.f
    rw [if_pos (by decide), if_pos (by omega), Option.bind_some, Option.bind_some, if_pos (by simp; omega)]
    exact ⟨l, [], rfl, fun x hx => by simpa using hno x hx, by simp, by simp; omega⟩
  | some j =>
    obtain ⟨hj, hh, hb⟩ := List.findIdx?_eq_some_iff_getElem.1 hf
    dsimp only
    have hw : wrap64 ((j : Int) + 1) = ((j + 1 : Nat) : Int) := by rw [wrap_id (by omega) (by omega)]; omega
    rw [if_neg (by omega), if_pos (by omega), if_pos (by omega), hw, if_pos (by omega), if_pos (by omega), Int.toNat_natCast, Int.toNat_natCast, without_eq (l.drop (j + 1)) [id] (by rw [List.length_drop]; omega) (by simp) k (by rw [List.length_drop]; omega), Option.bind_some]
    have hwl : (woG (l.drop (j + 1)) [id]).length ≤ l.length - (j + 1) := by rw [← List.length_drop]; exact List.length_filter_le _ _
    unfold api_Field_35.f
    rw [if_pos (by simp; omega), Option.bind_some]
    refine ⟨l.take j, woG (l.drop (j + 1)) [id], by simp, fun x hx => ?_, wo_mem _ _, by rw [List.length_take]; omega⟩
    obtain ⟨i, hi, rfl⟩ := List.mem_iff_getElem.1 hx
    rw [List.length_take] at hi
    rw [List.getElem_take]
    simpa using hb i (by omega)
theorem find_shape (A B : List S38) (id : Int) (v : ByteArray) (hA : ∀ x ∈ A, x.f0 ≠ id) (hl : A.length + B.length ≤ 60) : extra_Find.f (A ++ ⟨id, v⟩ :: B) id = some (v, true) := by
  unfold extra_Find.f extra_place.f
  have hlen : (A ++ (⟨id, v⟩ : S38) :: B).length = A.length + B.length + 1 := by simp; omega
  have hg : (A ++ (⟨id, v⟩ : S38) :: B)[A.length]'(by omega) = ⟨id, v⟩ := by simp
  have hp := placeOf_hit (A ++ (⟨id, v⟩ : S38) :: B) id A.length (by omega) (by rw [hg]) (fun j hj => by
    rw [List.getElem_append_left hj]
    exact hA _ (List.getElem_mem hj))
  rw [if_pos (by omega), Option.bind_some, hp, if_neg (by omega), if_pos (by omega), if_pos (by omega), rdT_get _ _ (by omega), hg]
theorem law (s : ByteArray) (l : List S38) (id : Int) (v : ByteArray) (hr : ∀ x ∈ l, 0 ≤ x.f0 ∧ x.f0 < 65536) (k : Nat) (hk : 300000 < k) : portmanteaulaw13_ExtraBack.f k s l id v = some true := by
  unfold portmanteaulaw13_ExtraBack.f
  rw [awake_true k (by omega), Option.bind_some, if_pos rfl]
  obtain ⟨k, rfl⟩ : ∃ m, k = m + 3 := ⟨k - 3, by omega⟩
  by_cases hs : 70000 < s.size
  · rw [if_pos (by omega), portmanteaulaw13_ExtraBack.j0, if_pos rfl]
  rw [if_neg (by omega)]
  obtain ⟨b, hb, hl⟩ := few_eq l (k + 3) (by omega)
  rw [hb, Option.bind_some]
  cases b with
  | false => rw [portmanteaulaw13_ExtraBack.j0, if_pos (by decide : (!false) = true)]
  | true =>
  replace hl := hl rfl
  -- the end: what was put
  have hj2 : portmanteaulaw13_ExtraBack.j2 (k + 1) l false id v = some true := by
    obtain ⟨A, B, hp, hA, hB, hn⟩ := put_shape l id v hl k (by omega)
    have hw : woG (A ++ (⟨id, v⟩ : S38) :: B) [id] = A ++ B := by
      unfold woG
      rw [List.filter_append, List.filter_cons_of_neg (by simp)]
      rw [show A.filter (fun x => !decide (x.f0 ∈ [id])) = A from wo_all A id hA, show B.filter (fun x => !decide (x.f0 ∈ [id])) = B from wo_all B id hB]
    have hlen : (A ++ (⟨id, v⟩ : S38) :: B).length = A.length + B.length + 1 := by simp; omega
    rw [portmanteaulaw13_ExtraBack.j2, if_neg (by decide), hp, Option.bind_some, find_shape A B id v hA hn, Option.bind_some]
    dsimp only
    rw [if_pos rfl, if_pos rfl, without_eq _ [id] (by omega) (by simp) k (by omega), Option.bind_some, hw, hlen, wrap_id (by omega) (by omega), List.length_append]
    simp
  have hj1 : portmanteaulaw13_ExtraBack.j1 (k + 2) s l id v = some true := by
    rw [portmanteaulaw13_ExtraBack.j1, parse_f s (k + 1) (by omega), Option.bind_some]
    by_cases hbig : 65535 < s.size
    · rw [if_pos hbig]
      dsimp only
      rw [show extra_Print.f [] = some (strN [], 0) from rfl, Option.bind_some, if_neg (by decide)]
      exact hj2
    rw [if_neg hbig]
    cases hg : parseG s.data.toList with
    | none =>
      unfold parseR
      dsimp only
      rw [show extra_Print.f [] = some (strN [], 0) from rfl, Option.bind_some, if_neg (by decide)]
      exact hj2
    | some m =>
      obtain ⟨hflat, hm⟩ := parseG_inv _ _ m rfl hg
      unfold parseR
      dsimp only
      rw [List.nil_append]
      have hpr : extra_Print.f m = some (s, 0) := by
        unfold extra_Print.f
        rw [if_pos (fun x hx => (hm x hx).1), go_mk m [] (fun x hx => (hm x hx).2) (by rw [List.nil_append, hflat, toList_length]; omega), List.nil_append, hflat]
        rfl
      rw [hpr, Option.bind_some, if_pos rfl, if_pos rfl, show (s.toList != s.toList) = false by simp]
      exact hj2
  rw [portmanteaulaw13_ExtraBack.j0, if_neg (by decide)]
  obtain ⟨t, e, hte⟩ : ∃ t e, extraGo l [] = (t, e) := ⟨_, _, rfl⟩
  rw [show extra_Print.f l = some (t, e) by unfold extra_Print.f; rw [if_pos hr, hte], Option.bind_some]
  dsimp only
  by_cases he : e = 0
  · subst he
    obtain ⟨ht, hsz, hln⟩ := go_ok l [] t (by simp) hte
    rw [List.nil_append] at ht hln
    have htd : t.data.toList = l.flatMap fieldB := by rw [ht]; rfl
    have hts : t.size ≤ 65535 := by rw [← toList_length, htd]; exact hln
    rw [if_pos rfl, parse_f t (k + 2) (by omega), Option.bind_some, if_neg (show ¬ 65535 < t.size by omega), htd, parseG_flat l hr hsz]
    unfold parseR
    dsimp only
    rw [List.nil_append, if_pos rfl, same_eq l (by omega) (k + 2) (by omega), Option.bind_some, if_pos rfl]
    exact hj1
  · rw [if_neg he]
    exact hj1
end Go.Proofs.Ytdlcihbfdbdbbaa.D13

/- ExtraDoes: what is done to any fields, and told of them, is what the document says: plain Lean. -/
namespace Go.Proofs.Ytdlcihbfdbdbbaa.D13
set_option linter.unusedVariables false
set_option linter.unusedSimpArgs false
open Go Go.RowKit Go.Proofs.Ytdlcihbfdbdbbaa.P Go.Proofs.Ytdlcihbfdbdbbaa.B Go.Proofs.Ytdlcihbfdbdbbaa.Num Go.Proofs.Ytdlcihbfdbdbbaa.Cur Go.Proofs.YtdlcihbfdbdbbaaW.PrintWords Go.Proofs.YtdlcihbfdbdbbaaW.PrintLast Go.Proofs.YtdlcihbfdbdbbaaW.PrintMore
/-! Find. -/
def findG (id : Int) : List S38 → ByteArray × Bool
  | [] => (⟨#[]⟩, false)
  | x :: xs => if x.f0 = id then (x.f1, true) else findG id xs
theorem find_loop (l : List S38) (id : Int) (hl : l.length ≤ 1000) : ∀ d i k, i + d = l.length → d < k → portmanteauref13_Find.l0 k id l (l.length : Int) (i : Int) = some (findG id (l.drop i))
  | 0, i, k, he, hk => by
    obtain ⟨k, rfl⟩ : ∃ m, k = m + 1 := ⟨k - 1, by omega⟩
    rw [portmanteauref13_Find.l0, if_neg (by omega), List.drop_of_length_le (by omega), findG]
  | d + 1, i, k, he, hk => by
    obtain ⟨k, rfl⟩ : ∃ m, k = m + 1 := ⟨k - 1, by omega⟩
    have hlt : i < l.length := by omega
    rw [portmanteauref13_Find.l0, if_pos (by omega), if_pos (by omega), if_pos (by omega), rdT_get l i hlt, List.drop_eq_getElem_cons hlt, findG]
    by_cases h : l[i].f0 = id
    · rw [if_pos h, if_pos h]
    · rw [if_neg h, if_neg h, wrap_id (by omega) (by omega), show (i : Int) + 1 = ((i + 1 : Nat) : Int) by omega]
      exact find_loop l id hl d (i + 1) k (by omega) (by omega)
theorem find_ref (l : List S38) (id : Int) (hl : l.length ≤ 1000) (k : Nat) (hk : 1000 < k) : portmanteauref13_Find.f k l id = some (findG id l) := by
  have := find_loop l id hl l.length 0 k (by omega) (by omega)
  unfold portmanteauref13_Find.f
  simpa using this
theorem findG_none : ∀ (l : List S38) (id : Int), (∀ x ∈ l, x.f0 ≠ id) → findG id l = (⟨#[]⟩, false)
  | [], _, _ => rfl
  | x :: l, id, h => by rw [findG, if_neg (h x (by simp)), findG_none l id (fun y hy => h y (by simp [hy]))]
theorem findG_hit : ∀ (l : List S38) (id : Int) (j : Nat) (hj : j < l.length), l[j].f0 = id → (∀ i (hi : i < j), (l[i]'(by omega)).f0 ≠ id) → findG id l = (l[j].f1, true)
  | x :: l, id, 0, hj, h, _ => by
    have h' : x.f0 = id := h
    rw [findG, if_pos h']; rfl
  | x :: l, id, j + 1, hj, h, hn => by
    have h0 : x.f0 ≠ id := hn 0 (by omega)
    rw [findG, if_neg h0, findG_hit l id j (by simpa using hj) h (fun i hi => hn (i + 1) (by omega))]
    rfl
theorem find_prog (l : List S38) (id : Int) (hl : l.length ≤ 1000) : extra_Find.f l id = some (findG id l) := by
  unfold extra_Find.f extra_place.f
  rw [if_pos (by omega), Option.bind_some]
  unfold placeOf
  cases hf : l.findIdx? (fun x => x.f0 == id) with
  | none =>
    have hno := List.findIdx?_eq_none_iff.1 hf
    rw [findG_none l id (fun x hx => by simpa using hno x hx)]
    dsimp only
    rw [if_pos (by decide)]
  | some j =>
    obtain ⟨hj, hh, hb⟩ := List.findIdx?_eq_some_iff_getElem.1 hf
    rw [findG_hit l id j hj (by simpa using hh) (fun i hi => by simpa using hb i hi)]
    dsimp only
    rw [if_neg (by omega), if_pos (by omega), if_pos (by omega), rdT_get l j hj]
/-! Twice. -/
theorem twice_both (l : List S38) (hl : l.length ≤ 60) : ∀ d i, i + d = l.length → ∀ k, d * 100 + 50 < k → portmanteauref13_Twice.l0 k l (l.length : Int) (i : Int) = some (twG ((l.take i).map fun x => x.f0) (l.drop i))
  | 0, i, he, k, hk => by
    obtain ⟨k, rfl⟩ : ∃ m, k = m + 1 := ⟨k - 1, by omega⟩
    rw [portmanteauref13_Twice.l0, if_neg (by omega), List.drop_of_length_le (by omega), twG]
  | d + 1, i, he, k, hk => by
    obtain ⟨k, rfl⟩ : ∃ m, k = m + 1 := ⟨k - 1, by omega⟩
    have hlt : i < l.length := by omega
    have ih := twice_both l hl d (i + 1) (by omega)
    have inner : ∀ e j (hje : j + e = i), (∀ q (hq : q < j), (l[q]'(by omega)).f0 ≠ l[i].f0) → ∀ k, e + d * 100 + 60 < k → portmanteauref13_Twice.l1 k l (i : Int) (j : Int) (l.length : Int) (i : Int) = some (twG ((l.take i).map fun x => x.f0) (l.drop i)) := by
      intro e
      induction e with
      | zero =>
        intro j hj hn k hk
        obtain ⟨k, rfl⟩ : ∃ m, k = m + 1 := ⟨k - 1, by omega⟩
        obtain rfl : j = i := by omega
        have hnot : ¬ l[j].f0 ∈ (l.take j).map (fun x => x.f0) := by
          intro h
          obtain ⟨x, hx, hxe⟩ := List.mem_map.1 h
          obtain ⟨q, hq, rfl⟩ := List.mem_iff_getElem.1 hx
          rw [List.length_take] at hq
          rw [List.getElem_take] at hxe
          exact hn q (by omega) hxe
        rw [portmanteauref13_Twice.l1, if_neg (by omega), wrap_id (by omega) (by omega), show (j : Int) + 1 = ((j + 1 : Nat) : Int) by omega, ih k (by omega), List.drop_eq_getElem_cons hlt, twG, if_neg hnot, List.take_succ_eq_append_getElem hlt, List.map_append]
        rfl
      | succ e ihe =>
        intro j hj hn k hk
        obtain ⟨k, rfl⟩ : ∃ m, k = m + 1 := ⟨k - 1, by omega⟩
        have hjl : j < l.length := by omega
        rw [portmanteauref13_Twice.l1, if_pos (by omega), if_pos (by omega), if_pos (by omega), if_pos (by omega), if_pos (by omega), rdT_get l j hjl, rdT_get l i hlt]
        by_cases h : l[j].f0 = l[i].f0
        · rw [if_pos h, List.drop_eq_getElem_cons hlt, twG, if_pos (List.mem_map.2 ⟨l[j], List.mem_iff_getElem.2 ⟨j, by rw [List.length_take]; omega, by rw [List.getElem_take]⟩, h⟩)]
        · rw [if_neg h, wrap_id (by omega) (by omega), show (j : Int) + 1 = ((j + 1 : Nat) : Int) by omega]
          exact ihe (j + 1) (by omega) (fun q hq => by
            by_cases e2 : q = j
            · subst e2; exact h
            · exact hn q (by omega)) k (by omega)
    have := inner i 0 (by omega) (fun q hq => absurd hq (Nat.not_lt_zero _)) k (by omega)
    rw [portmanteauref13_Twice.l0, if_pos (by omega)]
    exact this
theorem twice_ref (l : List S38) (hl : l.length ≤ 60) (k : Nat) (hk : 7000 < k) : portmanteauref13_Twice.f k l = some (twG [] l) := by
  have := twice_both l hl l.length 0 (by omega) k (by omega)
  unfold portmanteauref13_Twice.f
  simpa using this
/-! Put. -/
def putR (id : Int) (v : ByteArray) : Bool → List S38 → List S38
  | done, [] => if done = true then [] else [⟨id, v⟩]
  | done, x :: xs => if x.f0 = id then (if done = true then putR id v true xs else ⟨id, v⟩ :: putR id v true xs) else x :: putR id v done xs
theorem put_loop (l : List S38) (id : Int) (v : ByteArray) (hl : l.length ≤ 1000) : ∀ d i k done acc, i + d = l.length → d < k → acc.length ≤ i → portmanteauref13_Put.l0 k acc done l (l.length : Int) (i : Int) id v = some (acc ++ putR id v done (l.drop i))
  | 0, i, k, done, acc, he, hk, ha => by
    obtain ⟨k, rfl⟩ : ∃ m, k = m + 1 := ⟨k - 1, by omega⟩
    rw [portmanteauref13_Put.l0, if_neg (by omega), List.drop_of_length_le (by omega), putR]
    cases done with
    | true => simp
    | false => rw [if_neg (by decide), if_pos (by omega), if_neg (by decide)]
  | d + 1, i, k, done, acc, he, hk, ha => by
    obtain ⟨k, rfl⟩ : ∃ m, k = m + 1 := ⟨k - 1, by omega⟩
    have hlt : i < l.length := by omega
    have hw : wrap64 ((i : Int) + 1) = ((i + 1 : Nat) : Int) := by rw [wrap_id (by omega) (by omega)]; omega
    rw [portmanteauref13_Put.l0, if_pos (by omega), if_pos (by omega), if_pos (by omega), rdT_get l i hlt, List.drop_eq_getElem_cons hlt, putR, hw]
    by_cases h : l[i].f0 = id
    · rw [if_pos h, if_pos h]
      cases done with
      | true => rw [if_pos rfl, if_pos rfl]; exact put_loop l id v hl d (i + 1) k true acc (by omega) (by omega) (by omega)
      | false =>
        rw [if_neg (by decide), if_pos (by omega), if_neg (by decide), put_loop l id v hl d (i + 1) k true _ (by omega) (by omega) (by rw [List.length_append]; simp; omega), List.append_assoc]
        rfl
    · rw [if_neg h, if_neg h, if_pos (by omega), put_loop l id v hl d (i + 1) k done _ (by omega) (by omega) (by rw [List.length_append]; simp; omega), List.append_assoc]
      rfl
theorem put_ref (l : List S38) (id : Int) (v : ByteArray) (hl : l.length ≤ 1000) (k : Nat) (hk : 2000 < k) : portmanteauref13_Put.f k l id v = some (putR id v false l) := by
  have := put_loop l id v hl l.length 0 k false [] (by omega) (by omega) (by simp)
  unfold portmanteauref13_Put.f
  simpa using this
theorem putR_true (id : Int) (v : ByteArray) : ∀ (l : List S38), putR id v true l = woG l [id]
  | [] => by simp [putR, woG]
  | x :: l => by
    rw [putR, woG_cons, putR_true id v l]
    simp
theorem putR_none (id : Int) (v : ByteArray) : ∀ (l : List S38), (∀ x ∈ l, x.f0 ≠ id) → putR id v false l = l ++ [⟨id, v⟩]
  | [], _ => by simp [putR]
  | x :: l, h => by rw [putR, if_neg (h x (by simp)), putR_none id v l (fun y hy => h y (by simp [hy]))]; rfl
theorem putR_hit (id : Int) (v : ByteArray) : ∀ (l : List S38) (j : Nat) (hj : j < l.length), l[j].f0 = id → (∀ i (hi : i < j), (l[i]'(by omega)).f0 ≠ id) → putR id v false l = l.take j ++ ⟨id, v⟩ :: woG (l.drop (j + 1)) [id]
  | x :: l, 0, hj, h, _ => by
    have h' : x.f0 = id := h
    rw [putR, if_pos h', if_neg (by decide), putR_true]; rfl
  | x :: l, j + 1, hj, h, hn => by
    have h0 : x.f0 ≠ id := hn 0 (by omega)
    rw [putR, if_neg h0, putR_hit id v l j (by simpa using hj) h (fun i hi => hn (i + 1) (by omega))]
    rfl
theorem put_prog (l : List S38) (id : Int) (v : ByteArray) (hl : l.length ≤ 60) (k : Nat) (hk : 3000 < k) : extra_Put.f k l id v = some (putR id v false l) := by
  unfold extra_Put.f extra_place.f
  rw [if_pos (by omega), Option.bind_some]
  unfold placeOf
  cases hf : l.findIdx? (fun x => x.f0 == id) with
  | none =>
    have hno := List.findIdx?_eq_none_iff.1 hf
    dsimp only
    unfold api_Field_34.f
    rw [if_pos (by decide), if_pos (by omega), Option.bind_some, Option.bind_some, if_pos (by simp; omega), putR_none id v l (fun x hx => by simpa using hno x hx)]
  | some j =>
    obtain ⟨hj, hh, hb⟩ := List.findIdx?_eq_some_iff_getElem.1 hf
    dsimp only
    have hw : wrap64 ((j : Int) + 1) = ((j + 1 : Nat) : Int) := by rw [wrap_id (by omega) (by omega)]; omega
    rw [if_neg (by omega), if_pos (by omega), if_pos (by omega), hw, if_pos (by omega), if_pos (by omega), Int.toNat_natCast, Int.toNat_natCast, without_eq (l.drop (j + 1)) [id] (by rw [List.length_drop]; omega) (by simp) k (by rw [List.length_drop]; omega), Option.bind_some]
    have hwl : (woG (l.drop (j + 1)) [id]).length ≤ l.length - (j + 1) := by rw [← List.length_drop]; exact List.length_filter_le _ _
    unfold api_Field_35.f
    rw [if_pos (by simp; omega), Option.bind_some, putR_hit id v l j hj (by simpa using hh) (fun i hi => by simpa using hb i hi)]
    simp
theorem putR_len (id : Int) (v : ByteArray) : ∀ (b : Bool) (l : List S38), (putR id v b l).length ≤ l.length + 1
  | b, [] => by cases b <;> simp [putR]
  | b, x :: l => by
    have h1 := putR_len id v true l
    have h2 := putR_len id v b l
    rw [putR]
    split
    · split
      · simp only [List.length_cons]; omega
      · simp only [List.length_cons]
        have h3 : (putR id v true l).length ≤ l.length := by rw [putR_true]; exact List.length_filter_le _ _
        omega
    · simp only [List.length_cons]; omega
/-! Without. -/
theorem wo_both (l : List S38) (ids : List Int) (hl : l.length ≤ 60) (hi : ids.length ≤ 20) : ∀ d i, i + d = l.length → ∀ k acc, d * 100 + 50 < k → acc.length ≤ i → portmanteauref13_Without.l0 k ids acc l (l.length : Int) (i : Int) = some (acc ++ woG (l.drop i) ids)
  | 0, i, he, k, acc, hk, ha => by
    obtain ⟨k, rfl⟩ : ∃ m, k = m + 1 := ⟨k - 1, by omega⟩
    rw [portmanteauref13_Without.l0, if_neg (by omega), List.drop_of_length_le (by omega)]
    simp [woG]
  | d + 1, i, he, k, acc, hk, ha => by
    obtain ⟨k, rfl⟩ : ∃ m, k = m + 1 := ⟨k - 1, by omega⟩
    have hlt : i < l.length := by omega
    have ih := wo_both l ids hl hi d (i + 1) (by omega)
    have inner : ∀ e j b, j + e = ids.length → (b = true ↔ l[i].f0 ∈ ids.take j) → ∀ k, e + d * 100 + 60 < k → portmanteauref13_Without.l1 k ids acc b l (l.length : Int) (i : Int) ids (ids.length : Int) (j : Int) l[i].f0 l[i].f1 = some (acc ++ woG (l.drop i) ids) := by
      intro e
      induction e with
      | zero =>
        intro j b hj hb k hk
        obtain ⟨k, rfl⟩ : ∃ m, k = m + 1 := ⟨k - 1, by omega⟩
        rw [List.take_of_length_le (by omega)] at hb
        have hw : wrap64 ((i : Int) + 1) = ((i + 1 : Nat) : Int) := by rw [wrap_id (by omega) (by omega)]; omega
        rw [portmanteauref13_Without.l1, if_neg (by omega), hw, List.drop_eq_getElem_cons hlt, woG_cons]
        cases b with
        | true => rw [if_pos rfl, if_pos (hb.1 rfl)]; exact ih k acc (by omega) (by omega)
        | false =>
          rw [if_neg (by decide), if_pos (show acc.length < 5864062014805 by omega), ih k _ (by omega) (by rw [List.length_append]; simp; omega), List.append_assoc, if_neg (fun q : l[i].f0 ∈ ids => by have := hb.2 q; cases this)]
          rfl
      | succ e ihe =>
        intro j b hj hb k hk
        obtain ⟨k, rfl⟩ : ∃ m, k = m + 1 := ⟨k - 1, by omega⟩
        have hjl : j < ids.length := by omega
        have hw : wrap64 ((j : Int) + 1) = ((j + 1 : Nat) : Int) := by rw [wrap_id (by omega) (by omega)]; omega
        have hrd : rd ids (j : Int) = ids[j] := by unfold rd; rw [Int.toNat_natCast, List.getD_eq_getElem?_getD, List.getElem?_eq_getElem hjl]; rfl
        rw [portmanteauref13_Without.l1, if_pos (by omega), if_pos (by omega), if_pos (by omega), hw, hrd]
        have hts : ids.take (j + 1) = ids.take j ++ [ids[j]] := List.take_succ_eq_append_getElem hjl
        cases b with
        | true => rw [if_pos rfl]; exact ihe (j + 1) true (by omega) (by rw [hts, List.mem_append]; exact ⟨fun _ => .inl (hb.1 rfl), fun _ => rfl⟩) k (by omega)
        | false =>
          rw [if_neg (by decide)]
          refine ihe (j + 1) _ (by omega) ?_ k (by omega)
          rw [hts, List.mem_append, List.mem_singleton, beq_iff_eq]
          exact ⟨fun h => .inr h.symm, fun h => h.elim (fun q => by have := hb.2 q; cases this) Eq.symm⟩
    have := inner ids.length 0 false (by omega) (by simp) k (by omega)
    rw [portmanteauref13_Without.l0, if_pos (by omega), if_pos (by omega), if_pos (by omega), rdT_get l i hlt]
    exact this
theorem wo_ref (l : List S38) (ids : List Int) (hl : l.length ≤ 60) (hi : ids.length ≤ 20) (k : Nat) (hk : 7000 < k) : portmanteauref13_Without.f k l ids = some (woG l ids) := by
  have := wo_both l ids hl hi l.length 0 (by omega) k [] (by omega) (by simp)
  unfold portmanteauref13_Without.f
  simpa using this
end Go.Proofs.Ytdlcihbfdbdbbaa.D13

/- ExtraDoes: what is done to any fields, and told of them; they stay as they were: the walk through the law's own code, joined with the plain part. Printed by gendoes.py. -/
namespace Go.Proofs.Ytdlcihbfdbdbbaa.Walk
set_option linter.unusedVariables false
set_option linter.unusedSimpArgs false
open Go Go.RowKit Go.Proofs.Ytdlcihbfdbdbbaa.P Go.Proofs.Ytdlcihbfdbdbbaa.B Go.Proofs.Ytdlcihbfdbdbbaa.D13 Go.Proofs.YtdlcihbfdbdbbaaW.PrintWords Go.Proofs.YtdlcihbfdbdbbaaW.PrintLast Go.Proofs.YtdlcihbfdbdbbaaW.PrintMore
theorem put_of (k : Nat) (w0 w : World) (A : Option Addr) (c : Nat) (l : List S38) (id : Int) (v : ByteArray) (p : List S38) (hC : Kd.C k38 w0 A l.length l) (hc : l.length ≤ c) (hb : Below w0.heap.size w0 w) (h : extra_Put.f k l id v = some p) :
    Calls Try.prog 19 #[.slice A l.length c, .agg #[.int .u16 id, .string v]] w fun e w' => ∃ v0_ : Value, e = .returned v0_ ∧ Kd.R k38 38 w' w.heap.size (fun _ => True) v0_ p ∧ Below w.heap.size w w' :=
  (extra_Put.calls k (fun k_ => k_ < w0.heap.size) A c l id v p w (Kd.V_mk hc (Kd.F_below (Kd.C_F k38_heap hC) hb)) h).mono fun e w' ⟨v, he, hr, hb⟩ => ⟨v, he, Kd.R_mono hr (fun _ _ => trivial), hb⟩
set_option maxHeartbeats 16000000 in
set_option maxRecDepth 100000 in
theorem does_few (A : Option Addr) (c : Nat) (l : List S38) (f0 : Int) (f1 : ByteArray) (A1 : Option Addr) (c1 : Nat) (ids : List Int) (id : Int) (w : World) (hC : Kd.C k38 w A l.length l) (hc : l.length ≤ c) (hI : Kd.C (Kd.int .u16) w A1 ids.length ids) (hci : ids.length ≤ c1) (ff : portmanteaulaw13_few.f 2000 l = some false) :
    Calls Try.prog 4 #[.slice A l.length c, .agg #[.int .u16 f0, .string f1], .slice A1 ids.length c1, .int .u16 id] w fun e w' => e = .returned (.bool true) ∧ Below w.heap.size w w' := by
  have FF := Aside0.mk ff
  clear ff
  have HC := Aside0.mk hC
  have HCC := Aside0.mk hc
  have HI := Aside0.mk hI
  have HII := Aside0.mk hci
  have HB0 := Aside0.mk (below_alloc (Below.refl w.heap.size w) (.cells #[.int .u16 f0, .string f1] 38))
  have BK0 := Aside0.mk (heap_alloc_new w (.cells #[.int .u16 f0, .string f1] 38))
  have HA := Aside0.mk (awake_true 2000 (by decide))
  clear hC hc hI hci
  go_enter Try.func4, Try.ntmps4
  go_upto_region 1 with (fail)
  generalize w.alloc (.cells #[.int .u16 f0, .string f1] 38) = wa at HB0 BK0 ⊢
  obtain ⟨gb, hgb⟩ : ∃ g, w.heap.size = g := ⟨_, rfl⟩
  rw [hgb] at BK0 ⊢
  clear hgb
  go_upto_region 3 with (go_at_call 6; (with_reducible refine (portmanteaulaw13_awake.calls 2000 true _ HA.out).mono ?_); rintro e w1 ⟨rfl, hb⟩; have HB1 := Aside0.mk (below_step HB0.out hb); have BK1 := Aside0.mk (blk_below BK0.out hb); clear hb)
  clear HB0 BK0
  go_wp2_with (go_at_call 7; (with_reducible refine (portmanteaulaw13_few.calls 2000 _ _ l false _ (Kd.C_below HC.out HB1.out) HCC.out FF.out).mono ?_); rintro e w2 ⟨rfl, hb⟩; have HB2 := Aside0.mk (below_step HB1.out hb); have BK2 := Aside0.mk (blk_below BK1.out hb); clear hb)
  go_ret
  exact ⟨rfl, HB2.out⟩
set_option maxHeartbeats 16000000 in
set_option maxRecDepth 100000 in
theorem does_many (A : Option Addr) (c : Nat) (l : List S38) (f0 : Int) (f1 : ByteArray) (A1 : Option Addr) (c1 : Nat) (ids : List Int) (id : Int) (w : World) (hC : Kd.C k38 w A l.length l) (hc : l.length ≤ c) (hI : Kd.C (Kd.int .u16) w A1 ids.length ids) (hci : ids.length ≤ c1) (ff : portmanteaulaw13_few.f 2000 l = some true) (hn : 20 < ids.length) :
    Calls Try.prog 4 #[.slice A l.length c, .agg #[.int .u16 f0, .string f1], .slice A1 ids.length c1, .int .u16 id] w fun e w' => e = .returned (.bool true) ∧ Below w.heap.size w w' := by
  have FF := Aside0.mk ff
  have d0 : decide ((20 : Int) < (ids.length : Int)) = true := decide_eq_true (by omega)
  have d1 : decide (20 < ids.length) = true := decide_eq_true hn
  clear ff hn
  have HC := Aside0.mk hC
  have HCC := Aside0.mk hc
  have HI := Aside0.mk hI
  have HII := Aside0.mk hci
  have HB0 := Aside0.mk (below_alloc (Below.refl w.heap.size w) (.cells #[.int .u16 f0, .string f1] 38))
  have BK0 := Aside0.mk (heap_alloc_new w (.cells #[.int .u16 f0, .string f1] 38))
  have HA := Aside0.mk (awake_true 2000 (by decide))
  clear hC hc hI hci
  go_enter Try.func4, Try.ntmps4
  go_upto_region 1 with (fail)
  generalize w.alloc (.cells #[.int .u16 f0, .string f1] 38) = wa at HB0 BK0 ⊢
  obtain ⟨gb, hgb⟩ : ∃ g, w.heap.size = g := ⟨_, rfl⟩
  rw [hgb] at BK0 ⊢
  clear hgb
  go_upto_region 3 with (go_at_call 6; (with_reducible refine (portmanteaulaw13_awake.calls 2000 true _ HA.out).mono ?_); rintro e w1 ⟨rfl, hb⟩; have HB1 := Aside0.mk (below_step HB0.out hb); have BK1 := Aside0.mk (blk_below BK0.out hb); clear hb)
  clear HB0 BK0
  go_wp2_with (go_at_call 7; (with_reducible refine (portmanteaulaw13_few.calls 2000 _ _ l true _ (Kd.C_below HC.out HB1.out) HCC.out FF.out).mono ?_); rintro e w2 ⟨rfl, hb⟩; have HB2 := Aside0.mk (below_step HB1.out hb); have BK2 := Aside0.mk (blk_below BK1.out hb); clear hb)
  go_ret
  exact ⟨rfl, HB2.out⟩
set_option maxHeartbeats 16000000 in
set_option maxRecDepth 100000 in
theorem does_core (A : Option Addr) (c : Nat) (l : List S38) (f0 : Int) (f1 : ByteArray) (A1 : Option Addr) (c1 : Nat) (ids : List Int) (id : Int) (w : World) (hC : Kd.C k38 w A l.length l) (hc : l.length ≤ c) (hI : Kd.C (Kd.int .u16) w A1 ids.length ids) (hci : ids.length ≤ c1) (ff : portmanteaulaw13_few.f 2000 l = some true) (hn : ¬ 20 < ids.length) (hl : l.length ≤ 60) (r1 : ByteArray) (r2 : Bool) (t1 : Int) (t2 : Bool) (x p : List S38)
    (e1 : extra_Find.f l id = some (r1, r2)) (e2 : portmanteauref13_Find.f 8000 l id = some (r1, r2)) (e3 : extra_Twice.f l = some (t1, t2)) (e4 : portmanteauref13_Twice.f 8000 l = some (t1, t2))
    (e5 : extra_Without.f 8000 l ids = some x) (e6 : portmanteauref13_Without.f 8000 l ids = some x) (e7 : extra_Put.f 8000 l f0 f1 = some p) (e8 : portmanteauref13_Put.f 8000 l f0 f1 = some p) (s1 : portmanteauref13_Same.f 8000 x x = some true) (s2 : portmanteauref13_Same.f 8000 p p = some true) (s3 : portmanteauref13_Same.f 8000 l l = some true) :
    Calls Try.prog 4 #[.slice A l.length c, .agg #[.int .u16 f0, .string f1], .slice A1 ids.length c1, .int .u16 id] w fun e w' => e = .returned (.bool true) ∧ Below w.heap.size w w' := by
  have HE1 := Aside0.mk e1
  have HE2 := Aside0.mk e2
  have HE3 := Aside0.mk e3
  have HE4 := Aside0.mk e4
  have HE5 := Aside0.mk e5
  have HE6 := Aside0.mk e6
  have HE7 := Aside0.mk e7
  have HE8 := Aside0.mk e8
  have HS1 := Aside0.mk s1
  have HS2 := Aside0.mk s2
  have HS3 := Aside0.mk s3
  have FF := Aside0.mk ff
  have HLL := Aside0.mk hl
  have d0 : decide ((20 : Int) < (ids.length : Int)) = false := decide_eq_false (by omega)
  have d1 : decide (20 < ids.length) = false := decide_eq_false hn
  clear ff hn e1 e2 e3 e4 e5 e6 e7 e8 s1 s2 s3 hl
  have HC := Aside0.mk hC
  have HCC := Aside0.mk hc
  have HI := Aside0.mk hI
  have HII := Aside0.mk hci
  have HB0 := Aside0.mk (below_alloc (Below.refl w.heap.size w) (.cells #[.int .u16 f0, .string f1] 38))
  have BK0 := Aside0.mk (heap_alloc_new w (.cells #[.int .u16 f0, .string f1] 38))
  have HA := Aside0.mk (awake_true 2000 (by decide))
  clear hC hc hI hci
  go_enter Try.func4, Try.ntmps4
  go_upto_region 1 with (fail)
  generalize w.alloc (.cells #[.int .u16 f0, .string f1] 38) = wa at HB0 BK0 ⊢
  obtain ⟨gb, hgb⟩ : ∃ g, w.heap.size = g := ⟨_, rfl⟩
  rw [hgb] at BK0 ⊢
  clear hgb
  go_upto_region 3 with (go_at_call 6; (with_reducible refine (portmanteaulaw13_awake.calls 2000 true _ HA.out).mono ?_); rintro e w1 ⟨rfl, hb⟩; have HB1 := Aside0.mk (below_step HB0.out hb); have BK1 := Aside0.mk (blk_below BK0.out hb); clear hb)
  clear HB0 BK0
  go_upto_region 5 with (go_at_call 7; (with_reducible refine (portmanteaulaw13_few.calls 2000 _ _ l true _ (Kd.C_below HC.out HB1.out) HCC.out FF.out).mono ?_); rintro e w2 ⟨rfl, hb⟩; have HB2 := Aside0.mk (below_step HB1.out hb); have BK2 := Aside0.mk (blk_below BK1.out hb); clear hb)
  clear d0 d1 HB1 BK1
  obtain ⟨v9, w3, hrun, ho, hg⟩ := app_run (w := w2) (base := w2.heap.size) (v := .slice none 0 0) (l := []) (c := c) ⟨rfl, .inl ⟨rfl, rfl⟩⟩ (Kd.C_below HC.out HB2.out) (by have := HLL.out; simp; omega) (Nat.le_refl _) 22
  have hbg : Below w2.heap.size w2 w3 := (Below.refl _ _).grown hg (Nat.le_refl _) (by intro j hj; simp [Value.ownBlock] at hj)
  have HB3 := Aside0.mk (below_step HB2.out hbg)
  have BK3 := Aside0.mk (blk_below BK2.out hbg)
  rw [List.nil_append] at ho
  obtain ⟨A9, c9, rfl, hc9, hC9⟩ := ho.reads
  have HV := Aside0.mk hC9
  have HVC := Aside0.mk hc9
  clear ho hg hbg hc9 hC9 HB2 BK2
  go_upto_region 6 with (at_builtin; refine Lib.wpList_append_run _ rfl _ _ 22 22 rfl _ _ rfl rfl _ w3 hrun ?_)
  clear hrun
  go_upto_region 7 with (go_at_call 13; (with_reducible refine (extra_Find.calls _ _ l id r1 r2 _ (Kd.C_below HC.out HB3.out) HCC.out HE1.out).mono ?_); rintro e w4 ⟨rfl, hb⟩; have HB4 := Aside0.mk (below_step HB3.out hb); have BK4 := Aside0.mk (blk_below BK3.out hb); have HV4 := Aside0.mk (Kd.C_below HV.out hb); clear hb)
  clear HB3 BK3 HV
  go_upto_region 8 with (go_at_call 14; (with_reducible refine (portmanteauref13_Find.calls 8000 _ _ l id r1 r2 _ (Kd.C_below HC.out HB4.out) HCC.out HE2.out).mono ?_); rintro e w5 ⟨rfl, hb⟩; have HB5 := Aside0.mk (below_step HB4.out hb); have BK5 := Aside0.mk (blk_below BK4.out hb); have HV5 := Aside0.mk (Kd.C_below HV4.out hb); clear hb)
  clear HB4 BK4 HV4
  go_upto_region 9 with (go_at_call 15; (with_reducible refine (extra_Twice.calls _ _ l t1 t2 _ (Kd.C_below HC.out HB5.out) HCC.out HE3.out).mono ?_); rintro e w6 ⟨rfl, hb⟩; have HB6 := Aside0.mk (below_step HB5.out hb); have BK6 := Aside0.mk (blk_below BK5.out hb); have HV6 := Aside0.mk (Kd.C_below HV5.out hb); clear hb)
  clear HB5 BK5 HV5
  go_upto_region 10 with (go_at_call 16; (with_reducible refine (portmanteauref13_Twice.calls 8000 _ _ l t1 t2 _ (Kd.C_below HC.out HB6.out) HCC.out HE4.out).mono ?_); rintro e w7 ⟨rfl, hb⟩; replace hb := hb.below; have HB7 := Aside0.mk (below_step HB6.out hb); have BK7 := Aside0.mk (blk_below BK6.out hb); have HV7 := Aside0.mk (Kd.C_below HV6.out hb); clear hb)
  clear HB6 BK6 HV6
  have HB := HB7; have BK := BK7; have HV := HV7
  clear HB7 BK7 HV7
  go_region_held3 (fun W' => W'.cell? ⟨gb, 0, none⟩ = some (.int .u16 f0) ∧ W'.cell? ⟨gb, 1, none⟩ = some (.string f1)) (exact ⟨blk_cell BK.out 0, blk_cell BK.out 1⟩)
    (first
      | (go_at_call 17; (with_reducible refine (extra_Without.calls 8000 _ _ l _ _ ids x _ (Kd.C_below HC.out (by first | exact HB.out | exact below_drew1 HB.out | exact pw_below_drewN HB.out _)) HCC.out (Kd.C_below HI.out (by first | exact HB.out | exact below_drew1 HB.out | exact pw_below_drewN HB.out _)) HII.out HE5.out).mono ?_); rintro e wz ⟨vz, rfl, ho, hb⟩; obtain ⟨AHX, cHX, rfl, hz1, hz2⟩ := Kd.R_reads ho; clear ho; have BK := Aside0.mk (blk_below (by exact BK.out) hb); (try have HV := Aside0.mk (Kd.C_below (by first | exact HV.out | exact Kd.C_drew HV.out | exact Kd.C_drewN HV.out _) hb)); (try have HX := Aside0.mk (Kd.C_below (by first | exact HX.out | exact Kd.C_drew HX.out | exact Kd.C_drewN HX.out _) hb)); (try have HY := Aside0.mk (Kd.C_below (by first | exact HY.out | exact Kd.C_drew HY.out | exact Kd.C_drewN HY.out _) hb)); (try have HP := Aside0.mk (Kd.C_below (by first | exact HP.out | exact Kd.C_drew HP.out | exact Kd.C_drewN HP.out _) hb)); (try have HQ := Aside0.mk (Kd.C_below (by first | exact HQ.out | exact Kd.C_drew HQ.out | exact Kd.C_drewN HQ.out _) hb)); have HB := Aside0.mk (below_step (by first | exact HB.out | exact below_drew1 HB.out | exact pw_below_drewN HB.out _) hb); clear hb; have HX := Aside0.mk hz2; have HXC := Aside0.mk hz1; clear hz1 hz2)
      | (go_at_call 18; (with_reducible refine (portmanteauref13_Without.calls 8000 _ _ l _ _ ids x _ (Kd.C_below HC.out (by first | exact HB.out | exact below_drew1 HB.out | exact pw_below_drewN HB.out _)) HCC.out (Kd.C_below HI.out (by first | exact HB.out | exact below_drew1 HB.out | exact pw_below_drewN HB.out _)) HII.out HE6.out).mono ?_); rintro e wz ⟨vz, rfl, ho, hb⟩; obtain ⟨AHY, cHY, rfl, hz1, hz2⟩ := Kd.R_reads ho; clear ho; have BK := Aside0.mk (blk_below (by exact BK.out) hb); (try have HV := Aside0.mk (Kd.C_below (by first | exact HV.out | exact Kd.C_drew HV.out | exact Kd.C_drewN HV.out _) hb)); (try have HX := Aside0.mk (Kd.C_below (by first | exact HX.out | exact Kd.C_drew HX.out | exact Kd.C_drewN HX.out _) hb)); (try have HY := Aside0.mk (Kd.C_below (by first | exact HY.out | exact Kd.C_drew HY.out | exact Kd.C_drewN HY.out _) hb)); (try have HP := Aside0.mk (Kd.C_below (by first | exact HP.out | exact Kd.C_drew HP.out | exact Kd.C_drewN HP.out _) hb)); (try have HQ := Aside0.mk (Kd.C_below (by first | exact HQ.out | exact Kd.C_drew HQ.out | exact Kd.C_drewN HQ.out _) hb)); have HB := Aside0.mk (below_step (by first | exact HB.out | exact below_drew1 HB.out | exact pw_below_drewN HB.out _) hb); clear hb; have HY := Aside0.mk hz2; have HYC := Aside0.mk hz1; clear hz1 hz2)
      | (go_at_call 19; (with_reducible refine (put_of 8000 w _ _ _ l f0 f1 p HC.out HCC.out (by first | exact HB.out | exact below_drew1 HB.out | exact pw_below_drewN HB.out _) HE7.out).mono ?_); rintro e wz ⟨vz, rfl, ho, hb⟩; obtain ⟨AHP, cHP, rfl, hz1, hz2⟩ := Kd.R_reads ho; clear ho; have BK := Aside0.mk (blk_below (by exact BK.out) hb); (try have HV := Aside0.mk (Kd.C_below (by first | exact HV.out | exact Kd.C_drew HV.out | exact Kd.C_drewN HV.out _) hb)); (try have HX := Aside0.mk (Kd.C_below (by first | exact HX.out | exact Kd.C_drew HX.out | exact Kd.C_drewN HX.out _) hb)); (try have HY := Aside0.mk (Kd.C_below (by first | exact HY.out | exact Kd.C_drew HY.out | exact Kd.C_drewN HY.out _) hb)); (try have HP := Aside0.mk (Kd.C_below (by first | exact HP.out | exact Kd.C_drew HP.out | exact Kd.C_drewN HP.out _) hb)); (try have HQ := Aside0.mk (Kd.C_below (by first | exact HQ.out | exact Kd.C_drew HQ.out | exact Kd.C_drewN HQ.out _) hb)); have HB := Aside0.mk (below_step (by first | exact HB.out | exact below_drew1 HB.out | exact pw_below_drewN HB.out _) hb); clear hb; have HP := Aside0.mk hz2; have HPC := Aside0.mk hz1; clear hz1 hz2)
      | (go_at_call 20; (with_reducible refine (portmanteauref13_Put.calls 8000 _ _ l f0 f1 p _ (Kd.C_below HC.out (by first | exact HB.out | exact below_drew1 HB.out | exact pw_below_drewN HB.out _)) HCC.out HE8.out).mono ?_); rintro e wz ⟨vz, rfl, ho, hb⟩; obtain ⟨AHQ, cHQ, rfl, hz1, hz2⟩ := Kd.R_reads ho; clear ho; have BK := Aside0.mk (blk_below (by exact BK.out) hb); (try have HV := Aside0.mk (Kd.C_below (by first | exact HV.out | exact Kd.C_drew HV.out | exact Kd.C_drewN HV.out _) hb)); (try have HX := Aside0.mk (Kd.C_below (by first | exact HX.out | exact Kd.C_drew HX.out | exact Kd.C_drewN HX.out _) hb)); (try have HY := Aside0.mk (Kd.C_below (by first | exact HY.out | exact Kd.C_drew HY.out | exact Kd.C_drewN HY.out _) hb)); (try have HP := Aside0.mk (Kd.C_below (by first | exact HP.out | exact Kd.C_drew HP.out | exact Kd.C_drewN HP.out _) hb)); (try have HQ := Aside0.mk (Kd.C_below (by first | exact HQ.out | exact Kd.C_drew HQ.out | exact Kd.C_drewN HQ.out _) hb)); have HB := Aside0.mk (below_step (by first | exact HB.out | exact below_drew1 HB.out | exact pw_below_drewN HB.out _) hb); clear hb; have HQ := Aside0.mk hz2; have HQC := Aside0.mk hz1; clear hz1 hz2)
      | (go_at_call 12; (with_reducible refine (portmanteauref13_Same.calls 8000 _ _ x _ _ x true _ (by first | exact HX.out | exact Kd.C_drew HX.out | exact Kd.C_drewN HX.out _) HXC.out (by first | exact HY.out | exact Kd.C_drew HY.out | exact Kd.C_drewN HY.out _) HYC.out HS1.out).mono ?_); rintro e wz ⟨rfl, hb⟩; replace hb := hb.below; have BK := Aside0.mk (blk_below (by exact BK.out) hb); (try have HV := Aside0.mk (Kd.C_below (by first | exact HV.out | exact Kd.C_drew HV.out | exact Kd.C_drewN HV.out _) hb)); (try have HX := Aside0.mk (Kd.C_below (by first | exact HX.out | exact Kd.C_drew HX.out | exact Kd.C_drewN HX.out _) hb)); (try have HY := Aside0.mk (Kd.C_below (by first | exact HY.out | exact Kd.C_drew HY.out | exact Kd.C_drewN HY.out _) hb)); (try have HP := Aside0.mk (Kd.C_below (by first | exact HP.out | exact Kd.C_drew HP.out | exact Kd.C_drewN HP.out _) hb)); (try have HQ := Aside0.mk (Kd.C_below (by first | exact HQ.out | exact Kd.C_drew HQ.out | exact Kd.C_drewN HQ.out _) hb)); have HB := Aside0.mk (below_step (by first | exact HB.out | exact below_drew1 HB.out | exact pw_below_drewN HB.out _) hb); clear hb)
      | (go_at_call 12; (with_reducible refine (portmanteauref13_Same.calls 8000 _ _ p _ _ p true _ (by first | exact HP.out | exact Kd.C_drew HP.out | exact Kd.C_drewN HP.out _) HPC.out (by first | exact HQ.out | exact Kd.C_drew HQ.out | exact Kd.C_drewN HQ.out _) HQC.out HS2.out).mono ?_); rintro e wz ⟨rfl, hb⟩; replace hb := hb.below; have BK := Aside0.mk (blk_below (by exact BK.out) hb); (try have HV := Aside0.mk (Kd.C_below (by first | exact HV.out | exact Kd.C_drew HV.out | exact Kd.C_drewN HV.out _) hb)); (try have HX := Aside0.mk (Kd.C_below (by first | exact HX.out | exact Kd.C_drew HX.out | exact Kd.C_drewN HX.out _) hb)); (try have HY := Aside0.mk (Kd.C_below (by first | exact HY.out | exact Kd.C_drew HY.out | exact Kd.C_drewN HY.out _) hb)); (try have HP := Aside0.mk (Kd.C_below (by first | exact HP.out | exact Kd.C_drew HP.out | exact Kd.C_drewN HP.out _) hb)); (try have HQ := Aside0.mk (Kd.C_below (by first | exact HQ.out | exact Kd.C_drew HQ.out | exact Kd.C_drewN HQ.out _) hb)); have HB := Aside0.mk (below_step (by first | exact HB.out | exact below_drew1 HB.out | exact pw_below_drewN HB.out _) hb); clear hb)
      | (go_at_call 12; (with_reducible refine (portmanteauref13_Same.calls 8000 _ _ l _ _ l true _ (Kd.C_below HC.out (by first | exact HB.out | exact below_drew1 HB.out | exact pw_below_drewN HB.out _)) HCC.out (by first | exact HV.out | exact Kd.C_drew HV.out | exact Kd.C_drewN HV.out _) HVC.out HS3.out).mono ?_); rintro e wz ⟨rfl, hb⟩; replace hb := hb.below; have BK := Aside0.mk (blk_below (by exact BK.out) hb); (try have HV := Aside0.mk (Kd.C_below (by first | exact HV.out | exact Kd.C_drew HV.out | exact Kd.C_drewN HV.out _) hb)); (try have HX := Aside0.mk (Kd.C_below (by first | exact HX.out | exact Kd.C_drew HX.out | exact Kd.C_drewN HX.out _) hb)); (try have HY := Aside0.mk (Kd.C_below (by first | exact HY.out | exact Kd.C_drew HY.out | exact Kd.C_drewN HY.out _) hb)); (try have HP := Aside0.mk (Kd.C_below (by first | exact HP.out | exact Kd.C_drew HP.out | exact Kd.C_drewN HP.out _) hb)); (try have HQ := Aside0.mk (Kd.C_below (by first | exact HQ.out | exact Kd.C_drew HQ.out | exact Kd.C_drewN HQ.out _) hb)); have HB := Aside0.mk (below_step (by first | exact HB.out | exact below_drew1 HB.out | exact pw_below_drewN HB.out _) hb); clear hb))
  all_goals (go_wp2_with (fail); go_ret; exact ⟨rfl, HB.out⟩)
theorem ExtraDoes (A : Option Addr) (c : Nat) (l : List S38) (f : S38) (cs : Array Value) (A1 : Option Addr) (c1 : Nat) (ids : List Int) (id : Int) (w : World) (hl : l.length ≤ c) (hC : Kd.C k38 w A l.length l)
    (hok : ∀ x_ ∈ l, ((Lit.int .u16 x_.f0).wf = true) ∧ (x_.f1.size ≤ maxLen)) (hz : l.length * 24 ≤ 140737488351232) (hK : k38.K w f cs.toList) (hokf : ((Lit.int .u16 f.f0).wf = true) ∧ (f.f1.size ≤ maxLen))
    (hli : ids.length ≤ c1) (hI : Kd.C (Kd.int .u16) w A1 ids.length ids) (hoki : ∀ x_ ∈ ids, (Lit.int .u16 x_).wf = true) (hzi : ids.length * 2 ≤ 140737488351232) (hid : (Lit.int .u16 id).wf = true) :
    Calls Try.prog 4 #[.slice A l.length c, .agg cs, .slice A1 ids.length c1, .int .u16 id] w fun e w' => e = .returned (.bool true) ∧ Below w.heap.size w w' := by
  have hcs := k38_open hK
  obtain rfl : cs = #[.int .u16 f.f0, .string f.f1] := Array.toList_inj.1 (by rw [hcs])
  obtain ⟨b, hb, hfew⟩ := few_eq l 2000 (by omega)
  cases b with
  | false => exact does_few A c l f.f0 f.f1 A1 c1 ids id w hC hl hI hli hb
  | true =>
    have hl60 := hfew rfl
    by_cases hn : 20 < ids.length
    · exact does_many A c l f.f0 f.f1 A1 c1 ids id w hC hl hI hli hb hn
    have hr : ∀ x ∈ l, 0 ≤ x.f0 ∧ x.f0 ≤ 65535 := fun x hx => wf_u16 (hok x hx).1
    have htw : extra_Twice.f l = some ((twG [] l).1, (twG [] l).2) := by
      unfold extra_Twice.f
      rw [if_pos ⟨by omega, List.all_eq_true.2 fun x hx => by simpa using hr x hx⟩]
    have hwl : (woG l ids).length ≤ l.length := List.length_filter_le _ _
    have hpl := putR_len f.f0 f.f1 false l
    exact does_core A c l f.f0 f.f1 A1 c1 ids id w hC hl hI hli hb hn hl60 (findG id l).1 (findG id l).2 (twG [] l).1 (twG [] l).2 (woG l ids) (putR f.f0 f.f1 false l)
      (find_prog l id (by omega)) (find_ref l id (by omega) 8000 (by omega)) htw (twice_ref l hl60 8000 (by omega)) (without_eq l ids (by omega) (by omega) 8000 (by omega)) (wo_ref l ids hl60 (by omega) 8000 (by omega))
      (put_prog l f.f0 f.f1 hl60 8000 (by omega)) (put_ref l f.f0 f.f1 (by omega) 8000 (by omega)) (same_eq _ (by omega) 8000 (by omega)) (same_eq _ (by omega) 8000 (by omega)) (same_eq _ (by omega) 8000 (by omega))
end Go.Proofs.Ytdlcihbfdbdbbaa.Walk
