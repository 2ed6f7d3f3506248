/- ExtraBack: what is printed is parsed as it was; what is parsed is printed so; what was put is found, once: plain Lean. -/
import Derived.Test.YtdlcihbfdbdbbaaPlainParse13
import Derived.Test.YtdlcihbfdbdbbaaPx11
import Derived.Test.YtdlcihbfdbdbbaaPx12
import Derived.Test.YtdlcihbfdbdbbaaPx4
import Derived.Test.YtdlcihbfdbdbbaaPx5
import Derived.Test.YtdlcihbfdbdbbaaPx7
import Derived.Test.YtdlcihbfdbdbbaaPx8
import Derived.Test.YtdlcihbfdbdbbaaPx9
namespace Go.Proofs.Ytdlcihbfdbdbbaa.D13
set_option linter.unusedVariables false
set_option linter.unusedSimpArgs false
open Go Go.RowKit Go.Proofs.Ytdlcihbfdbdbbaa.P Go.Proofs.Ytdlcihbfdbdbbaa.B Go.Proofs.Ytdlcihbfdbdbbaa.Num Go.Proofs.Ytdlcihbfdbdbbaa.Cur Go.Proofs.YtdlcihbfdbdbbaaW.PrintWords Go.Proofs.YtdlcihbfdbdbbaaW.PrintLast Go.Proofs.YtdlcihbfdbdbbaaW.PrintMore
theorem parse_f (s : ByteArray) (k : Nat) (hk : 200000 < k) : extra_Parse.f k s = some (if 65535 < s.size then ([], 5) else parseR [] (parseG s.data.toList)) := by
  unfold extra_Parse.f cursor_Over.f
  by_cases hb : 65535 < s.size
  · rw [if_pos (by omega), if_pos hb]
  · rw [if_neg (by omega), if_neg hb, Option.bind_some]
    dsimp only
    exact parse_go s _ s.data.toList rfl 0 [] k (At.start s (by omega)) (by rw [toList_length]; simp; omega) (by rw [toList_length]; omega)
theorem ofN2 (n : Nat) : ofN 2 n = [UInt8.ofNat (n % 256), UInt8.ofNat (n / 256 % 256)] := rfl
theorem ofN_leN : ∀ (l : List UInt8), ofN l.length (leN l) = l
  | [] => rfl
  | x :: l => by
    have hx := x.toNat_lt
    rw [List.length_cons, ofN, leN, show (x.toNat + 256 * leN l) % 256 = x.toNat by omega, show (x.toNat + 256 * leN l) / 256 = leN l by omega, ofN_leN l]
    simp
theorem leN2_lt (p q : UInt8) : leN [p, q] < 65536 := by
  have h := leN_lt [p, q]
  rw [show ([p, q] : List UInt8).length = 2 from rfl] at h
  omega
theorem parseG_flat : ∀ (l : List S38), (∀ x ∈ l, 0 ≤ x.f0 ∧ x.f0 < 65536) → (∀ x ∈ l, x.f1.size ≤ 65535) → parseG (l.flatMap fieldB) = some l
  | [], _, _ => by simp [parseG]
  | x :: l, hr, hs => by
    have ih := parseG_flat l (fun y hy => hr y (by simp [hy])) (fun y hy => hs y (by simp [hy]))
    have h1 := hr x (by simp)
    have h2 := hs x (by simp)
    have e1 : leN [UInt8.ofNat (x.f0.toNat % 256), UInt8.ofNat (x.f0.toNat / 256 % 256)] = x.f0.toNat := by rw [← ofN2, leN_ofN]; omega
    have e2 : leN [UInt8.ofNat (x.f1.size % 256), UInt8.ofNat (x.f1.size / 256 % 256)] = x.f1.size := by rw [← ofN2, leN_ofN]; omega
    have hl : x.f1.data.toList.length = x.f1.size := toList_length _
    rw [List.flatMap_cons, fieldB, ofN2, ofN2]
    show parseG (_ :: _ :: _ :: _ :: (x.f1.data.toList ++ l.flatMap fieldB)) = _
    rw [parseG, e2, e1, if_neg (by rw [List.length_append]; omega), ← hl, List.drop_left, List.take_left, ih, Option.map_some]
    obtain ⟨a, b⟩ := x
    congr 2
    show (⟨((a.toNat : Nat) : Int), strN b.data.toList⟩ : S38) = ⟨a, b⟩
    have h0 : 0 ≤ a := h1.1
    rw [show ((a.toNat : Nat) : Int) = a by omega]
    rfl
theorem parseG_inv : ∀ (n : Nat) (R : List UInt8) (m : List S38), R.length = n → parseG R = some m → m.flatMap fieldB = R ∧ ∀ x ∈ m, (0 ≤ x.f0 ∧ x.f0 < 65536) ∧ x.f1.size ≤ 65535 := by
  intro n
  induction n using Nat.strongRecOn with
  | _ n ih =>
  intro R m hn h
  by_cases h0 : R.length = 0
  · obtain rfl : R = [] := List.length_eq_zero_iff.1 h0
    rw [parseG] at h
    obtain rfl := Option.some.inj h
    simp
  by_cases h4 : R.length < 4
  · rw [parseG_short R h0 h4] at h; cases h
  obtain ⟨p, q, u, v, t, rfl⟩ : ∃ p q u v t, R = p :: q :: u :: v :: t := by
    match R, h4 with
    | p :: q :: u :: v :: t, _ => exact ⟨p, q, u, v, t, rfl⟩
    | [_, _, _], h => exact absurd (by simp) h
    | [_, _], h => exact absurd (by simp) h
    | [_], h => exact absurd (by simp) h
    | [], h => exact absurd (by simp) h
  rw [parseG] at h
  by_cases hs : t.length < leN [u, v]
  · rw [if_pos hs] at h; cases h
  rw [if_neg hs] at h
  obtain ⟨l, hl, rfl⟩ := Option.map_eq_some_iff.1 h
  simp only [List.length_cons] at hn
  obtain ⟨g1, g2⟩ := ih (t.drop (leN [u, v])).length (by rw [List.length_drop]; omega) _ l rfl hl
  have b1 := leN2_lt p q
  have b2 := leN2_lt u v
  have hts : (strN (t.take (leN [u, v]))).size = leN [u, v] := by rw [Cur.strN_size, List.length_take]; omega
  refine ⟨?_, fun x hx => ?_⟩
  · rw [List.flatMap_cons, g1]
    unfold fieldB
    dsimp only
    rw [hts, Int.toNat_natCast, show ofN 2 (leN [p, q]) = [p, q] from ofN_leN [p, q], show ofN 2 (leN [u, v]) = [u, v] from ofN_leN [u, v], Cur.strN_data]
    show p :: q :: u :: v :: (t.take (leN [u, v]) ++ t.drop (leN [u, v])) = _
    rw [List.take_append_drop]
  · rcases List.mem_cons.1 hx with rfl | hx
    · exact ⟨⟨by dsimp only; omega, by dsimp only; omega⟩, by rw [hts]; omega⟩
    · exact g2 x hx
theorem go_ok : ∀ (l : List S38) (acc : List UInt8) (t : ByteArray), acc.length ≤ 65535 → extraGo l acc = (t, 0) → t = strN (acc ++ l.flatMap fieldB) ∧ (∀ x ∈ l, x.f1.size ≤ 65535) ∧ (acc ++ l.flatMap fieldB).length ≤ 65535
  | [], acc, t, ha, h => by
    rw [extraGo] at h
    have := (Prod.mk.inj h).1
    simp [← this, ha]
  | x :: l, acc, t, ha, h => by
    rw [extraGo] at h
    by_cases h1 : 65535 < x.f1.size
    · rw [if_pos h1] at h; have := (Prod.mk.inj h).2; omega
    rw [if_neg h1] at h
    by_cases h2 : 65535 < (acc ++ fieldB x).length
    · rw [if_pos h2] at h; have := (Prod.mk.inj h).2; omega
    rw [if_neg h2] at h
    obtain ⟨g1, g2, g3⟩ := go_ok l (acc ++ fieldB x) t (by omega) h
    rw [List.append_assoc] at g1 g3
    refine ⟨by rw [List.flatMap_cons]; exact g1, fun y hy => ?_, by rw [List.flatMap_cons]; exact g3⟩
    rcases List.mem_cons.1 hy with rfl | hy
    · omega
    · exact g2 y hy
theorem go_mk : ∀ (l : List S38) (acc : List UInt8), (∀ x ∈ l, x.f1.size ≤ 65535) → (acc ++ l.flatMap fieldB).length ≤ 65535 → extraGo l acc = (strN (acc ++ l.flatMap fieldB), 0)
  | [], acc, _, _ => by rw [extraGo]; simp
  | x :: l, acc, hs, hl => by
    rw [List.flatMap_cons, ← List.append_assoc] at hl
    rw [extraGo, if_neg (by have := hs x (by simp); omega), if_neg (by rw [List.length_append] at hl; omega), go_mk l (acc ++ fieldB x) (fun y hy => hs y (by simp [hy])) hl, List.flatMap_cons, List.append_assoc]
/-! Fields without some IDs. -/
theorem index_loop (ids : List Int) (v : Int) (hl : ids.length ≤ 100000) : ∀ d i k, i + d = ids.length → d < k → ∃ r, slices_Index_uint16_uint16.l0 k ids v (ids.length : Int) (i : Int) = some r ∧ (0 ≤ r ↔ v ∈ ids.drop i)
  | 0, i, k, hi, hk => by
    obtain ⟨k, rfl⟩ : ∃ m, k = m + 1 := ⟨k - 1, by omega⟩
    refine ⟨-1, by rw [slices_Index_uint16_uint16.l0, if_neg (by omega)], ?_⟩
    rw [List.drop_of_length_le (by omega)]; simp
  | d + 1, i, k, hi, hk => by
    obtain ⟨k, rfl⟩ : ∃ m, k = m + 1 := ⟨k - 1, by omega⟩
    have hlt : i < ids.length := by omega
    have hrd : rd ids (i : Int) = ids[i] := by unfold rd; rw [Int.toNat_natCast, List.getD_eq_getElem?_getD, List.getElem?_eq_getElem hlt]; rfl
    rw [slices_Index_uint16_uint16.l0, if_pos (by omega), if_pos (by omega), if_pos (by omega), hrd, List.drop_eq_getElem_cons hlt]
    by_cases he : v = ids[i]
    · rw [if_pos he]
      exact ⟨_, rfl, ⟨fun _ => by rw [← he]; exact List.mem_cons_self, fun _ => by omega⟩⟩
    · rw [if_neg he, wrap_id (by omega) (by omega)]
      obtain ⟨r, hr, hiff⟩ := index_loop ids v hl d (i + 1) k (by omega) (by omega)
      exact ⟨r, hr, by rw [hiff, List.mem_cons]; simp [he]⟩
theorem contains_eq (ids : List Int) (v : Int) (hl : ids.length ≤ 100000) (k : Nat) (hk : ids.length < k) : slices_Contains_uint16_uint16.f k ids v = some (decide (v ∈ ids)) := by
  obtain ⟨r, hr, hiff⟩ := index_loop ids v hl ids.length 0 k (by omega) (by omega)
  unfold slices_Contains_uint16_uint16.f slices_Index_uint16_uint16.f
  rw [show ((0 : Nat) : Int) = 0 from rfl] at hr
  rw [hr, Option.bind_some]
  congr 1
  rw [List.drop_zero] at hiff
  by_cases h : v ∈ ids
  · rw [decide_eq_true h, decide_eq_true (hiff.2 h)]
  · rw [decide_eq_false h, decide_eq_false (fun q => h (hiff.1 q))]
def woG (l : List S38) (ids : List Int) : List S38 := l.filter fun x => !decide (x.f0 ∈ ids)
theorem woG_cons (x : S38) (l : List S38) (ids : List Int) : woG (x :: l) ids = if x.f0 ∈ ids then woG l ids else x :: woG l ids := by
  unfold woG
  by_cases h : x.f0 ∈ ids
  · rw [if_pos h, List.filter_cons_of_neg (by simp [h])]
  · rw [if_neg h, List.filter_cons_of_pos (by simp [h])]
theorem without_loop (l : List S38) (ids : List Int) (hl : l.length ≤ 100000) (hi : ids.length ≤ 1000) : ∀ d i k acc, i + d = l.length → d + 2000 < k → acc.length ≤ i → extra_Without.l0 k ids acc l (l.length : Int) (i : Int) = some (acc ++ woG (l.drop i) ids)
  | 0, i, k, acc, he, hk, ha => by
    obtain ⟨k, rfl⟩ : ∃ m, k = m + 1 := ⟨k - 1, by omega⟩
    rw [extra_Without.l0, if_neg (by omega), List.drop_of_length_le (by omega)]
    simp [woG]
  | d + 1, i, k, acc, he, hk, ha => by
    obtain ⟨k, rfl⟩ : ∃ m, k = m + 1 := ⟨k - 1, by omega⟩
    have hlt : i < l.length := by omega
    rw [extra_Without.l0, if_pos (by omega), if_pos (by omega), if_pos (by omega), rdT_get l i hlt, contains_eq ids _ (by omega) k (by omega), Option.bind_some, List.drop_eq_getElem_cons hlt]
    have hw : wrap64 ((i : Int) + 1) = ((i + 1 : Nat) : Int) := by rw [wrap_id (by omega) (by omega)]; omega
    by_cases hm : l[i].f0 ∈ ids
    · rw [decide_eq_true hm, if_pos rfl, hw, without_loop l ids hl hi d (i + 1) k acc (by omega) (by omega) (by omega), woG_cons, if_pos hm]
    · rw [decide_eq_false hm, if_neg (by decide), if_pos (by omega), hw, without_loop l ids hl hi d (i + 1) k _ (by omega) (by omega) (by rw [List.length_append]; simp; omega), woG_cons, if_neg hm, List.append_assoc]
      rfl
theorem without_eq (l : List S38) (ids : List Int) (hl : l.length ≤ 100000) (hi : ids.length ≤ 1000) (k : Nat) (hk : l.length + 2000 < k) : extra_Without.f k l ids = some (woG l ids) := by
  have := without_loop l ids hl hi l.length 0 k [] (by omega) (by omega) (by simp)
  unfold extra_Without.f
  simpa using this
theorem wo_all (l : List S38) (id : Int) (h : ∀ x ∈ l, x.f0 ≠ id) : woG l [id] = l := by
  unfold woG
  rw [List.filter_eq_self]
  intro x hx
  simpa using h x hx
theorem wo_mem (l : List S38) (id : Int) : ∀ x ∈ woG l [id], x.f0 ≠ id := by
  intro x hx
  have := (List.mem_filter.1 hx).2
  simpa using this
/-- What was put: in its place, once. -/
theorem put_shape (l : List S38) (id : Int) (v : ByteArray) (hl : l.length ≤ 60) (k : Nat) (hk : 3000 < k) :
    ∃ A B, extra_Put.f k l id v = some (A ++ ⟨id, v⟩ :: B) ∧ (∀ x ∈ A, x.f0 ≠ id) ∧ (∀ x ∈ B, x.f0 ≠ id) ∧ A.length + B.length ≤ 60 := by
  unfold extra_Put.f extra_place.f
  rw [if_pos (by omega), Option.bind_some]
  unfold placeOf
  cases hf : l.findIdx? (fun x => x.f0 == id) with
  | none =>
    have hno := List.findIdx?_eq_none_iff.1 hf
    dsimp only
    unfold api_Field_34.f
    rw [if_pos (by decide), if_pos (by omega), Option.bind_some, Option.bind_some, if_pos (by simp; omega)]
    exact ⟨l, [], rfl, fun x hx => by simpa using hno x hx, by simp, by simp; omega⟩
  | some j =>
    obtain ⟨hj, hh, hb⟩ := List.findIdx?_eq_some_iff_getElem.1 hf
    dsimp only
    have hw : wrap64 ((j : Int) + 1) = ((j + 1 : Nat) : Int) := by rw [wrap_id (by omega) (by omega)]; omega
    rw [if_neg (by omega), if_pos (by omega), if_pos (by omega), hw, if_pos (by omega), if_pos (by omega), Int.toNat_natCast, Int.toNat_natCast, without_eq (l.drop (j + 1)) [id] (by rw [List.length_drop]; omega) (by simp) k (by rw [List.length_drop]; omega), Option.bind_some]
    have hwl : (woG (l.drop (j + 1)) [id]).length ≤ l.length - (j + 1) := by rw [← List.length_drop]; exact List.length_filter_le _ _
    unfold api_Field_35.f
    rw [if_pos (by simp; omega), Option.bind_some]
    refine ⟨l.take j, woG (l.drop (j + 1)) [id], by simp, fun x hx => ?_, wo_mem _ _, by rw [List.length_take]; omega⟩
    obtain ⟨i, hi, rfl⟩ := List.mem_iff_getElem.1 hx
    rw [List.length_take] at hi
    rw [List.getElem_take]
    simpa using hb i (by omega)
theorem find_shape (A B : List S38) (id : Int) (v : ByteArray) (hA : ∀ x ∈ A, x.f0 ≠ id) (hl : A.length + B.length ≤ 60) : extra_Find.f (A ++ ⟨id, v⟩ :: B) id = some (v, true) := by
  unfold extra_Find.f extra_place.f
  have hlen : (A ++ (⟨id, v⟩ : S38) :: B).length = A.length + B.length + 1 := by simp; omega
  have hg : (A ++ (⟨id, v⟩ : S38) :: B)[A.length]'(by omega) = ⟨id, v⟩ := by simp
  have hp := placeOf_hit (A ++ (⟨id, v⟩ : S38) :: B) id A.length (by omega) (by rw [hg]) (fun j hj => by
    rw [List.getElem_append_left hj]
    exact hA _ (List.getElem_mem hj))
  rw [if_pos (by omega), Option.bind_some, hp, if_neg (by omega), if_pos (by omega), if_pos (by omega), rdT_get _ _ (by omega), hg]
theorem law (s : ByteArray) (l : List S38) (id : Int) (v : ByteArray) (hr : ∀ x ∈ l, 0 ≤ x.f0 ∧ x.f0 < 65536) (k : Nat) (hk : 300000 < k) : portmanteaulaw13_ExtraBack.f k s l id v = some true := by
  unfold portmanteaulaw13_ExtraBack.f
  rw [awake_true k (by omega), Option.bind_some, if_pos rfl]
  obtain ⟨k, rfl⟩ : ∃ m, k = m + 3 := ⟨k - 3, by omega⟩
  by_cases hs : 70000 < s.size
  · rw [if_pos (by omega), portmanteaulaw13_ExtraBack.j0, if_pos rfl]
  rw [if_neg (by omega)]
  obtain ⟨b, hb, hl⟩ := few_eq l (k + 3) (by omega)
  rw [hb, Option.bind_some]
  cases b with
  | false => rw [portmanteaulaw13_ExtraBack.j0, if_pos (by decide : (!false) = true)]
  | true =>
  replace hl := hl rfl
  -- the end: what was put
  have hj2 : portmanteaulaw13_ExtraBack.j2 (k + 1) l false id v = some true := by
    obtain ⟨A, B, hp, hA, hB, hn⟩ := put_shape l id v hl k (by omega)
    have hw : woG (A ++ (⟨id, v⟩ : S38) :: B) [id] = A ++ B := by
      unfold woG
      rw [List.filter_append, List.filter_cons_of_neg (by simp)]
      rw [show A.filter (fun x => !decide (x.f0 ∈ [id])) = A from wo_all A id hA, show B.filter (fun x => !decide (x.f0 ∈ [id])) = B from wo_all B id hB]
    have hlen : (A ++ (⟨id, v⟩ : S38) :: B).length = A.length + B.length + 1 := by simp; omega
    rw [portmanteaulaw13_ExtraBack.j2, if_neg (by decide), hp, Option.bind_some, find_shape A B id v hA hn, Option.bind_some]
    dsimp only
    rw [if_pos rfl, if_pos rfl, without_eq _ [id] (by omega) (by simp) k (by omega), Option.bind_some, hw, hlen, wrap_id (by omega) (by omega), List.length_append]
    simp
  have hj1 : portmanteaulaw13_ExtraBack.j1 (k + 2) s l id v = some true := by
    rw [portmanteaulaw13_ExtraBack.j1, parse_f s (k + 1) (by omega), Option.bind_some]
    by_cases hbig : 65535 < s.size
    · rw [if_pos hbig]
      dsimp only
      rw [show extra_Print.f [] = some (strN [], 0) from rfl, Option.bind_some, if_neg (by decide)]
      exact hj2
    rw [if_neg hbig]
    cases hg : parseG s.data.toList with
    | none =>
      unfold parseR
      dsimp only
      rw [show extra_Print.f [] = some (strN [], 0) from rfl, Option.bind_some, if_neg (by decide)]
      exact hj2
    | some m =>
      obtain ⟨hflat, hm⟩ := parseG_inv _ _ m rfl hg
      unfold parseR
      dsimp only
      rw [List.nil_append]
      have hpr : extra_Print.f m = some (s, 0) := by
        unfold extra_Print.f
        rw [if_pos (fun x hx => (hm x hx).1), go_mk m [] (fun x hx => (hm x hx).2) (by rw [List.nil_append, hflat, toList_length]; omega), List.nil_append, hflat]
        rfl
      rw [hpr, Option.bind_some, if_pos rfl, if_pos rfl, show (s.toList != s.toList) = false by simp]
      exact hj2
  rw [portmanteaulaw13_ExtraBack.j0, if_neg (by decide)]
  obtain ⟨t, e, hte⟩ : ∃ t e, extraGo l [] = (t, e) := ⟨_, _, rfl⟩
  rw [show extra_Print.f l = some (t, e) by unfold extra_Print.f; rw [if_pos hr, hte], Option.bind_some]
  dsimp only
  by_cases he : e = 0
  · subst he
    obtain ⟨ht, hsz, hln⟩ := go_ok l [] t (by simp) hte
    rw [List.nil_append] at ht hln
    have htd : t.data.toList = l.flatMap fieldB := by rw [ht]; rfl
    have hts : t.size ≤ 65535 := by rw [← toList_length, htd]; exact hln
    rw [if_pos rfl, parse_f t (k + 2) (by omega), Option.bind_some, if_neg (show ¬ 65535 < t.size by omega), htd, parseG_flat l hr hsz]
    unfold parseR
    dsimp only
    rw [List.nil_append, if_pos rfl, same_eq l (by omega) (k + 2) (by omega), Option.bind_some, if_pos rfl]
    exact hj1
  · rw [if_neg he]
    exact hj1
end Go.Proofs.Ytdlcihbfdbdbbaa.D13
