/- FieldOwners: the owners that any bytes tell, of either kind, and their bytes: plain Lean. -/
import Derived.Test.YtloojhhjljneeaaAt1
import Derived.Test.YtloojhhjljneeaaAt2
import Derived.Test.YtloojhhjljneeaaNumO4
import Derived.Test.YtloojhhjljneeaaNumOR
import Derived.Test.YtloojhhjljneeaaNumNR
import Derived.Test.YtloojhhjljneeaaGiveparseowner
import Derived.Test.YtloojhhjljneeaaPx10
import Derived.Test.YtloojhhjljneeaaPx12
import Derived.Test.YtloojhhjljneeaaPx13
import Derived.Test.YtloojhhjljneeaaPx2
import Derived.Test.YtloojhhjljneeaaPx6
import Derived.Test.YtloojhhjljneeaaPx7
import Derived.Test.YtloojhhjljneeaaPx9
namespace Go.Proofs.Ytloojhhjljneeaa.Pure
set_option linter.unusedVariables false
set_option linter.unusedSimpArgs false
open Go Go.RowKit Go.Proofs.Ytloojhhjljneeaa.P Go.Proofs.Ytloojhhjljneeaa.B Go.Proofs.Ytloojhhjljneeaa.Num Go.Proofs.Ytloojhhjljneeaa.Cur Go.Proofs.YtloojhhjljneeaaW.PrintWords Go.Proofs.YtloojhhjljneeaaW.PrintLast Go.Proofs.YtloojhhjljneeaaW.PrintMore

/-- One number out of a list, and what is behind it. -/
def oneL (l : List UInt8) : Option (Nat × List UInt8) :=
  match l with
  | [] => none
  | n :: r => if 8 < n.toNat then none else if r.length < n.toNat then none else some (leN (r.take n.toNat), r.drop n.toNat)
def endL (x0 x1 : Nat) (l : List UInt8) : Int × Int × Int := if l ≠ [] then (0, 0, 24) else if 4294967295 < x0 then (0, 0, 8) else if 4294967295 < x1 then (0, 0, 8) else ((x0 : Int), (x1 : Int), 0)
def refL (l : List UInt8) : Int × Int × Int :=
  match l with
  | [] => (0, 0, 24)
  | v :: r => if r = [] then (0, 0, 24) else if v.toNat = 1 then (match oneL r with | none => (0, 0, 24) | some (x, t) => match oneL t with | none => (0, 0, 24) | some (y, t2) => endL x y t2) else (0, 0, 24)
theorem bt0 (s : ByteArray) (n : UInt8) (r : List UInt8) (h : s.data.toList = n :: r) : bt s 0 = (n.toNat : Int) := by
  have hl : 0 < s.data.toList.length := by rw [h]; simp
  have := bt_nat s 0 hl
  simpa [h] using this
theorem size_of (s : ByteArray) : s.size = s.data.toList.length := (toList_length s).symm
theorem one_eq (s : ByteArray) : (ownOne s = none ∧ oneL s.data.toList = none) ∨ ∃ (x : Nat) (t : ByteArray), ownOne s = some ((x : Int), t) ∧ oneL s.data.toList = some (x, t.data.toList) := by
  rcases hl : s.data.toList with _ | ⟨n, r⟩
  · exact .inl ⟨by unfold ownOne; rw [if_pos (by rw [size_of, hl]; rfl)], rfl⟩
  have hb := bt0 s n r hl
  have hs : s.size = r.length + 1 := by rw [size_of, hl]; rfl
  unfold ownOne oneL
  rw [hb, if_neg (by omega)]
  by_cases h8 : 8 < n.toNat
  · exact .inl ⟨by rw [if_pos (by omega)], by simp only; rw [if_pos h8]⟩
  by_cases hc : r.length < n.toNat
  · exact .inl ⟨by rw [if_neg (by omega), if_pos (by omega)], by simp only; rw [if_neg h8, if_pos hc]⟩
  refine .inr ⟨leN (r.take n.toNat), s.extract (1 + n.toNat) s.size, ?_, ?_⟩
  · rw [if_neg (by omega), if_neg (by omega), show (1 + (n.toNat : Int)).toNat = 1 + n.toNat by omega, extract_list, hl, show 1 + n.toNat = n.toNat + 1 by omega]
    simp
  · simp only
    have ht : (n :: r).take s.size = n :: r := List.take_of_length_le (by rw [hs]; simp)
    rw [if_neg h8, if_neg hc, extract_list, hl, ht, show 1 + n.toNat = n.toNat + 1 by omega]
    simp
theorem end_eq (x0 x1 : Nat) (s : ByteArray) : ownEnd x0 x1 s = endL x0 x1 s.data.toList := by
  unfold ownEnd endL
  have hs := size_of s
  by_cases h : s.data.toList = []
  · have e0 : ¬ (0 < s.size) := by rw [hs, h]; simp
    rw [if_neg e0]
    by_cases h1 : 4294967295 < x0
    · have : (4294967295 : Int) < (x0 : Int) := by omega
      simp [h, h1, this]
    · have : ¬ (4294967295 : Int) < (x0 : Int) := by omega
      by_cases h2 : 4294967295 < x1
      · have : (4294967295 : Int) < (x1 : Int) := by omega
        simp [h, h1, h2, *]
      · have : ¬ (4294967295 : Int) < (x1 : Int) := by omega
        simp [h, h1, h2, *]
  · rw [if_pos (by rw [hs]; exact List.length_pos_iff.2 h), if_pos h]
theorem ref_eq (s : ByteArray) (hs : s.size ≤ 1000000) : portmanteauref14_ParseOwner.f s = some (refL s.data.toList) := by
  unfold portmanteauref14_ParseOwner.f
  rw [if_pos hs]
  rcases hl : s.data.toList with _ | ⟨v, r⟩
  · rw [if_pos (by rw [size_of, hl]; decide)]; rfl
  have hsz : s.size = r.length + 1 := by rw [size_of, hl]; rfl
  have hb := bt0 s v r hl
  unfold refL
  by_cases hr : r = []
  · rw [if_pos (by rw [hsz, hr]; decide)]; simp [hr]
  have hrl : 0 < r.length := List.length_pos_iff.2 hr
  rw [if_neg (by omega), hb]
  simp only [hr, if_false]
  by_cases hv : v.toNat = 1
  · rw [if_pos (by omega), if_pos hv]
    have hx : (s.extract 1 s.size).data.toList = r := by rw [extract_list, hl, List.take_of_length_le (by rw [hsz]; simp)]; rfl
    rcases one_eq (s.extract 1 s.size) with ⟨h1, h2⟩ | ⟨x, t, h1, h2⟩
    · rw [hx] at h2
      simp [ownRest, h1, h2]
    · rw [hx] at h2
      rcases one_eq t with ⟨h3, h4⟩ | ⟨y, t2, h3, h4⟩
      · simp [ownRest, h1, h2, h3, h4]
      · simp [ownRest, h1, h2, h3, h4, end_eq]
  · rw [if_neg (by omega), if_neg hv]
theorem number_eq8 (l : List UInt8) (h : l.length ≤ 8) : cursor_Number.f 9 (strN l) = some ((leN l : Int), 0) := by
  unfold cursor_Number.f
  rw [if_neg (by rw [Cur.strN_size]; omega), number_strN l h 9 (by omega)]
  rfl
theorem number_eq9 (l : List UInt8) (h : 8 < l.length) : cursor_Number.f 9 (strN l) = some (0, 5) := by
  unfold cursor_Number.f
  rw [if_pos (by rw [Cur.strN_size]; omega)]
theorem one_bd (x : UInt8) : x.toNat < 256 := x.toNat_lt
theorem j0_bad (x y : Int) : field_ParseOwner.j0 9 x y true = some (0, 0, 24) := rfl
theorem j0_ok (x y : Int) : field_ParseOwner.j0 9 x y false = if x > 4294967295 then some (0, 0, 8) else if y > 4294967295 then some (0, 0, 8) else some (x % 4294967296, y % 4294967296, 0) := rfl
theorem prog_eq (s : ByteArray) (hs : s.size ≤ 1000) : field_ParseOwner.f 9 s = some (refL s.data.toList) := by
  have h0 := At.start s (by omega)
  unfold field_ParseOwner.f
  rw [show cursor_Over.f s = some (s, 0, 0) from rfl, Option.bind_some]
  simp only
  rcases hl : s.data.toList with _ | ⟨v, r⟩
  · rw [hl] at h0
    rw [one_fail h0 (by simp) 9 (by omega)]
    rw [Option.bind_some]
    dsimp only
    rw [one_bad (by decide) 9 (by omega)]
    rw [Option.bind_some]
    dsimp only
    rw [take_bad (by decide)]
    rw [Option.bind_some]
    dsimp only
    rw [number_eq8 [] (by simp)]
    rw [Option.bind_some]
    dsimp only
    rw [one_bad (by decide) 9 (by omega)]
    rw [Option.bind_some]
    dsimp only
    rw [take_bad (by decide)]
    rw [Option.bind_some]
    dsimp only
    rw [number_eq8 [] (by simp)]
    rw [Option.bind_some]
    dsimp only
    unfold cursor_Cursor_Err.f
    rw [Option.bind_some]
    dsimp only
    rw [if_neg (by decide)]
    exact j0_bad _ _
  have w8 : ∀ x : UInt8, wrap64 ((leN [x] : Nat) : Int) = ((x.toNat : Nat) : Int) := fun x => by
    have := one_bd x
    rw [leN_one, wrap_id (by omega) (by omega)]
  rw [hl] at h0
  have h1 : At s 1 r := (show At s 0 ([v] ++ r) from h0).on
  rw [show v :: r = [v] ++ r from rfl] at h0
  rw [one_at h0 rfl 9 (by omega)]
  rw [Option.bind_some]
  dsimp only
  rw [show (0 : Int) + (([v] : List UInt8).length : Int) = 1 from rfl]
  rcases r with _ | ⟨n, r⟩
  · rw [one_fail h1 (by simp) 9 (by omega)]
    rw [Option.bind_some]
    dsimp only
    rw [take_bad (by decide)]
    rw [Option.bind_some]
    dsimp only
    rw [number_eq8 [] (by simp)]
    rw [Option.bind_some]
    dsimp only
    rw [one_bad (by decide) 9 (by omega)]
    rw [Option.bind_some]
    dsimp only
    rw [take_bad (by decide)]
    rw [Option.bind_some]
    dsimp only
    rw [number_eq8 [] (by simp)]
    rw [Option.bind_some]
    dsimp only
    unfold cursor_Cursor_Err.f
    rw [Option.bind_some]
    dsimp only
    rw [if_neg (by decide)]
    exact j0_bad _ _
  have h2 : At s 2 r := (show At s 1 ([n] ++ r) from h1).on
  rw [show n :: r = [n] ++ r from rfl] at h1
  rw [one_at h1 rfl 9 (by omega)]
  rw [Option.bind_some]
  dsimp only
  rw [show (1 : Int) + (([n] : List UInt8).length : Int) = 2 from rfl, w8 n]
  have href : refL (v :: n :: r) = if v.toNat = 1 then (match oneL (n :: r) with | none => (0, 0, 24) | some (x, t) => match oneL t with | none => (0, 0, 24) | some (y, t2) => endL x y t2) else (0, 0, 24) := by
    simp [refL]
  rw [href]
  clear href
  by_cases hn : r.length < n.toNat
  · rw [take_fail h2 (.inr (by omega))]
    rw [Option.bind_some]
    dsimp only
    rw [number_eq8 [] (by simp)]
    rw [Option.bind_some]
    dsimp only
    rw [one_bad (by decide) 9 (by omega)]
    rw [Option.bind_some]
    dsimp only
    rw [take_bad (by decide)]
    rw [Option.bind_some]
    dsimp only
    rw [number_eq8 [] (by simp)]
    rw [Option.bind_some]
    dsimp only
    have ho : oneL (n :: r) = none := by
      simp only [oneL]
      by_cases h8 : 8 < n.toNat
      · rw [if_pos h8]
      · rw [if_neg h8, if_pos hn]
    rw [ho]
    simp only [ite_self]
    unfold cursor_Cursor_Err.f
    rw [Option.bind_some]
    dsimp only
    rw [if_neg (by decide)]
    exact j0_bad _ _
  obtain ⟨a, t, hr, ha⟩ : ∃ a t, r = a ++ t ∧ a.length = n.toNat := ⟨r.take n.toNat, r.drop n.toNat, (List.take_append_drop _ _).symm, by rw [List.length_take]; omega⟩
  have hone : oneL (n :: r) = if 8 < n.toNat then none else some (leN a, t) := by
    simp only [oneL]
    rw [if_neg hn, hr, ← ha, List.take_left, List.drop_left]
  rw [hone]
  rw [hr] at h2
  have h3 : At s (2 + a.length) t := h2.on
  rw [take_at h2 (by omega)]
  rw [Option.bind_some]
  dsimp only
  have hnum : ∃ x e, cursor_Number.f 9 (strN a) = some (x, e) ∧ ((8 < n.toNat ∧ e ≠ 0) ∨ (¬ 8 < n.toNat ∧ x = (leN a : Int) ∧ e = 0)) := by
    by_cases h8 : 8 < n.toNat
    · exact ⟨0, 5, number_eq9 a (by omega), .inl ⟨h8, by decide⟩⟩
    · exact ⟨_, 0, number_eq8 a (by omega), .inr ⟨h8, rfl, rfl⟩⟩
  obtain ⟨x, e, hx, hxe⟩ := hnum
  rw [hx]
  rw [Option.bind_some]
  dsimp only
  have hbad : ∀ (c : Prop) [Decidable c], (if c then (match (if 8 < n.toNat then none else some (leN a, t)) with | none => ((0 : Int), (0 : Int), (24 : Int)) | some (x, t) => match oneL t with | none => (0, 0, 24) | some (y, t2) => endL x y t2) else (0, 0, 24)) = if c ∧ ¬ 8 < n.toNat then (match oneL t with | none => (0, 0, 24) | some (y, t2) => endL (leN a) y t2) else (0, 0, 24) := by
    intro c _
    by_cases hc : c <;> by_cases h8 : 8 < n.toNat <;> simp [hc, h8]
  rw [hbad]
  clear hbad hone
  rcases t with _ | ⟨n2, t⟩
  · rw [one_fail h3 (by simp) 9 (by omega)]
    rw [Option.bind_some]
    dsimp only
    rw [take_bad (by decide)]
    rw [Option.bind_some]
    dsimp only
    rw [number_eq8 [] (by simp)]
    rw [Option.bind_some]
    dsimp only
    rw [show oneL [] = none from rfl]
    simp only [ite_self]
    unfold cursor_Cursor_Err.f
    rw [Option.bind_some]
    dsimp only
    rw [if_neg (by decide)]
    exact j0_bad _ _
  have h4 : At s (2 + a.length + 1) t := (show At s (2 + a.length) ([n2] ++ t) from h3).on
  rw [show n2 :: t = [n2] ++ t from rfl] at h3
  rw [one_at h3 rfl 9 (by omega)]
  rw [Option.bind_some]
  dsimp only
  rw [show (([n2] : List UInt8).length : Int) = 1 from rfl, w8 n2]
  by_cases hn2 : t.length < n2.toNat
  · rw [take_fail h4 (.inr (by omega))]
    rw [Option.bind_some]
    dsimp only
    rw [number_eq8 [] (by simp)]
    rw [Option.bind_some]
    dsimp only
    have ho : oneL (n2 :: t) = none := by
      simp only [oneL]
      by_cases h8 : 8 < n2.toNat
      · rw [if_pos h8]
      · rw [if_neg h8, if_pos hn2]
    rw [ho]
    simp only [ite_self]
    unfold cursor_Cursor_Err.f
    rw [Option.bind_some]
    dsimp only
    rw [if_neg (by decide)]
    exact j0_bad _ _
  obtain ⟨b, u, ht, hb⟩ : ∃ b u, t = b ++ u ∧ b.length = n2.toNat := ⟨t.take n2.toNat, t.drop n2.toNat, (List.take_append_drop _ _).symm, by rw [List.length_take]; omega⟩
  have hone : oneL (n2 :: t) = if 8 < n2.toNat then none else some (leN b, u) := by
    simp only [oneL]
    rw [if_neg hn2, ht, ← hb, List.take_left, List.drop_left]
  rw [hone]
  rw [ht] at h4
  have h5 : At s (2 + a.length + 1 + b.length) u := h4.on
  rw [take_at h4 (by omega)]
  rw [Option.bind_some]
  dsimp only
  have hnum : ∃ x e, cursor_Number.f 9 (strN b) = some (x, e) ∧ ((8 < n2.toNat ∧ e ≠ 0) ∨ (¬ 8 < n2.toNat ∧ x = (leN b : Int) ∧ e = 0)) := by
    by_cases h8 : 8 < n2.toNat
    · exact ⟨0, 5, number_eq9 b (by omega), .inl ⟨h8, by decide⟩⟩
    · exact ⟨_, 0, number_eq8 b (by omega), .inr ⟨h8, rfl, rfl⟩⟩
  obtain ⟨y, f, hy, hyf⟩ := hnum
  rw [hy]
  rw [Option.bind_some]
  dsimp only
  unfold cursor_Cursor_Err.f cursor_Cursor_Left.f
  rw [Option.bind_some]
  dsimp only
  rw [if_pos rfl, Option.bind_some]
  dsimp only
  rw [left_at h5]
  rcases u with _ | ⟨c, u⟩
  · rw [if_neg (by simp), leN_one]
    have hend : ∀ (p q : Nat), endL p q [] = if 4294967295 < p then (0, 0, 8) else if 4294967295 < q then (0, 0, 8) else ((p : Int), (q : Int), 0) := fun p q => by unfold endL; rw [if_neg (by simp)]
    by_cases hv : v.toNat = 1
    · rw [if_pos (by omega)]
      rcases hxe with ⟨h8, he⟩ | ⟨h8, rfl, rfl⟩
      · rw [if_neg he, if_neg (fun h => h.2 h8)]; exact j0_bad _ _
      rw [if_pos rfl, if_pos ⟨hv, h8⟩]
      rcases hyf with ⟨h9, he⟩ | ⟨h9, rfl, rfl⟩
      · rw [if_pos h9, show (f != 0) = true from by simp [he]]; exact j0_bad _ _
      rw [if_neg h9]
      simp only
      rw [hend, show ((0 : Int) != 0) = false from rfl]
      rw [j0_ok]
      by_cases g1 : 4294967295 < leN a
      · rw [if_pos (by omega), if_pos g1]
      rw [if_neg (by omega), if_neg g1]
      by_cases g2 : 4294967295 < leN b
      · rw [if_pos (by omega), if_pos g2]
      rw [if_neg (by omega), if_neg g2, show ((leN a : Nat) : Int) % 4294967296 = (leN a : Nat) by omega, show ((leN b : Nat) : Int) % 4294967296 = (leN b : Nat) by omega]
    · rw [if_neg (by omega), if_neg (fun h => hv h.1)]; exact j0_bad _ _
  · rw [if_pos (by simp)]
    have hend : ∀ (p q : Nat), endL p q (c :: u) = (0, 0, 24) := fun p q => by unfold endL; rw [if_pos (by simp)]
    by_cases h9 : 8 < n2.toNat
    · rw [if_pos h9]; simp only [ite_self]; exact j0_bad _ _
    · rw [if_neg h9]; simp only [hend, ite_self]; exact j0_bad _ _
theorem old_both (s : ByteArray) (hs : s.size ≤ 1000) : ∃ r, field_ParseOld.f 9 s = some r ∧ portmanteauref14_ParseOld.f 9 s = some r := by
  have h0 := At.start s (by omega)
  have hz := size_of s
  unfold field_ParseOld.f portmanteauref14_ParseOld.f
  rw [toL, show cursor_Over.f s = some (s, 0, 0) from rfl]
  rw [Option.bind_some]
  dsimp only
  rcases hl : s.data.toList with _ | ⟨x, r⟩
  · rw [hl] at hz
    rw [if_pos rfl, if_pos (by rw [hz]; rfl)]
    exact ⟨_, rfl, rfl⟩
  rw [hl] at h0 hz
  simp only [List.length_cons] at hz
  rw [if_neg (by simp), if_neg (by omega)]
  rcases r with _ | ⟨y, r⟩
  · simp only [List.length_nil] at hz
    rw [if_neg (by omega), two_fail h0 (by simp) 9 (by omega)]
    rw [Option.bind_some]
    dsimp only
    rw [two_bad (by decide) 9 (by omega)]
    unfold cursor_Cursor_Err.f
    rw [Option.bind_some]
    dsimp only
    rw [Option.bind_some]
    dsimp only
    rw [if_neg (by decide)]
    exact ⟨_, rfl, rfl⟩
  have h1 : At s (0 + ([x, y] : List UInt8).length) r := (show At s 0 ([x, y] ++ r) from h0).on
  rw [show x :: y :: r = [x, y] ++ r from rfl] at h0
  rw [two_at h0 rfl 9 (by omega)]
  rw [Option.bind_some]
  dsimp only
  simp only [List.length_cons] at hz
  by_cases hr : r.length < 2
  · rw [if_neg (by omega), two_fail h1 hr 9 (by omega)]
    unfold cursor_Cursor_Err.f
    rw [Option.bind_some]
    dsimp only
    rw [Option.bind_some]
    dsimp only
    rw [if_neg (by decide)]
    exact ⟨_, rfl, rfl⟩
  obtain ⟨z, u, t, rfl⟩ : ∃ z u t, r = z :: u :: t := by
    match r, hr with
    | z :: u :: t, _ => exact ⟨z, u, t, rfl⟩
    | [_], h => exact absurd (by simp) h
    | [], h => exact absurd (by simp) h
  have h2 := (show At s (0 + ([x, y] : List UInt8).length) ([z, u] ++ t) from h1).on
  rw [show z :: u :: t = [z, u] ++ t from rfl] at h1
  rw [two_at h1 rfl 9 (by omega)]
  unfold cursor_Cursor_Err.f cursor_Cursor_Left.f
  rw [Option.bind_some]
  dsimp only
  rw [Option.bind_some]
  dsimp only
  rw [if_pos rfl, Option.bind_some]
  dsimp only
  rw [left_at h2]
  simp only [List.length_cons] at hz
  have hx := x.toNat_lt
  have hy := y.toNat_lt
  have hzz := z.toNat_lt
  have hu := u.toNat_lt
  rcases t with _ | ⟨c, t⟩
  · simp only [List.length_nil] at hz
    rw [if_neg (by simp), if_pos (by omega), if_pos (by decide), if_pos (by omega)]
    have e1 : (s.extract 0 2).data.toList = [x, y] := by rw [extract_list, hl]; rfl
    have e2 : (s.extract 2 s.size).data.toList = [z, u] := by rw [extract_list, hl, hz]; rfl
    rw [ref_number_eq _ (by rw [size_of, e1]; exact Nat.le_of_ble_eq_true rfl) 9 (by omega), ref_number_eq _ (by rw [size_of, e2]; exact Nat.le_of_ble_eq_true rfl) 9 (by omega), e1, e2, Option.bind_some, Option.bind_some]
    exact ⟨_, rfl, rfl⟩
  · simp only [List.length_cons] at hz
    rw [if_pos (by simp), if_neg (by omega)]
    exact ⟨_, rfl, rfl⟩
theorem ofI_nat (n c : Nat) (h : c ≤ 8) : ofI n (c : Int) = ofN c n := by
  unfold ofI
  rw [show min (c : Int).toNat 64 = c by omega]
theorem print_both (u g : Nat) (hu : u < 2 ^ 32) (hg : g < 2 ^ 32) : ∃ r, field_PrintOwner.f 65 (u : Int) (g : Int) = some r ∧ portmanteauref14_PrintOwner.f 65 (u : Int) (g : Int) = some r ∧ r = strN ([1, 4] ++ ofN 4 u ++ [4] ++ ofN 4 g) := by
  have l1 : (strN (ofN 4 u)).size = 4 := ofN_length 4 u
  have l2 : (strN (ofN 4 g)).size = 4 := ofN_length 4 g
  have k1 : (strN (ofN 1 1)).size = 1 := ofN_length 1 1
  have k4 : (strN (ofN 1 4)).size = 1 := ofN_length 1 4
  have ap := fun a b => Cur.strN_append a b
  refine ⟨_, ?_, ?_, rfl⟩
  · unfold field_PrintOwner.f
    rw [four_eq u hu 65 (by omega), Option.bind_some, if_pos (by omega), if_pos (by omega), four_eq g hg 65 (by omega), Option.bind_some, if_pos (by omega)]
    rw [show (⟨#[1, 4]⟩ : ByteArray) = strN [1, 4] from rfl, show (⟨#[4]⟩ : ByteArray) = strN [4] from rfl, ap, ap, ap]
  · unfold portmanteauref14_PrintOwner.f
    have r1 : portmanteauref01_Of.f 65 1 1 = some (strN (ofN 1 1)) := ref_of_eq 1 (by decide) 1 65 (by omega)
    have r4 : portmanteauref01_Of.f 65 4 1 = some (strN (ofN 1 4)) := ref_of_eq 4 (by decide) 1 65 (by omega)
    have ru : portmanteauref01_Of.f 65 (u : Int) 4 = some (strN (ofN 4 u)) := ref_of_eq u (by omega) 4 65 (by omega)
    have rg : portmanteauref01_Of.f 65 (g : Int) 4 = some (strN (ofN 4 g)) := ref_of_eq g (by omega) 4 65 (by omega)
    rw [u64_id (by omega) (by omega), u64_id (by omega) (by omega), r1, Option.bind_some, r4, Option.bind_some, if_pos (by omega), ru, Option.bind_some, if_pos (by omega), Option.bind_some, if_pos (by omega), rg, Option.bind_some, if_pos (by omega)]
    rw [ap, ap, ap, ap]
    rfl
theorem awake_true : portmanteaulaw14_awake.f 65 = some true := by
  obtain ⟨r, h1, _, h3⟩ := print_both 1 2 (by decide) (by decide)
  unfold portmanteaulaw14_awake.f
  rw [show field_PrintOwner.f 65 1 2 = some r from h1, Option.bind_some, h3, toL]
  decide +kernel
theorem FieldOwners : portmanteaulaw14_FieldOwners.Pure := by
  intro s a1 a2 hs h1 h2
  refine ⟨65, ?_⟩
  have b1 := wf_u32 h1
  have b2 := wf_u32 h2
  obtain ⟨u, rfl⟩ : ∃ x : Nat, a1 = (x : Int) := ⟨a1.toNat, by omega⟩
  obtain ⟨g, rfl⟩ : ∃ x : Nat, a2 = (x : Int) := ⟨a2.toNat, by omega⟩
  unfold portmanteaulaw14_FieldOwners.f
  rw [awake_true, Option.bind_some, if_pos rfl]
  by_cases hl : (s.size : Int) > 1000
  · rw [if_pos hl]
  rw [if_neg hl]
  have up : ∀ (d k : Nat) {α : Type} (f : Nat → Option α) (hm : ∀ k, LeO (f k) (f (k + 1))) (r : α), f k = some r → f (k + d) = some r := by
    intro d
    induction d with
    | zero => intro k α f hm r h; exact h
    | succ d ih => intro k α f hm r h; exact hm _ _ (ih k f hm r h)
  have e1 := up 56 9 (fun k => field_ParseOwner.f k s) (fun k => field_ParseOwner.mono s k) _ (prog_eq s (by omega))
  have e2 := ref_eq s (by omega)
  obtain ⟨o, o1, o2⟩ := old_both s (by omega)
  have e3 := up 56 9 (fun k => field_ParseOld.f k s) (fun k => field_ParseOld.mono s k) _ o1
  have e4 := up 56 9 (fun k => portmanteauref14_ParseOld.f k s) (fun k => portmanteauref14_ParseOld.mono s k) _ o2
  obtain ⟨r, r1, r2, _⟩ := print_both u g (by omega) (by omega)
  generalize refL s.data.toList = x at e1 e2
  skip
  rw [show 9 + 56 = 65 from rfl] at e1 e3 e4
  rw [e1, Option.bind_some, e2, Option.bind_some, e3, Option.bind_some, e4, Option.bind_some, if_pos rfl, if_pos rfl, if_pos rfl, if_pos rfl, if_pos rfl, if_pos rfl, r1, Option.bind_some, r2, Option.bind_some]
  simp
end Go.Proofs.Ytloojhhjljneeaa.Pure
