/- Several texts in one (merge.py): field.ParsePath: the walk; what it tells.; Plain: the reference's Strays and the library's ValidString tell the same.; Plain: the reference parses and prints paths as the program does.; FieldPaths: the path that any bytes tell of any name, and its bytes: the walk through the law's own code. -/
import Derived.Test.YtloojhhjljneeaaDoorMg1
import Derived.Test.YtloojhhjljneeaaDoorPx2
import Derived.Test.YtloojhhjljneeaaDoorPx3
import Derived.Lib.ValidLaws
import Derived.Test.YtloojhhjljneeaaDoorPx4
import Derived.Test.YtloojhhjljneeaaDoorPx5
import Derived.Test.YtloojhhjljneeaaDoorPx6
import Derived.Test.YtloojhhjljneeaaDoorPx8
import Derived.Test.YtloojhhjljneeaaDoorPx9
import Derived.Test.YtloojhhjljneeaaDoorPx1
/- field.ParsePath: the walk; what it tells. -/
namespace Go.Proofs.YtloojhhjljneeaaDoor.Ut
set_option linter.unusedVariables false
set_option linter.unusedSimpArgs false
open Go Go.RowKit Go.Proofs.YtloojhhjljneeaaDoor.P Go.Proofs.YtloojhhjljneeaaDoor.B Go.Proofs.YtloojhhjljneeaaDoor.Num Go.Proofs.YtloojhhjljneeaaDoor.Cur Go.Proofs.YtloojhhjljneeaaDoor.Cr Go.Proofs.YtloojhhjljneeaaDoorW.PrintWords Go.Proofs.YtloojhhjljneeaaDoorW.PrintLast Go.Proofs.YtloojhhjljneeaaDoorW.PrintMore
/-- The path that some bytes tell of a name. -/
def pathW (s raw : ByteArray) : ByteArray × Bool × Int :=
  if s.size < 5 ∨ (s.data.toList.getD 0 0).toNat ≠ 1 then (⟨#[]⟩, false, 24)
  else if leN ((s.data.toList.drop 1).take 4) ≠ sumN raw.data.toList then (⟨#[]⟩, false, 0)
  else if Lib.validD (s.data.toList.drop 5) = true then (strN (s.data.toList.drop 5), true, 0) else (⟨#[]⟩, false, 20)
theorem take_err {s : ByteArray} {a n e : Int} (he : e ≠ 0) : cursor_Cursor_Take.f s a e n = some ((⟨#[]⟩ : ByteArray), s, a, e) := by
  unfold cursor_Cursor_Take.f
  rw [if_neg he]
/-- What is read. -/
theorem read_path (s : ByteArray) (hs : s.size ≤ 1000000) : ∃ (v a1 e1 n a2 e2 : Int) (path : ByteArray) (a3 e3 : Int),
    cursor_Cursor_One.f 50 s 0 0 = some (v, s, a1, e1) ∧ cursor_Cursor_Four.f 50 s a1 e1 = some (n, s, a2, e2) ∧ cursor_Cursor_Take.f s a2 e2 (wrap64 ((s.size : Int) - a2)) = some (path, s, a3, e3) ∧ 0 ≤ v ∧ v < 256 ∧ 0 ≤ n ∧ n < 4294967296 ∧
    ((s.size < 5 ∧ e3 ≠ 0) ∨ (5 ≤ s.size ∧ e3 = 0 ∧ v = (((s.data.toList.getD 0 0).toNat : Nat) : Int) ∧ n = ((leN ((s.data.toList.drop 1).take 4) : Nat) : Int) ∧ path = strN (s.data.toList.drop 5))) := by
  have hlen : s.data.toList.length = s.size := by simp
  have h0 := At.start s (by omega)
  match hL : s.data.toList, h0 with
  | [], h0 =>
    rw [hL] at hlen
    simp at hlen
    exact ⟨0, 0, 3, 0, 0, 3, _, 0, 3, one_fail h0 (by simp) 50 (by omega), four_bad (by decide) 50 (by omega), take_err (by decide), by omega, by omega, by omega, by omega, .inl ⟨by omega, by decide⟩⟩
  | x :: R, h0 =>
    have h1 := one_at (m := [x]) (R := R) h0 rfl 50 (by omega)
    have hA1 := At.on (m := [x]) (R := R) h0
    have hxl := x.toNat_lt
    have hle : leN [x] = x.toNat := leN_one x
    rw [hle] at h1
    by_cases h4 : R.length < 4
    · rw [hL] at hlen
      simp at hlen
      exact ⟨_, _, 0, 0, _, 3, _, _, 3, h1, four_fail hA1 h4 50 (by omega), take_err (by decide), by omega, by omega, by omega, by omega, .inl ⟨by omega, by decide⟩⟩
    · obtain ⟨m, R2, rfl, hm⟩ : ∃ m R2, R = m ++ R2 ∧ m.length = 4 := ⟨R.take 4, R.drop 4, (List.take_append_drop 4 R).symm, by rw [List.length_take]; omega⟩
      have h2 := four_at (m := m) (R := R2) hA1 hm 50 (by omega)
      have hA2 := At.on (m := m) (R := R2) hA1
      have hl2 := left_at hA2
      have h3 := take_at (n := wrap64 ((s.size : Int) - (0 + (([x] : List UInt8).length : Int) + (m.length : Int)))) (m := R2) (R := []) (by rw [List.append_nil]; exact hA2) hl2
      have hml := leN_lt m
      rw [hm] at hml
      rw [hL] at hlen
      simp [hm] at hlen
      refine ⟨_, _, 0, _, _, 0, _, _, 0, h1, h2, h3, by omega, by omega, by omega, by omega, .inr ⟨by omega, rfl, ?_, ?_, ?_⟩⟩
      · rfl
      · rw [List.drop_succ_cons, List.drop_zero, List.take_left' hm]
      · rw [List.drop_succ_cons, List.drop_left' hm]
set_option maxHeartbeats 4000000 in
set_option maxRecDepth 100000 in
theorem parse_calls (s raw : ByteArray) (w : World) (hs : s.size ≤ 1000000) (hr : raw.size ≤ 1000000) (hT : Tabs w) :
    Calls Tryd.prog 6 #[.string s, .string raw] w fun e w' => e = .returned (.tuple #[.string (pathW s raw).1, .bool (pathW s raw).2.1, .int .i64 (pathW s raw).2.2]) ∧ Below w.heap.size w w' := by
  obtain ⟨v, a1, e1, n, a2, e2, path, a3, e3, h1, h2, h3, hv0, hv1, hn0, hn1, hor⟩ := read_path s hs
  have H1 := Aside0.mk h1
  have H2 := Aside0.mk h2
  have H3 := Aside0.mk h3
  have HT := Aside0.mk hT
  have hsf : field_sum.f raw = some ((sumN raw.data.toList : Nat) : Int) := by unfold field_sum.f; rw [if_pos hr]
  have HSF := Aside0.mk hsf
  have hlen : s.data.toList.length = s.size := by simp
  clear h1 h2 h3 hT hsf
  rcases hor with ⟨hlt, he⟩ | ⟨hge, rfl, rfl, rfl, rfl⟩
  case' inl =>
    have heb : (e3 != 0) = true := bne_iff_ne.2 he
    have HPW := Aside0.mk (show pathW s raw = (⟨#[]⟩, false, 24) by unfold pathW; rw [if_pos (.inl hlt)])
  case' inr =>
    have hps : (strN (s.data.toList.drop 5)).size ≤ 9223372036854775807 := by rw [strN_size, List.length_drop]; omega
    have HPS := Aside0.mk hps
    have hdv : (strN (s.data.toList.drop 5)).data.toList = s.data.toList.drop 5 := rfl
    have HDV := Aside0.mk hdv
    have hpw : pathW s raw = if s.size < 5 ∨ (s.data.toList.getD 0 0).toNat ≠ 1 then (⟨#[]⟩, false, 24)
      else if leN ((s.data.toList.drop 1).take 4) ≠ sumN raw.data.toList then (⟨#[]⟩, false, 0)
      else if Lib.validD (s.data.toList.drop 5) = true then (strN (s.data.toList.drop 5), true, 0) else (⟨#[]⟩, false, 20) := rfl
    obtain ⟨p, hp⟩ : ∃ p, strN (s.data.toList.drop 5) = p := ⟨_, rfl⟩
    obtain ⟨x, hx⟩ : ∃ x, (s.data.toList.getD 0 0).toNat = x := ⟨_, rfl⟩
    obtain ⟨y, hy⟩ : ∃ y, leN ((s.data.toList.drop 1).take 4) = y := ⟨_, rfl⟩
    rw [hp] at H3 HPS HDV hpw
    rw [hx] at H1 hpw hv0 hv1
    rw [hy] at H2 hpw hn0 hn1
    have HPW := Aside0.mk hpw
    clear hps hdv hp hx hy hpw
  all_goals go_enter Tryd.func6, Tryd.ntmps6
  all_goals go_upto_block 0 with (first
    | (go_at_call 17; refine (cursor_Over.calls _ _ _ _ w w (Below.refl _ _) rfl).mono ?_; rintro e w1 ⟨g, rfl, hi, hb, _⟩; have HI1 := Aside0.mk hi; have HB1 := Aside0.mk hb; clear hi hb)
    | (go_at_call 18; refine (cursor_Cursor_One.calls 50 g s 0 0 _ _ _ _ w _ HI1.out HB1.out H1.out).mono ?_; rintro e w2 ⟨rfl, hi, hb, _⟩; have HI2 := Aside0.mk hi; have HB2 := Aside0.mk hb; clear hi hb)
    | (go_at_call 19; refine (cursor_Cursor_Four.calls 50 g s a1 e1 _ _ _ _ w _ HI2.out HB2.out H2.out).mono ?_; rintro e w3 ⟨rfl, hi, hb, _⟩; have HI3 := Aside0.mk hi; have HB3 := Aside0.mk hb; clear hi hb)
    | (go_at_call 21; refine (cursor_Cursor_Left.calls g s a2 e2 _ _ _ _ w _ HI3.out HB3.out rfl).mono ?_; rintro e w4 ⟨rfl, hi, hb, _⟩; have HI4 := Aside0.mk hi; have HB4 := Aside0.mk hb; clear hi hb)
    | (go_at_call 20; refine (cursor_Cursor_Take.calls g s a2 e2 _ _ _ _ _ w _ HI4.out HB4.out H3.out).mono ?_; rintro e w5 ⟨rfl, hi, hb, _⟩; have HI5 := Aside0.mk hi; have HB5 := Aside0.mk hb; clear hi hb))
  all_goals clear HI1 HB1 HI2 HB2 HI3 HB3 HI4 HB4
  · by_cases hx1 : x = 1
    case neg =>
      have hxb : ((x : Int) != 1) = true := by simp; omega
      have hxb2 : (x != 1) = true := by simpa using hx1
      have hq := HPW.out
      rw [if_pos (.inr hx1)] at hq
      go_wp2_with (go_at_call 22; refine (cursor_Cursor_Err.calls g s a3 0 _ _ _ _ w _ HI5.out HB5.out rfl).mono ?_; rintro e w6 ⟨rfl, hi, hb, _⟩; have HB6 := Aside0.mk hb; clear hi hb)
      go_ret3
      refine ⟨by rw [hq]; rfl, HB6.out⟩
    subst hx1
    obtain ⟨z, hz⟩ : ∃ z, sumN raw.data.toList = z := ⟨_, rfl⟩
    rw [hz] at HSF HPW
    have hq := HPW.out
    rw [if_neg (by omega)] at hq
    by_cases hyz : y = z
    case neg =>
      have hyb : ((y : Int) != (z : Int)) = true := by simp; omega
      have hyb2 : (y != z) = true := by simpa using hyz
      rw [if_pos hyz] at hq
      have HQ := Aside0.mk hq
      clear hq hz
      go_wp2_with (first
        | (go_at_call 22; refine (cursor_Cursor_Err.calls g s a3 0 _ _ _ _ w _ HI5.out HB5.out rfl).mono ?_; rintro e w6 ⟨rfl, hi, hb, _⟩; have HB6 := Aside0.mk hb; clear hi hb)
        | (go_at_call 23; refine (field_sum.calls _ _ _ HSF.out).mono ?_; rintro e w7 ⟨rfl, hb⟩; have HB7 := Aside0.mk (below_step HB6.out hb); clear hb))
      go_ret3
      refine ⟨by rw [HQ.out]; rfl, HB7.out⟩
    subst hyz
    rw [if_neg (by simp)] at hq
    have HQ := Aside0.mk hq
    clear hq hz
    by_cases hv : Lib.validD (s.data.toList.drop 5) = true
    · have HV := Aside0.mk hv
      go_wp2_with (first
        | (go_at_call 22; refine (cursor_Cursor_Err.calls g s a3 0 _ _ _ _ w _ HI5.out HB5.out rfl).mono ?_; rintro e w6 ⟨rfl, hi, hb, _⟩; have HB6 := Aside0.mk hb; clear hi hb)
        | (go_at_call 23; refine (field_sum.calls _ _ _ HSF.out).mono ?_; rintro e w7 ⟨rfl, hb⟩; have HB7 := Aside0.mk (below_step HB6.out hb); clear hb)
        | (go_at_call 24; refine (valid_calls _ _ HPS.out (Utf8Tabs_below HT.out HB7.out)).mono ?_; rintro e w8 ⟨rfl, hb⟩; rw [HDV.out, HV.out]; have HB8 := Aside0.mk (below_step HB7.out hb); clear hb))
      go_ret3
      refine ⟨by rw [HQ.out, if_pos HV.out]; rfl, HB8.out⟩
    · have hv2 : Lib.validD (s.data.toList.drop 5) = false := by simpa using hv
      have HV := Aside0.mk hv2
      go_wp2_with (first
        | (go_at_call 22; refine (cursor_Cursor_Err.calls g s a3 0 _ _ _ _ w _ HI5.out HB5.out rfl).mono ?_; rintro e w6 ⟨rfl, hi, hb, _⟩; have HB6 := Aside0.mk hb; clear hi hb)
        | (go_at_call 23; refine (field_sum.calls _ _ _ HSF.out).mono ?_; rintro e w7 ⟨rfl, hb⟩; have HB7 := Aside0.mk (below_step HB6.out hb); clear hb)
        | (go_at_call 24; refine (valid_calls _ _ HPS.out (Utf8Tabs_below HT.out HB7.out)).mono ?_; rintro e w8 ⟨rfl, hb⟩; rw [HDV.out, HV.out]; have HB8 := Aside0.mk (below_step HB7.out hb); clear hb))
      go_ret3
      refine ⟨by rw [HQ.out, HV.out]; rfl, HB8.out⟩
  · go_wp2_with (go_at_call 22; refine (cursor_Cursor_Err.calls g s a3 e3 _ _ _ _ w _ HI5.out HB5.out rfl).mono ?_; rintro e w6 ⟨rfl, hi, hb, _⟩; have HB6 := Aside0.mk hb; clear hi hb)
    go_ret3
    refine ⟨by rw [HPW.out]; rfl, HB6.out⟩
end Go.Proofs.YtloojhhjljneeaaDoor.Ut

/- Plain: the reference's Strays and the library's ValidString tell the same. -/
namespace Go.Proofs.YtloojhhjljneeaaDoor.Sv
set_option linter.unusedVariables false
set_option linter.unusedSimpArgs false
open Go Go.RowKit Go.Proofs.YtloojhhjljneeaaDoor.P Go.Proofs.YtloojhhjljneeaaDoor.B Go.Proofs.YtloojhhjljneeaaDoorW.PrintWords Go.Proofs.YtloojhhjljneeaaDoorW.PrintLast Go.Proofs.YtloojhhjljneeaaDoorW.PrintMore
/-- A byte's number. -/
def by_ (s : ByteArray) (i : Nat) : Nat := (s.data.toList.getD i 0).toNat
theorem by_lt (s : ByteArray) (i : Nat) : by_ s i < 256 := (s.data.toList.getD i 0).toNat_lt
theorem bt_by (s : ByteArray) (i : Nat) (h : i < s.size) : bt s (i : Int) = ((by_ s i : Nat) : Int) := by
  have hl : i < s.data.toList.length := by simpa using h
  rw [bt_nat s i hl]
  unfold by_
  rw [List.getD_eq_getElem?_getD, List.getElem?_eq_getElem hl, Option.getD_some]
theorem within_f (s : ByteArray) (j : Nat) (lo hi : Int) : portmanteauref10_within.f s (j : Int) lo hi = some (decide (j < s.size ∧ lo ≤ ((by_ s j : Nat) : Int) ∧ ((by_ s j : Nat) : Int) ≤ hi)) := by
  unfold portmanteauref10_within.f
  by_cases h : j < s.size
  · rw [if_pos (by omega), if_pos (by omega), bt_by s j h]
    by_cases h1 : lo ≤ ((by_ s j : Nat) : Int)
    · rw [if_pos h1]; simp [h, h1]
    · rw [if_neg h1]; simp [h1]
  · rw [if_neg (by omega)]; simp [h]
theorem l0_step (s : ByteArray) (k i more v x : Nat) (hs : s.size ≤ 1000000) (hx : x ≤ more) (hm : more ≤ 3) (hi : i + x < s.size) (hv : v ≤ 1099511627776) : portmanteauref10_One.l0 (k + 1) s i more v x = portmanteauref10_One.l0 k s i more ((v * 64 + by_ s (i + x) % 64 : Nat) : Int) ((x + 1 : Nat) : Int) := by
  have hb := by_lt s (i + x)
  have h1 := bt_by s (i + x) hi
  rw [portmanteauref10_One.l0, if_pos (by omega), wrap_id (x := (i : Int) + (x : Int)) (by omega) (by omega), if_pos (by omega), if_pos (by omega), show (i : Int) + (x : Int) = ((i + x : Nat) : Int) by omega, h1, wrap_id (x := ((by_ s (i + x) : Nat) : Int)) (by omega) (by omega), Int.tmod_eq_emod_of_nonneg (by omega), wrap_id (x := (v : Int) * 64) (by omega) (by omega), wrap_id (by omega) (by omega), wrap_id (x := (x : Int) + 1) (by omega) (by omega)]
  congr 1
theorem l0_stop (s : ByteArray) (k i more v x : Nat) (hm : more ≤ 3) (hx : more < x) : portmanteauref10_One.l0 (k + 1) s i more v x = some ((v : Int), ((more + 1 : Nat) : Int)) := by
  rw [portmanteauref10_One.l0, if_neg (by omega), wrap_id (by omega) (by omega)]
  rfl
theorem l0_val (s : ByteArray) (k i more v : Nat) (hs : s.size ≤ 1000000) (h1 : 1 ≤ more) (hm : more ≤ 3) (hi : i + more < s.size) (hv : v ≤ 256) (hk : 5 < k) : ∃ u : Nat, portmanteauref10_One.l0 k s i more v 1 = some ((u : Int), ((more + 1 : Nat) : Int)) := by
  obtain ⟨k, rfl⟩ : ∃ q, k = q + 4 := ⟨k - 4, by omega⟩
  have b1 := by_lt s (i + 1)
  have b2 := by_lt s (i + 2)
  have b3 := by_lt s (i + 3)
  have e1 := l0_step s (k + 3) i more v 1 hs (by omega) hm (by omega) (by omega)
  rw [show k + 3 + 1 = k + 4 by omega] at e1
  rw [show (1 : Int) = ((1 : Nat) : Int) from rfl, e1]
  rcases (by omega : more = 1 ∨ more = 2 ∨ more = 3) with rfl | rfl | rfl
  · exact ⟨_, l0_stop s (k + 2) i 1 _ 2 (by omega) (by omega)⟩
  · have e2 := l0_step s (k + 2) i 2 (v * 64 + by_ s (i + 1) % 64) 2 hs (by omega) (by omega) (by omega) (by omega)
    rw [e2]
    exact ⟨_, l0_stop s (k + 1) i 2 _ 3 (by omega) (by omega)⟩
  · have e2 := l0_step s (k + 2) i 3 (v * 64 + by_ s (i + 1) % 64) 2 hs (by omega) (by omega) (by omega) (by omega)
    have e3 := l0_step s (k + 1) i 3 ((v * 64 + by_ s (i + 1) % 64) * 64 + by_ s (i + 2) % 64) 3 hs (by omega) (by omega) (by omega) (by omega)
    rw [e2, e3]
    exact ⟨_, l0_stop s k i 3 _ 4 (by omega) (by omega)⟩
/-- How many bytes more a lead byte asks for, and from where to where the next one is. -/
def moreN (b : Nat) : Nat := if b < 194 then 0 else if b < 224 then 1 else if b < 240 then 2 else if b < 245 then 3 else 0
def lowN (b : Nat) : Nat := if b = 224 then 160 else if b = 240 then 144 else 128
def highN (b : Nat) : Nat := if b = 237 then 159 else if b = 244 then 143 else 191
section
variable (k : Nat) (s : ByteArray) (i b x lo hi : Int)
theorem a0 (c : Bool) : portmanteauref10_One.j0 (k + 1) s i b x lo hi c = portmanteauref10_One.j1 k s i b (if c = true then 1 else x) lo hi := by
  rw [portmanteauref10_One.j0]; cases c <;> rfl
theorem a1 : portmanteauref10_One.j1 (k + 2) s i b x lo hi = portmanteauref10_One.j3 k s i b (if 224 ≤ b ∧ b ≤ 239 then 2 else x) lo hi := by
  rw [portmanteauref10_One.j1]
  by_cases h : b ≥ 224
  · rw [if_pos h, portmanteauref10_One.j2]
    by_cases h2 : b ≤ 239
    · rw [if_pos (by simpa using h2), if_pos ⟨h, h2⟩]
    · rw [if_neg (by simpa using h2), if_neg (fun q => h2 q.2)]
  · rw [if_neg h, portmanteauref10_One.j2, if_neg (by simp), if_neg (fun q => h q.1)]
theorem a3 : portmanteauref10_One.j3 (k + 2) s i b x lo hi = portmanteauref10_One.j5 k s i b (if 240 ≤ b ∧ b ≤ 244 then 3 else x) lo hi := by
  rw [portmanteauref10_One.j3]
  by_cases h : b ≥ 240
  · rw [if_pos h, portmanteauref10_One.j4]
    by_cases h2 : b ≤ 244
    · rw [if_pos (by simpa using h2), if_pos ⟨h, h2⟩]
    · rw [if_neg (by simpa using h2), if_neg (fun q => h2 q.2)]
  · rw [if_neg h, portmanteauref10_One.j4, if_neg (by simp), if_neg (fun q => h q.1)]
theorem a5 : portmanteauref10_One.j5 (k + 1) s i b x lo hi = portmanteauref10_One.j6 k s i b x (if b = 224 then 160 else lo) hi := by rw [portmanteauref10_One.j5]; split <;> rfl
theorem a6 : portmanteauref10_One.j6 (k + 1) s i b x lo hi = portmanteauref10_One.j7 k s i b x lo (if b = 237 then 159 else hi) := by rw [portmanteauref10_One.j6]; split <;> rfl
theorem a7 : portmanteauref10_One.j7 (k + 1) s i b x lo hi = portmanteauref10_One.j8 k s i b x (if b = 240 then 144 else lo) hi := by rw [portmanteauref10_One.j7]; split <;> rfl
theorem a8 : portmanteauref10_One.j8 (k + 1) s i b x lo hi = portmanteauref10_One.j9 k s i b x lo (if b = 244 then 143 else hi) := by rw [portmanteauref10_One.j8]; split <;> rfl
end
theorem one_lead (s : ByteArray) (k i : Nat) (hi : i < s.size) (hb : 128 ≤ by_ s i) : portmanteauref10_One.f (k + 20) s i = portmanteauref10_One.j9 (k + 11) s i ((by_ s i : Nat) : Int) ((moreN (by_ s i) : Nat) : Int) ((lowN (by_ s i) : Nat) : Int) ((highN (by_ s i) : Nat) : Int) := by
  have hl := by_lt s i
  unfold portmanteauref10_One.f
  rw [if_pos (by omega), if_pos (by omega), bt_by s i hi, if_neg (by omega)]
  obtain ⟨b, hbb⟩ : ∃ b, by_ s i = b := ⟨_, rfl⟩
  rw [hbb] at hb hl ⊢
  have e : ∀ c, portmanteauref10_One.j0 (k + 20) s i (b : Int) 0 128 191 c = portmanteauref10_One.j9 (k + 11) s i (b : Int) (if 240 ≤ (b : Int) ∧ (b : Int) ≤ 244 then 3 else if 224 ≤ (b : Int) ∧ (b : Int) ≤ 239 then 2 else if c = true then 1 else 0) (if (b : Int) = 240 then 144 else if (b : Int) = 224 then 160 else 128) (if (b : Int) = 244 then 143 else if (b : Int) = 237 then 159 else 191) := fun c => by
    rw [show k + 20 = k + 19 + 1 from rfl, a0, show k + 19 = k + 17 + 2 from rfl, a1, show k + 17 = k + 15 + 2 from rfl, a3, show k + 15 = k + 14 + 1 from rfl, a5, show k + 14 = k + 13 + 1 from rfl, a6, show k + 13 = k + 12 + 1 from rfl, a7, show k + 12 = k + 11 + 1 from rfl, a8]
  have e1 : (if 240 ≤ (b : Int) ∧ (b : Int) ≤ 244 then (3 : Int) else if 224 ≤ (b : Int) ∧ (b : Int) ≤ 239 then 2 else if decide ((b : Int) ≥ 194 ∧ (b : Int) ≤ 223) = true then 1 else 0) = ((moreN b : Nat) : Int) := by
    unfold moreN
    simp only [decide_eq_true_eq]
    repeat' split
    all_goals first | rfl | omega
  have e2 : (if (b : Int) = 240 then (144 : Int) else if (b : Int) = 224 then 160 else 128) = ((lowN b : Nat) : Int) := by
    unfold lowN
    repeat' split
    all_goals first | rfl | omega
  have e3 : (if (b : Int) = 244 then (143 : Int) else if (b : Int) = 237 then 159 else 191) = ((highN b : Nat) : Int) := by
    unfold highN
    repeat' split
    all_goals first | rfl | omega
  by_cases h : (b : Int) ≥ 194
  · rw [if_pos h, e, ← e1, e2, e3]
    simp [h]
  · rw [if_neg h, e, ← e1, e2, e3]
    simp [h]
set_option maxRecDepth 100000 in
theorem first_tab : ∀ b : Fin 256, 128 ≤ b.val → (moreN b.val = 0 ∧ Lib.firstT b.val % 8 = 1) ∨ (0 < moreN b.val ∧ Lib.firstT b.val % 8 = moreN b.val + 1 ∧ Lib.accLo (Lib.firstT b.val / 16) = lowN b.val ∧ Lib.accHi (Lib.firstT b.val / 16) = highN b.val) := by decide +kernel
theorem t10 (k : Nat) (s : ByteArray) (i b x : Int) : portmanteauref10_One.j10 (k + 1) s i b x true = some (-1, 1) := by rw [portmanteauref10_One.j10, if_pos rfl]
theorem f10 (k : Nat) (s : ByteArray) (i b more : Nat) (hs : s.size ≤ 1000000) (h1 : 1 ≤ more) (hm : more ≤ 3) (hi : i + more < s.size) (hb : b < 256) : ∃ u : Nat, portmanteauref10_One.j10 (k + 10) s i b more false = some ((u : Int), ((more + 1 : Nat) : Int)) := by
  have hw : wrap64 (b : Int) = (b : Int) := wrap_id (by omega) (by omega)
  have e : ∃ v : Nat, v ≤ 256 ∧ portmanteauref10_One.j10 (k + 10) s i b more false = portmanteauref10_One.l0 (k + 7) s i more v 1 := by
    rw [show k + 10 = k + 9 + 1 from rfl, portmanteauref10_One.j10, if_neg (by decide), hw, Int.tmod_eq_emod_of_nonneg (by omega), Int.tmod_eq_emod_of_nonneg (by omega)]
    have e11 : ∀ z : Int, portmanteauref10_One.j11 (k + 9) s i b more z = portmanteauref10_One.l0 (k + 7) s i more (if (more : Int) = 3 then (b : Int) % 8 else z) 1 := fun z => by
      rw [show k + 9 = k + 8 + 1 from rfl, portmanteauref10_One.j11, hw, Int.tmod_eq_emod_of_nonneg (by omega)]
      split
      · rw [show k + 8 = k + 7 + 1 from rfl, portmanteauref10_One.j12]
      · rw [show k + 8 = k + 7 + 1 from rfl, portmanteauref10_One.j12]
    rw [e11, e11]
    rcases (by omega : more = 1 ∨ more = 2 ∨ more = 3) with rfl | rfl | rfl
    · exact ⟨b % 32, by omega, by rw [if_neg (by decide), if_neg (by decide)]; rfl⟩
    · exact ⟨b % 16, by omega, by rw [if_pos (by decide), if_neg (by decide)]; rfl⟩
    · exact ⟨b % 8, by omega, by rw [if_neg (by decide), if_pos (by decide)]; rfl⟩
  obtain ⟨v, hv, e⟩ := e
  rw [e]
  exact l0_val s (k + 7) i more v hs h1 hm hi hv (by omega)
/-- One, at a lead byte: a stray, or as many bytes as the library says. -/
theorem one_check (s : ByteArray) (k i : Nat) (hs : s.size ≤ 1000000) (hi : i < s.size) (hb : 128 ≤ by_ s i) :
    (portmanteauref10_One.f (k + 20) s i = some (-1, 1) ∧ Lib.checkN (s.size - i) (by_ s (i + 1)) (by_ s (i + 2)) (by_ s (i + 3)) (Lib.firstT (by_ s i) % 8) (Lib.accLo (Lib.firstT (by_ s i) / 16)) (Lib.accHi (Lib.firstT (by_ s i) / 16)) = none)
    ∨ ∃ u m : Nat, portmanteauref10_One.f (k + 20) s i = some ((u : Int), (m : Int)) ∧ 2 ≤ m ∧ i + m ≤ s.size ∧ Lib.checkN (s.size - i) (by_ s (i + 1)) (by_ s (i + 2)) (by_ s (i + 3)) (Lib.firstT (by_ s i) % 8) (Lib.accLo (Lib.firstT (by_ s i) / 16)) (Lib.accHi (Lib.firstT (by_ s i) / 16)) = some m := by
  have hl := by_lt s i
  have b1 := by_lt s (i + 1)
  have b2 := by_lt s (i + 2)
  have b3 := by_lt s (i + 3)
  rw [one_lead s k i hi hb]
  rw [show k + 11 = k + 10 + 1 from rfl, portmanteauref10_One.j9, wrap_id (x := (i : Int) + 1) (by omega) (by omega), wrap_id (x := (i : Int) + 2) (by omega) (by omega), wrap_id (x := (i : Int) + 3) (by omega) (by omega), show (i : Int) + 1 = ((i + 1 : Nat) : Int) by omega, show (i : Int) + 2 = ((i + 2 : Nat) : Int) by omega, show (i : Int) + 3 = ((i + 3 : Nat) : Int) by omega, within_f, within_f, within_f]
  simp only [Option.bind_some]
  have hf := first_tab ⟨by_ s i, hl⟩ hb
  have hm3 : moreN (by_ s i) ≤ 3 := by unfold moreN; (repeat' split) <;> omega
  have hff := f10 k s i (by_ s i) (moreN (by_ s i)) hs
  dsimp only at hf
  obtain ⟨b, hbb⟩ : ∃ b, by_ s i = b := ⟨_, rfl⟩
  rw [hbb] at hl hf hm3 hff ⊢
  obtain ⟨M, hM⟩ : ∃ M, moreN b = M := ⟨_, rfl⟩
  rw [hM] at hf hm3 hff ⊢
  rcases hf with ⟨h0, h1⟩ | ⟨h0, h1, h2, h3⟩
  · left
    rw [if_pos (by omega), show k + 10 = k + 9 + 1 from rfl, t10, h1]
    exact ⟨rfl, by simp [Lib.checkN]⟩
  · rw [if_neg (by omega), h1, h2, h3]
    obtain ⟨lo, hlo⟩ : ∃ lo, lowN b = lo := ⟨_, rfl⟩
    obtain ⟨hh, hhh⟩ : ∃ hh, highN b = hh := ⟨_, rfl⟩
    obtain ⟨c1, hc1⟩ : ∃ c1, by_ s (i + 1) = c1 := ⟨_, rfl⟩
    obtain ⟨c2, hc2⟩ : ∃ c2, by_ s (i + 2) = c2 := ⟨_, rfl⟩
    obtain ⟨c3, hc3⟩ : ∃ c3, by_ s (i + 3) = c3 := ⟨_, rfl⟩
    rw [hlo, hhh, hc1, hc2, hc3]
    by_cases w1 : i + 1 < s.size ∧ lo ≤ c1 ∧ c1 ≤ hh
    · rw [if_pos (by simpa using ⟨w1.1, by omega, by omega⟩)]
      by_cases m2 : 1 < M
      · rw [if_pos (by omega)]
        by_cases w2 : i + 2 < s.size ∧ 128 ≤ c2 ∧ c2 ≤ 191
        · rw [if_pos (by simpa using ⟨w2.1, by omega, by omega⟩)]
          by_cases m3 : 2 < M
          · rw [if_pos (by omega)]
            obtain rfl : M = 3 := by omega
            by_cases w3 : i + 3 < s.size ∧ 128 ≤ c3 ∧ c3 ≤ 191
            · right
              obtain ⟨u, hu⟩ := hff (by omega) (by omega) (by omega) hl
              refine ⟨u, 4, ?_, by omega, by omega, ?_⟩
              · rw [decide_eq_true (by omega), Bool.not_true]; exact hu
              · unfold Lib.checkN
                rw [if_neg (by omega), if_neg (by omega), if_pos rfl, if_neg (by omega)]
            · left
              refine ⟨?_, ?_⟩
              · rw [decide_eq_false (by omega), Bool.not_false, show k + 10 = k + 9 + 1 from rfl, t10]
              · unfold Lib.checkN
                rw [if_neg (by omega), if_neg (by omega), if_pos rfl, if_pos (by omega)]
          · rw [if_neg (by omega)]
            obtain rfl : M = 2 := by omega
            right
            obtain ⟨u, hu⟩ := hff (by omega) (by omega) (by omega) hl
            refine ⟨u, 3, hu, by omega, by omega, ?_⟩
            unfold Lib.checkN
            rw [if_neg (by omega), if_pos rfl, if_neg (by omega)]
        · rw [if_neg (by simpa using fun q1 q2 => by omega)]
          left
          refine ⟨by rw [show k + 10 = k + 9 + 1 from rfl, t10], ?_⟩
          unfold Lib.checkN
          rcases (by omega : M = 2 ∨ M = 3) with rfl | rfl
          · rw [if_neg (by omega), if_pos rfl, if_pos (by omega)]
          · rw [if_neg (by omega), if_neg (by omega), if_pos rfl, if_pos (by omega)]
      · rw [if_neg (by omega), if_neg (by omega)]
        obtain rfl : M = 1 := by omega
        right
        obtain ⟨u, hu⟩ := hff (by omega) (by omega) (by omega) hl
        refine ⟨u, 2, hu, by omega, by omega, ?_⟩
        unfold Lib.checkN
        rw [if_pos rfl, if_neg (by omega)]
    · rw [if_neg (by simpa using fun q1 q2 => by omega)]
      left
      refine ⟨by rw [show k + 10 = k + 9 + 1 from rfl, t10], ?_⟩
      unfold Lib.checkN
      rcases (by omega : M = 1 ∨ M = 2 ∨ M = 3) with rfl | rfl | rfl
      · rw [if_pos rfl, if_pos (by omega)]
      · rw [if_neg (by omega), if_pos rfl, if_pos (by omega)]
      · rw [if_neg (by omega), if_neg (by omega), if_pos rfl, if_pos (by omega)]
theorem drop_get (s : ByteArray) (i j : Nat) : ((s.data.toList.drop i).getD j 0).toNat = by_ s (i + j) := by
  unfold by_
  rw [List.getD_eq_getElem?_getD, List.getD_eq_getElem?_getD, List.getElem?_drop]
/-- From a place on. -/
theorem strays_loop (s : ByteArray) (hs : s.size ≤ 1000000) : ∀ (d k i : Nat), i ≤ s.size → s.size - i ≤ d → d + 21 < k → portmanteauref10_Strays.l0 k s i = some (!(Lib.validD (s.data.toList.drop i)))
  | d, k, i, hi, hd, hk => by
    obtain ⟨k, rfl⟩ : ∃ m, k = m + 1 := ⟨k - 1, by omega⟩
    rw [portmanteauref10_Strays.l0]
    by_cases hlt : i < s.size
    · obtain ⟨d, rfl⟩ : ∃ e, d = e + 1 := ⟨d - 1, by omega⟩
      obtain ⟨q, rfl⟩ : ∃ q, k = q + 20 := ⟨k - 20, by omega⟩
      have hlen : (s.data.toList.drop i).length = s.size - i := by simp
      have hne : s.data.toList.drop i ≠ [] := fun h => by rw [h] at hlen; simp at hlen; omega
      rw [if_pos (by omega)]
      have g0 := drop_get s i 0
      have g1 := drop_get s i 1
      have g2 := drop_get s i 2
      have g3 := drop_get s i 3
      rw [Nat.add_zero] at g0
      by_cases hb : 128 ≤ by_ s i
      · have hv := Lib.validD_lead (s.data.toList.drop i) hne (by rw [g0]; exact hb)
        rw [g0, g1, g2, g3, hlen] at hv
        rcases one_check s q i hs hlt hb with ⟨h1, h2⟩ | ⟨u, m, h1, h2, h3, h4⟩
        · rw [h1, Option.bind_some, if_pos (by decide), hv, h2]; rfl
        · rw [h1, Option.bind_some, if_neg (by show ¬ ((u : Int) < 0); omega), hv, h4]
          show portmanteauref10_Strays.l0 (q + 20) s (wrap64 ((i : Int) + (m : Int))) = some (!(Lib.validD ((s.data.toList.drop i).drop m)))
          rw [wrap_id (by omega) (by omega), List.drop_drop, show (i : Int) + (m : Int) = ((i + m : Nat) : Int) by omega]
          exact strays_loop s hs d (q + 20) (i + m) h3 (by omega) (by omega)
      · have hl : i < s.data.toList.length := by simpa using hlt
        have hdr := List.drop_eq_getElem_cons hl
        have hbi : (s.data.toList[i]).toNat = by_ s i := by unfold by_; rw [List.getD_eq_getElem?_getD, List.getElem?_eq_getElem hl, Option.getD_some]
        have h1 : portmanteauref10_One.f (q + 20) s i = some (((by_ s i : Nat) : Int), 1) := by
          unfold portmanteauref10_One.f
          rw [if_pos (by omega), if_pos (by omega), bt_by s i hlt, if_pos (by omega), wrap_id (by omega) (by omega)]
        rw [h1, Option.bind_some, if_neg (by show ¬ (((by_ s i : Nat) : Int) < 0); omega), hdr, Lib.validD_cons _ _ (by rw [hbi]; omega)]
        show portmanteauref10_Strays.l0 (q + 20) s (wrap64 ((i : Int) + 1)) = _
        rw [wrap_id (by omega) (by omega), show (i : Int) + 1 = ((i + 1 : Nat) : Int) by omega]
        exact strays_loop s hs d (q + 20) (i + 1) (by omega) (by omega) (by omega)
    · rw [if_neg (by omega), List.drop_of_length_le (by simp; omega), Lib.validD_nil]; rfl
theorem strays_f (s : ByteArray) (hs : s.size ≤ 1000000) (k : Nat) (hk : s.size + 21 < k) : portmanteauref10_Strays.f k s = some (!(Lib.validD s.data.toList)) := by
  have := strays_loop s hs s.size k 0 (by omega) (by omega) hk
  rw [List.drop_zero] at this
  exact this
end Go.Proofs.YtloojhhjljneeaaDoor.Sv

/- Plain: the reference parses and prints paths as the program does. -/
namespace Go.Proofs.YtloojhhjljneeaaDoor.Ut
set_option linter.unusedVariables false
set_option linter.unusedSimpArgs false
open Go Go.RowKit Go.Proofs.YtloojhhjljneeaaDoor.P Go.Proofs.YtloojhhjljneeaaDoor.B Go.Proofs.YtloojhhjljneeaaDoor.Num Go.Proofs.YtloojhhjljneeaaDoor.Cur Go.Proofs.YtloojhhjljneeaaDoor.Cr Go.Proofs.YtloojhhjljneeaaDoor.Sv Go.Proofs.YtloojhhjljneeaaDoorW.PrintWords Go.Proofs.YtloojhhjljneeaaDoorW.PrintLast Go.Proofs.YtloojhhjljneeaaDoorW.PrintMore
theorem sumN_lt (l : List UInt8) : sumN l < 4294967296 := by unfold sumN; omega
theorem ext5 (s : ByteArray) : s.extract 5 s.size = strN (s.data.toList.drop 5) := by
  apply ext_list
  rw [extract_list, strN_data, List.take_of_length_le (by simp)]
theorem ext15 (s : ByteArray) : (s.extract 1 5).data.toList = (s.data.toList.drop 1).take 4 := by
  rw [extract_list, List.drop_take]
theorem refpath (s raw : ByteArray) (hs : s.size ≤ 2000) (hr : raw.size ≤ 2000) : portmanteauref14_ParsePath.f 3000 s raw = some ((pathW s raw).1, (pathW s raw).2.1, (pathW s raw).2.2) := by
  have hlen : s.data.toList.length = s.size := by simp
  unfold portmanteauref14_ParsePath.f pathW
  by_cases h5 : s.size < 5
  · rw [if_pos (by omega), if_pos (.inl h5), show (3000 : Nat) = 2999 + 1 from rfl, portmanteauref14_ParsePath.j0, if_pos rfl]
  · have hb := bt_by s 0 (by omega)
    have hbb : by_ s 0 = (s.data.toList.getD 0 0).toNat := rfl
    rw [if_neg (by omega), if_pos (by omega), show (0 : Int) = ((0 : Nat) : Int) from rfl, hb, hbb]
    obtain ⟨x, hx⟩ : ∃ x, (s.data.toList.getD 0 0).toNat = x := ⟨_, rfl⟩
    rw [hx]
    by_cases h1 : x = 1
    · have hbf : ((x : Int) != 1) = false := by simp; omega
      rw [hbf, if_neg (by omega), show (3000 : Nat) = 2999 + 1 from rfl, portmanteauref14_ParsePath.j0, if_neg (by decide), if_pos (by decide), if_pos (by omega), ref_number_eq _ (by rw [ByteArray.size_extract]; omega) 2999 (by omega), Option.bind_some, rsum_f raw 2999 (by omega) (by omega), Option.bind_some, ext15]
      have hsl := sumN_lt raw.data.toList
      have hw : IntKind.u64.wrap ((sumN raw.data.toList : Nat) : Int) = ((sumN raw.data.toList : Nat) : Int) := by simp [IntKind.wrap, IntKind.bits, IntKind.signed]; omega
      rw [hw]
      by_cases hy : leN ((s.data.toList.drop 1).take 4) = sumN raw.data.toList
      · rw [if_pos (by omega), if_neg (by omega), ext5, strays_f _ (by rw [strN_size, List.length_drop]; omega) 2999 (by rw [strN_size, List.length_drop]; omega), Option.bind_some, strN_data]
        cases hv : Lib.validD (s.data.toList.drop 5) with
        | true => simp
        | false => simp
      · rw [if_neg (by omega), if_pos hy]
        try rfl
    · have hbt : ((x : Int) != 1) = true := by simp; omega
      rw [hbt, if_pos (.inr h1), show (3000 : Nat) = 2999 + 1 from rfl, portmanteauref14_ParsePath.j0, if_pos rfl]
def printW (path raw : ByteArray) : ByteArray := strN [1] ++ strN (ofN 4 (sumN raw.data.toList)) ++ path
theorem progprint (path raw : ByteArray) (hs : path.size ≤ 2000) (hr : raw.size ≤ 2000) : field_PrintPath.f 3000 path raw = some (printW path raw) := by
  have hsl := sumN_lt raw.data.toList
  have hsz : (strN (ofN 4 (sumN raw.data.toList))).size = 4 := by rw [strN_size, ofN_length]
  unfold field_PrintPath.f field_sum.f
  rw [if_pos (by omega), Option.bind_some, four_eq _ (by omega) 3000 (by omega), Option.bind_some, hsz, if_pos (by omega), if_pos (by omega)]
  rfl
theorem refprint (path raw : ByteArray) (hs : path.size ≤ 2000) (hr : raw.size ≤ 2000) : portmanteauref14_PrintPath.f 3000 path raw = some (printW path raw) := by
  have hsl := sumN_lt raw.data.toList
  have hsz : (strN (ofN 4 (sumN raw.data.toList))).size = 4 := by rw [strN_size, ofN_length]
  have hw : IntKind.u64.wrap ((sumN raw.data.toList : Nat) : Int) = ((sumN raw.data.toList : Nat) : Int) := by simp [IntKind.wrap, IntKind.bits, IntKind.signed]; omega
  have e1 := ref_of_eq 1 (by decide) 1 3000 (by omega)
  have e4 := ref_of_eq (sumN raw.data.toList) (by omega) 4 3000 (by omega)
  have o1 : ofI 1 1 = [1] := by decide
  have o4 : ofI (sumN raw.data.toList) 4 = ofN 4 (sumN raw.data.toList) := rfl
  rw [o1] at e1
  rw [o4] at e4
  unfold portmanteauref14_PrintPath.f
  rw [show ((1 : Nat) : Int) = 1 from rfl] at e1
  rw [e1, Option.bind_some, rsum_f raw 3000 (by omega) (by omega), Option.bind_some, hw, e4, Option.bind_some, hsz, strN_size, if_pos (by simp), if_pos (by simp; omega)]
  rfl
end Go.Proofs.YtloojhhjljneeaaDoor.Ut

/- FieldPaths: the path that any bytes tell of any name, and its bytes: the walk through the law's own code. -/
namespace Go.Proofs.YtloojhhjljneeaaDoor.Walk
set_option linter.unusedVariables false
set_option linter.unusedSimpArgs false
open Go Go.RowKit Go.Proofs.YtloojhhjljneeaaDoor.P Go.Proofs.YtloojhhjljneeaaDoor.B Go.Proofs.YtloojhhjljneeaaDoor.Num Go.Proofs.YtloojhhjljneeaaDoor.Cur Go.Proofs.YtloojhhjljneeaaDoor.Cr Go.Proofs.YtloojhhjljneeaaDoor.Ut Go.Proofs.YtloojhhjljneeaaDoorW.PrintWords Go.Proofs.YtloojhhjljneeaaDoorW.PrintLast Go.Proofs.YtloojhhjljneeaaDoorW.PrintMore
set_option maxHeartbeats 8000000 in
set_option maxRecDepth 100000 in
theorem FieldPaths (s raw path : ByteArray) (w : World) (hs : s.size ≤ 140737488351232) (hr : raw.size ≤ 140737488351232) (hp : path.size ≤ 140737488351232) (hT : Tabs w) :
    Calls Tryd.prog 3 #[.string s, .string raw, .string path] w fun e w' => e = .returned (.bool true) ∧ Below w.heap.size w w' := by
  have HT := Aside0.mk hT
  have HAW := Aside0.mk awake_true
  clear hT
  by_cases h : s.size ≤ 2000 ∧ raw.size ≤ 2000 ∧ path.size ≤ 2000
  case neg =>
    by_cases h1 : 2000 < s.size
    · have d1 : decide (2000 < s.size) = true := decide_eq_true h1
      go_enter Tryd.func3, Tryd.ntmps3
      go_wp2_with (go_at_call 5; refine (portmanteaulaw14_awake.calls 100 _ _ HAW.out).mono ?_; rintro e w1 ⟨rfl, hb⟩; have HB1 := Aside0.mk hb; clear hb)
      go_ret
      exact ⟨rfl, HB1.out⟩
    have d1 : decide (2000 < s.size) = false := decide_eq_false h1
    by_cases h2 : 2000 < raw.size
    · have d2 : decide (2000 < raw.size) = true := decide_eq_true h2
      go_enter Tryd.func3, Tryd.ntmps3
      go_wp2_with (go_at_call 5; refine (portmanteaulaw14_awake.calls 100 _ _ HAW.out).mono ?_; rintro e w1 ⟨rfl, hb⟩; have HB1 := Aside0.mk hb; clear hb)
      go_ret
      exact ⟨rfl, HB1.out⟩
    have d2 : decide (2000 < raw.size) = false := decide_eq_false h2
    have d3 : decide (2000 < path.size) = true := decide_eq_true (by omega)
    go_enter Tryd.func3, Tryd.ntmps3
    go_wp2_with (go_at_call 5; refine (portmanteaulaw14_awake.calls 100 _ _ HAW.out).mono ?_; rintro e w1 ⟨rfl, hb⟩; have HB1 := Aside0.mk hb; clear hb)
    go_ret
    exact ⟨rfl, HB1.out⟩
  obtain ⟨h1, h2, h3⟩ := h
  have d1 : decide (2000 < s.size) = false := decide_eq_false (by omega)
  have d2 : decide (2000 < raw.size) = false := decide_eq_false (by omega)
  have d3 : decide (2000 < path.size) = false := decide_eq_false (by omega)
  have HRP := Aside0.mk (refpath s raw h1 h2)
  have HPP := Aside0.mk (progprint path raw h3 h2)
  have HRR := Aside0.mk (refprint path raw h3 h2)
  have HPC := Aside0.mk (fun w hT => parse_calls s raw w (by omega) (by omega) hT)
  obtain ⟨q, hq⟩ : ∃ q, pathW s raw = q := ⟨_, rfl⟩
  rw [hq] at HRP HPC
  obtain ⟨q1, q2, q3⟩ := q
  obtain ⟨t, ht⟩ : ∃ t, printW path raw = t := ⟨_, rfl⟩
  rw [ht] at HPP HRR
  clear hq ht
  go_enter Tryd.func3, Tryd.ntmps3
  go_wp2_with (first
    | (go_at_call 5; refine (portmanteaulaw14_awake.calls 100 _ _ HAW.out).mono ?_; rintro e w1 ⟨rfl, hb⟩; have HB1 := Aside0.mk hb; clear hb)
    | (go_at_call 6; refine (HPC.out _ (Utf8Tabs_below HT.out HB1.out)).mono ?_; rintro e w2 ⟨rfl, hb⟩; have HB2 := Aside0.mk (below_step HB1.out hb); clear hb)
    | (go_at_call 7; refine (portmanteauref14_ParsePath.calls 3000 _ _ _ _ _ _ HRP.out).mono ?_; rintro e w3 ⟨rfl, ⟨nd, rfl⟩⟩)
    | (go_at_call 8; refine (field_PrintPath.calls 3000 _ _ _ _ HPP.out).mono ?_; rintro e w4 ⟨rfl, hb⟩; have HB4 := Aside0.mk (below_step (pw_below_drewN HB2.out nd) hb); clear hb)
    | (go_at_call 9; refine (portmanteauref14_PrintPath.calls 3000 _ _ _ _ HRR.out).mono ?_; rintro e w5 ⟨rfl, hb⟩; have HB5 := Aside0.mk (below_step HB4.out hb); clear hb))
  go_ret
  refine ⟨?_, HB5.out⟩
  simp
end Go.Proofs.YtloojhhjljneeaaDoor.Walk
