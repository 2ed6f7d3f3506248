import Derived.Test.YtnjfddmajiihjaaMg1
import Derived.Test.YtnjfddmajiihjaaPx9
import Derived.Test.YtnjfddmajiihjaaMg4
import Derived.Test.YtnjfddmajiihjaaMg3
import Derived.Test.YtnjfddmajiihjaaPx11
import Derived.Test.YtnjfddmajiihjaaPx12
import Derived.Test.YtnjfddmajiihjaaPx13
import Derived.Test.YtnjfddmajiihjaaPx7
namespace Go.Proofs.Ytnjfddmajiihjaa.Hp
set_option linter.unusedVariables false
set_option linter.unusedSimpArgs false
open Go Go.RowKit Go.Proofs.Ytnjfddmajiihjaa.P Go.Proofs.Ytnjfddmajiihjaa.B Go.Proofs.YtnjfddmajiihjaaW.PrintWords Go.Proofs.YtnjfddmajiihjaaW.PrintLast Go.Proofs.YtnjfddmajiihjaaW.PrintMore
theorem kp {w W W1 : World} {gc g t : Nat} {s : ByteArray} {a e : Int} {cs : Array Value} (hc : IsS91 w W gc s a e) (h : W.heap[g]? = some (.cells cs t (0, 0))) (ht : t ≠ 91) (hk : KeepBut W W1 gc none) : W1.heap[g]? = some (.cells cs t (0, 0)) :=
  hk.blk h (Ne.symm (IsS91.ne_blk hc h ht)) (by simp)
set_option maxHeartbeats 2000000 in
theorem begin_bad (s first : ByteArray) (got s1 : ByteArray) (a1 e1 : Int) (w : World) (h : cursor_Cursor_Take.f s 0 0 first.size = some (got, s1, a1, e1)) (he : e1 ≠ 0) :
    Calls Try.prog 28 #[.string s, .string first] w fun e w' => e = .returned (.tuple #[.pointer none, .int .i64 3]) ∧ Below w.heap.size w w' := by
  have H := Aside0.mk h
  have hd : (e1 != 0) = true := by simp [he]
  clear h he
  go_enter Try.func28, Try.ntmps28
  go_wp2_with (first
    | (go_at_call 42; (with_reducible refine (cursor_Over.calls s s 0 0 w _ (Below.refl _ _) rfl).mono ?_); rintro e w1 ⟨g, rfl, hi, hb, hb2⟩; have HI1 := Aside0.mk hi; have HB1 := Aside0.mk hb; clear hi hb hb2)
    | (go_at_call 31; (with_reducible refine (cursor_Cursor_Take.calls g s 0 0 _ got s1 a1 e1 w _ HI1.out HB1.out H.out).mono ?_); rintro e w2 ⟨rfl, hi, hb, hk⟩; have HI2 := Aside0.mk hi; have HB2 := Aside0.mk hb; clear hi hb hk)
    | (go_at_call 32; (with_reducible refine (cursor_Cursor_Err.calls g s1 a1 e1 e1 s1 a1 e1 w _ HI2.out HB2.out rfl).mono ?_); rintro e w3 ⟨rfl, hi, hb, hk⟩; have HI3 := Aside0.mk hi; have HB3 := Aside0.mk hb; clear hi hb hk))
  first | go_ret2 | go_ret
  exact ⟨rfl, HB3.out⟩
set_option maxHeartbeats 2000000 in
theorem begin_no (s first : ByteArray) (got s1 : ByteArray) (a1 : Int) (w : World) (h : cursor_Cursor_Take.f s 0 0 first.size = some (got, s1, a1, 0)) (he : (got.toList == first.toList) = false) :
    Calls Try.prog 28 #[.string s, .string first] w fun e w' => e = .returned (.tuple #[.pointer none, .int .i64 4]) ∧ Below w.heap.size w w' := by
  have H := Aside0.mk h
  clear h
  go_enter Try.func28, Try.ntmps28
  go_wp2_with (first
    | (go_at_call 42; (with_reducible refine (cursor_Over.calls s s 0 0 w _ (Below.refl _ _) rfl).mono ?_); rintro e w1 ⟨g, rfl, hi, hb, hb2⟩; have HI1 := Aside0.mk hi; have HB1 := Aside0.mk hb; clear hi hb hb2)
    | (go_at_call 31; (with_reducible refine (cursor_Cursor_Take.calls g s 0 0 _ got s1 a1 0 w _ HI1.out HB1.out H.out).mono ?_); rintro e w2 ⟨rfl, hi, hb, hk⟩; have HI2 := Aside0.mk hi; have HB2 := Aside0.mk hb; clear hi hb hk)
    | (go_at_call 32; (with_reducible refine (cursor_Cursor_Err.calls g s1 a1 0 0 s1 a1 0 w _ HI2.out HB2.out rfl).mono ?_); rintro e w3 ⟨rfl, hi, hb, hk⟩; have HI3 := Aside0.mk hi; have HB3 := Aside0.mk hb; clear hi hb hk))
  first | go_ret2 | go_ret
  exact ⟨rfl, HB3.out⟩
set_option maxHeartbeats 2000000 in
theorem begin_ok (s first : ByteArray) (got s1 : ByteArray) (a1 : Int) (w0 w : World) (hB0 : Below w0.heap.size w0 w) (h : cursor_Cursor_Take.f s 0 0 first.size = some (got, s1, a1, 0)) (he : (got.toList == first.toList) = true) :
    Calls Try.prog 28 #[.string s, .string first] w fun e w' => ∃ g : Nat, e = .returned (.tuple #[.pointer (some ⟨g, 0, none⟩), .int .i64 0]) ∧ IsS91 w0 w' g s1 a1 0 ∧ Below w0.heap.size w0 w' ∧ Below w.heap.size w w' := by
  have H := Aside0.mk h
  have HX := Aside0.mk hB0
  clear h hB0
  go_enter Try.func28, Try.ntmps28
  go_wp2_with (first
    | (go_at_call 42; (with_reducible refine (cursor_Over.calls s s 0 0 w _ (Below.refl _ _) rfl).mono ?_); rintro e w1 ⟨g, rfl, hi, hb, hb2⟩; have HI1 := Aside0.mk hi; have HB1 := Aside0.mk hb; clear hi hb hb2)
    | (go_at_call 31; (with_reducible refine (cursor_Cursor_Take.calls g s 0 0 _ got s1 a1 0 w _ HI1.out HB1.out H.out).mono ?_); rintro e w2 ⟨rfl, hi, hb, hk⟩; have HI2 := Aside0.mk hi; have HB2 := Aside0.mk hb; clear hi hb hk)
    | (go_at_call 32; (with_reducible refine (cursor_Cursor_Err.calls g s1 a1 0 0 s1 a1 0 w _ HI2.out HB2.out rfl).mono ?_); rintro e w3 ⟨rfl, hi, hb, hk⟩; have HI3 := Aside0.mk hi; have HB3 := Aside0.mk hb; clear hi hb hk))
  first | go_ret2 | go_ret
  exact ⟨g, rfl, ⟨HI3.out.1, Nat.le_trans HX.out.size HI3.out.2⟩, below_step HX.out HB3.out, HB3.out⟩
end Go.Proofs.Ytnjfddmajiihjaa.Hp
namespace Go.Proofs.Ytnjfddmajiihjaa.Hp
set_option linter.unusedVariables false
set_option linter.unusedSimpArgs false
open Go Go.RowKit Go.Proofs.Ytnjfddmajiihjaa.P Go.Proofs.Ytnjfddmajiihjaa.B Go.Proofs.Ytnjfddmajiihjaa.Num Go.Proofs.Ytnjfddmajiihjaa.Cur Go.Proofs.YtnjfddmajiihjaaW.PrintWords Go.Proofs.YtnjfddmajiihjaaW.PrintLast Go.Proofs.YtnjfddmajiihjaaW.PrintMore
def opf (w : Nat) (s : ByteArray) (a e : Int) : Option (Int × ByteArray × Int × Int) := if w = 2 then cursor_Cursor_Two.f 40 s a e else if w = 4 then cursor_Cursor_Four.f 40 s a e else cursor_Cursor_Eight.f 40 s a e
def numsL : List Nat → List UInt8 → List Int
  | [], _ => []
  | w :: ws, R => ((leN (R.take w) : Nat) : Int) :: numsL ws (R.drop w)
def chain : List Nat → ByteArray → Int → Int → Option (List Int × ByteArray × Int × Int)
  | [], s, a, e => some ([], s, a, e)
  | w :: ws, s, a, e => (opf w s a e).bind fun t => (chain ws t.2.1 t.2.2.1 t.2.2.2).bind fun u => some (t.1 :: u.1, u.2.1, u.2.2.1, u.2.2.2)
def Wd (w : Nat) : Prop := w = 2 ∨ w = 4 ∨ w = 8
theorem op_ok {w : Nat} (hw : Wd w) {s : ByteArray} {a : Int} {R : List UInt8} (h : At s a R) (hl : w ≤ R.length) : opf w s a 0 = some (((leN (R.take w) : Nat) : Int), s, a + w, 0) := by
  have h' : At s a (R.take w ++ R.drop w) := by rw [List.take_append_drop]; exact h
  have hn : (R.take w).length = w := by rw [List.length_take]; omega
  unfold opf
  rcases hw with rfl | rfl | rfl
  · rw [if_pos rfl, two_at h' hn 40 (by omega), hn]
  · rw [if_neg (by omega), if_pos rfl, four_at h' hn 40 (by omega), hn]
  · rw [if_neg (by omega), if_neg (by omega), eight_at h' hn 40 (by omega), hn]
theorem op_fail {w : Nat} (hw : Wd w) {s : ByteArray} {a : Int} {R : List UInt8} (h : At s a R) (hl : R.length < w) : opf w s a 0 = some (0, s, a, 3) := by
  unfold opf
  rcases hw with rfl | rfl | rfl
  · rw [if_pos rfl, two_fail h hl 40 (by omega)]
  · rw [if_neg (by omega), if_pos rfl, four_fail h hl 40 (by omega)]
  · rw [if_neg (by omega), if_neg (by omega), eight_fail h hl 40 (by omega)]
theorem op_bad {w : Nat} {s : ByteArray} {a e : Int} (he : e ≠ 0) : opf w s a e = some (0, s, a, e) := by
  unfold opf
  split
  · exact two_bad he 40 (by omega)
  split
  · exact four_bad he 40 (by omega)
  · exact eight_bad he 40 (by omega)
theorem chain_bad {s : ByteArray} {a e : Int} (he : e ≠ 0) : ∀ ws, ∃ vs, chain ws s a e = some (vs, s, a, e)
  | [] => ⟨[], rfl⟩
  | w :: ws => by
    obtain ⟨vs, h⟩ := chain_bad (s := s) (a := a) he ws
    exact ⟨0 :: vs, by unfold chain; rw [op_bad he, Option.bind_some]; dsimp only; rw [h, Option.bind_some]⟩
theorem at_drop {s : ByteArray} {a : Int} {R : List UInt8} (h : At s a R) (w : Nat) (hl : w ≤ R.length) : At s (a + w) (R.drop w) := by
  have h' : At s a (R.take w ++ R.drop w) := by rw [List.take_append_drop]; exact h
  have := h'.on
  rwa [show (R.take w).length = w by rw [List.length_take]; omega] at this
theorem chain_ok {s : ByteArray} : ∀ (ws : List Nat) (a : Int) (R : List UInt8), (∀ w ∈ ws, Wd w) → At s a R → ws.sum ≤ R.length → chain ws s a 0 = some (numsL ws R, s, a + (ws.sum : Nat), 0)
  | [], a, R, hw, h, hl => by simp [chain, numsL]
  | w :: ws, a, R, hw, h, hl => by
    rw [List.sum_cons] at hl
    unfold chain
    rw [op_ok (hw w (by simp)) h (by omega), Option.bind_some]
    dsimp only
    rw [chain_ok ws (a + w) (R.drop w) (fun x hx => hw x (by simp [hx])) (at_drop h w (by omega)) (by rw [List.length_drop]; omega), Option.bind_some, List.sum_cons]
    dsimp only [numsL]
    congr 4
    omega
theorem chain_fail {s : ByteArray} : ∀ (ws : List Nat) (a : Int) (R : List UInt8), (∀ w ∈ ws, Wd w) → At s a R → R.length < ws.sum → ∃ vs b, chain ws s a 0 = some (vs, s, b, 3)
  | [], a, R, hw, h, hl => by simp at hl
  | w :: ws, a, R, hw, h, hl => by
    rw [List.sum_cons] at hl
    by_cases hlw : R.length < w
    · obtain ⟨vs, hc⟩ := chain_bad (s := s) (a := a) (e := 3) (by decide) ws
      exact ⟨0 :: vs, a, by unfold chain; rw [op_fail (hw w (by simp)) h hlw, Option.bind_some]; dsimp only; rw [hc, Option.bind_some]⟩
    · obtain ⟨vs, b, hc⟩ := chain_fail ws (a + w) (R.drop w) (fun x hx => hw x (by simp [hx])) (at_drop h w (by omega)) (by rw [List.length_drop]; omega)
      exact ⟨_ :: vs, b, by unfold chain; rw [op_ok (hw w (by simp)) h (by omega), Option.bind_some]; dsimp only; rw [hc, Option.bind_some]⟩
def textsL : List Nat → List UInt8 → List ByteArray
  | [], _ => []
  | n :: ns, R => strN (R.take n) :: textsL ns (R.drop n)
def tchain : List Int → ByteArray → Int → Int → Option (List ByteArray × ByteArray × Int × Int)
  | [], s, a, e => some ([], s, a, e)
  | n :: ns, s, a, e => (cursor_Cursor_Take.f s a e n).bind fun t => (tchain ns t.2.1 t.2.2.1 t.2.2.2).bind fun u => some (t.1 :: u.1, u.2.1, u.2.2.1, u.2.2.2)
theorem tchain_bad {s : ByteArray} {a e : Int} (he : e ≠ 0) : ∀ ns, ∃ vs, tchain ns s a e = some (vs, s, a, e)
  | [] => ⟨[], rfl⟩
  | n :: ns => by
    obtain ⟨vs, h⟩ := tchain_bad (s := s) (a := a) he ns
    exact ⟨strN [] :: vs, by unfold tchain; rw [take_bad he, Option.bind_some]; dsimp only; rw [h, Option.bind_some]⟩
theorem tchain_ok {s : ByteArray} : ∀ (ns : List Nat) (a : Int) (R : List UInt8), At s a R → ns.sum ≤ R.length → tchain (ns.map fun n : Nat => (n : Int)) s a 0 = some (textsL ns R, s, a + (ns.sum : Nat), 0)
  | [], a, R, h, hl => by simp [tchain, textsL]
  | n :: ns, a, R, h, hl => by
    rw [List.sum_cons] at hl
    have h' : At s a (R.take n ++ R.drop n) := by rw [List.take_append_drop]; exact h
    have hn : (R.take n).length = n := by rw [List.length_take]; omega
    rw [List.map_cons]
    unfold tchain
    rw [take_at h' (by rw [hn]), Option.bind_some]
    dsimp only
    rw [hn, tchain_ok ns (a + n) (R.drop n) (at_drop h n (by omega)) (by rw [List.length_drop]; omega), Option.bind_some, List.sum_cons]
    dsimp only [textsL]
    congr 4
    omega
theorem tchain_fail {s : ByteArray} : ∀ (ns : List Nat) (a : Int) (R : List UInt8), At s a R → R.length < ns.sum → ∃ vs b, tchain (ns.map fun n : Nat => (n : Int)) s a 0 = some (vs, s, b, 3)
  | [], a, R, h, hl => by simp at hl
  | n :: ns, a, R, h, hl => by
    rw [List.sum_cons] at hl
    rw [List.map_cons]
    by_cases hlw : R.length < n
    · obtain ⟨vs, hc⟩ := tchain_bad (s := s) (a := a) (e := 3) (by decide) (ns.map fun n : Nat => (n : Int))
      exact ⟨strN [] :: vs, a, by unfold tchain; rw [take_fail h (.inr (by omega)), Option.bind_some]; dsimp only; rw [hc, Option.bind_some]⟩
    · have h' : At s a (R.take n ++ R.drop n) := by rw [List.take_append_drop]; exact h
      have hn : (R.take n).length = n := by rw [List.length_take]; omega
      obtain ⟨vs, b, hc⟩ := tchain_fail ns (a + n) (R.drop n) (at_drop h n (by omega)) (by rw [List.length_drop]; omega)
      exact ⟨strN (R.take n) :: vs, b, by unfold tchain; rw [take_at h' (by rw [hn]), Option.bind_some]; dsimp only; rw [hn, hc, Option.bind_some]⟩
theorem nums_len : ∀ (ws : List Nat) (R : List UInt8), (numsL ws R).length = ws.length
  | [], _ => rfl
  | w :: ws, R => by simp [numsL, nums_len ws]
theorem nums_range : ∀ (ws : List Nat) (R : List UInt8), (∀ w ∈ ws, Wd w) → ∀ v ∈ numsL ws R, 0 ≤ v ∧ v < 18446744073709551616
  | [], R, hw, v, hv => by cases hv
  | w :: ws, R, hw, v, hv => by
    unfold numsL at hv
    rcases List.mem_cons.1 hv with rfl | hv
    · have h1 := leN_lt (R.take w)
      have h2 : (R.take w).length ≤ w := by rw [List.length_take]; omega
      have h3 : 256 ^ (R.take w).length ≤ 256 ^ 8 := Nat.pow_le_pow_right (by omega) (by have := hw w (by simp); unfold Wd at this; omega)
      have h4 : (256 : Nat) ^ 8 = 18446744073709551616 := by decide
      omega
    · exact nums_range ws _ (fun x hx => hw x (by simp [hx])) v hv
theorem sum_loop (W : List Nat) (hW : W.sum ≤ 1000000) (hl : W.length ≤ 1000) : ∀ (d k : Nat) (i : Nat) (x : Nat), i + d = W.length → d < k → x + (W.drop i).sum ≤ 1000000 → portmanteauref17_sum.l0 k (x : Int) (W.map fun n : Nat => (n : Int)) (W.length : Int) (i : Int) = some (((x + (W.drop i).sum : Nat)) : Int) := by
  intro d
  induction d with
  | zero =>
    intro k i x h hk hx
    obtain ⟨k, rfl⟩ : ∃ m, k = m + 1 := ⟨k - 1, by omega⟩
    simp only [portmanteauref17_sum.l0]
    rw [if_neg (by omega), List.drop_eq_nil_of_le (by omega)]
    simp
  | succ d ih =>
    intro k i x h hk hx
    obtain ⟨k, rfl⟩ : ∃ m, k = m + 1 := ⟨k - 1, by omega⟩
    have hi : i < W.length := by omega
    have hd := List.drop_eq_getElem_cons hi
    rw [hd, List.sum_cons] at hx
    have hrd : rd (W.map fun n : Nat => (n : Int)) (i : Int) = ((W[i] : Nat) : Int) := by
      unfold rd; rw [List.getD_eq_getElem?_getD, Int.toNat_natCast, List.getElem?_map, List.getElem?_eq_getElem hi]; rfl
    simp only [portmanteauref17_sum.l0]
    rw [if_pos (by omega), if_pos (by omega), if_pos (by rw [List.length_map]; omega), hrd, wrap_id (x := (x : Int) + ((W[i] : Nat) : Int)) (by omega) (by omega), wrap_id (x := (i : Int) + 1) (by omega) (by omega)]
    have := ih k (i + 1) (x + W[i]) (by omega) (by omega) (by omega)
    rw [hd, List.sum_cons]
    rw [show (x : Int) + ((W[i] : Nat) : Int) = ((x + W[i] : Nat) : Int) by omega, show (i : Int) + 1 = ((i + 1 : Nat) : Int) by omega, this]
    congr 2
    omega
theorem row_loop (W : List Nat) (hw : ∀ w ∈ W, Wd w) (hl : W.length ≤ 1000) : ∀ (d k : Nat) (i : Nat) (acc : List Int) (s : ByteArray), i + d = W.length → d + 20 < k → (W.drop i).sum ≤ s.size → s.size ≤ 1000000 → acc.length ≤ 1000 + i →
    portmanteauref17_Row.l0 k s acc (W.map fun n : Nat => (n : Int)) (W.length : Int) (i : Int) = some (acc ++ numsL (W.drop i) s.data.toList) := by
  intro d
  induction d with
  | zero =>
    intro k i acc s h hk hx hs ha
    obtain ⟨k, rfl⟩ : ∃ m, k = m + 1 := ⟨k - 1, by omega⟩
    simp only [portmanteauref17_Row.l0]
    rw [if_neg (by omega), List.drop_eq_nil_of_le (by omega)]
    simp [numsL]
  | succ d ih =>
    intro k i acc s h hk hx hs ha
    obtain ⟨k, rfl⟩ : ∃ m, k = m + 1 := ⟨k - 1, by omega⟩
    have hi : i < W.length := by omega
    have hd := List.drop_eq_getElem_cons hi
    rw [hd, List.sum_cons] at hx
    have hrd : rd (W.map fun n : Nat => (n : Int)) (i : Int) = ((W[i] : Nat) : Int) := by
      unfold rd; rw [List.getD_eq_getElem?_getD, Int.toNat_natCast, List.getElem?_map, List.getElem?_eq_getElem hi]; rfl
    have hwi := hw W[i] (List.getElem_mem hi)
    have h8 : W[i] ≤ 8 := by unfold Wd at hwi; omega
    simp only [portmanteauref17_Row.l0]
    rw [if_pos (by omega), if_pos (by omega), if_pos (by rw [List.length_map]; omega), hrd, if_pos (by omega), if_pos (by omega), Int.toNat_natCast]
    have e1 : (s.extract 0 W[i]).size ≤ 8 := by simp; omega
    rw [ref_number_eq (s.extract 0 W[i]) e1 k (by omega), Option.bind_some, if_pos (by omega), wrap_id (x := (i : Int) + 1) (by omega) (by omega)]
    have e2 : (s.extract W[i] s.size).data.toList = s.data.toList.drop W[i] := by
      rw [extract_list, List.take_of_length_le (by rw [toList_length]; exact Nat.le_refl _)]
    have e3 : (s.extract 0 W[i]).data.toList = s.data.toList.take W[i] := by rw [extract_list]; simp
    have := ih k (i + 1) (acc ++ [((leN (s.extract 0 W[i]).data.toList : Nat) : Int)]) (s.extract W[i] s.size) (by omega) (by omega) (by simp; omega) (by simp; omega) (by simp; omega)
    rw [show (i : Int) + 1 = ((i + 1 : Nat) : Int) by omega, this, hd, e2, e3]
    simp [numsL]
theorem texts_loop (s : ByteArray) (hs : s.size ≤ 1000000) (l : List Int) (T : List Nat) (hT : T.length ≤ 1000) (ht : ∀ t ∈ T, t < l.length) (K : List Nat) (hK : K = T.map fun t => (l.getD t 0).toNat) (hnn : ∀ t ∈ T, 0 ≤ l.getD t 0 ∧ l.getD t 0 ≤ 1000000000) :
    ∀ (d k i : Nat) (n : Nat) (out : List ByteArray), i + d = T.length → d < k → n ≤ s.size → out.length ≤ i →
    portmanteauref17_Parse.l0 k s (n : Int) l out (T.map fun t : Nat => (t : Int)) (T.length : Int) (i : Int) = some (if s.size < n + (K.drop i).sum then ([], [], 0, 3) else (l, out ++ textsL (K.drop i) (s.data.toList.drop n), ((n + (K.drop i).sum : Nat) : Int), 0)) := by
  intro d
  induction d with
  | zero =>
    intro k i n out h hk hn ho
    obtain ⟨k, rfl⟩ : ∃ m, k = m + 1 := ⟨k - 1, by omega⟩
    have : K.drop i = [] := List.drop_eq_nil_of_le (by rw [hK, List.length_map]; omega)
    simp only [portmanteauref17_Parse.l0]
    rw [if_neg (by omega), this]
    simp [textsL]
    omega
  | succ d ih =>
    intro k i n out h hk hn ho
    obtain ⟨k, rfl⟩ : ∃ m, k = m + 1 := ⟨k - 1, by omega⟩
    have hi : i < T.length := by omega
    have hiK : i < K.length := by rw [hK, List.length_map]; omega
    have hd := List.drop_eq_getElem_cons hiK
    have hrd : rd (T.map fun t : Nat => (t : Int)) (i : Int) = ((T[i] : Nat) : Int) := by
      unfold rd; rw [List.getD_eq_getElem?_getD, Int.toNat_natCast, List.getElem?_map, List.getElem?_eq_getElem hi]; rfl
    have hti := ht T[i] (List.getElem_mem hi)
    have hni := hnn T[i] (List.getElem_mem hi)
    have hrl : rd l ((T[i] : Nat) : Int) = l.getD T[i] 0 := by unfold rd; rw [Int.toNat_natCast]
    have hKi : ((K[i] : Nat) : Int) = l.getD T[i] 0 := by simp only [hK, List.getElem_map]; omega
    obtain ⟨q, hq⟩ : ∃ q, K[i] = q := ⟨_, rfl⟩
    rw [hq] at hKi hd
    simp only [portmanteauref17_Parse.l0]
    rw [if_pos (by omega), if_pos (by omega), if_pos (by rw [List.length_map]; omega), hrd, if_pos (by omega), if_pos (by omega), hrl, ← hKi, wrap_id (x := (q : Int)) (by omega) (by omega), wrap_id (x := (n : Int) + (q : Int)) (by omega) (by omega)]
    rw [hd, List.sum_cons]
    by_cases hsh : s.size < n + q
    · rw [if_pos (by omega), if_pos (by omega)]
    · rw [if_neg (by omega), if_pos (by omega), if_pos (by omega), if_pos (by omega), if_pos (by omega), wrap_id (x := (i : Int) + 1) (by omega) (by omega)]
      have := ih k (i + 1) (n + q) (out ++ [s.extract n (n + q)]) (by omega) (by omega) (by omega) (by simp; omega)
      have e : s.extract n (n + q) = strN ((s.data.toList.drop n).take q) := by
        apply ext_list
        rw [extract_list, strN_data, List.drop_take, Nat.add_sub_cancel_left]
      rw [show (n : Int).toNat = n by omega, show ((n : Int) + (q : Int)).toNat = n + q by omega, show (n : Int) + (q : Int) = ((n + q : Nat) : Int) by omega, show (i : Int) + 1 = ((i + 1 : Nat) : Int) by omega, this, e]
      simp only [textsL, List.append_assoc, List.cons_append, List.nil_append, List.drop_drop]
      rw [show n + q + (K.drop (i + 1)).sum = n + (q + (K.drop (i + 1)).sum) by omega]
end Go.Proofs.Ytnjfddmajiihjaa.Hp
namespace Go.Proofs.Ytnjfddmajiihjaa.Num
set_option linter.unusedVariables false
set_option linter.unusedSimpArgs false
open Go Go.RowKit Go.Proofs.Ytnjfddmajiihjaa.P Go.Proofs.Ytnjfddmajiihjaa.B Go.Proofs.YtnjfddmajiihjaaW.PrintWords Go.Proofs.YtnjfddmajiihjaaW.PrintLast Go.Proofs.YtnjfddmajiihjaaW.PrintMore
theorem ref_of_loop (n c : Nat) (a1 : Int) (hc : a1.toNat = c) : ∀ (d k i m : Nat) (xs : List Int), i + d = min c 64 → m = n / 256 ^ i → n < 2 ^ 64 → xs = (ofN i n).map (fun b => (b.toNat : Int)) → d < k →
    portmanteauref01_Of.l0 k (m : Int) a1 xs (i : Int) = some (strN (ofN (min c 64) n)) := by
  intro d
  induction d with
  | zero =>
    intro k i m xs hd hm hn hx hk
    obtain ⟨k, rfl⟩ : ∃ m, k = m + 1 := ⟨k - 1, by omega⟩
    have hs : strOfNums xs = strN (ofN (min c 64) n) := by
      rw [show min c 64 = i by omega]; exact strN_eq _ _ hx
    simp only [portmanteauref01_Of.l0]
    by_cases h1 : (i : Int) < a1
    · rw [if_pos h1, if_neg (by omega), hs]
    · rw [if_neg h1, hs]
  | succ d ih =>
    intro k i m xs hd hm hn hx hk
    obtain ⟨k, rfl⟩ : ∃ m, k = m + 1 := ⟨k - 1, by omega⟩
    have hlen : xs.length = i := by rw [hx]; simp [ofN_length]
    have hm2 : m < 18446744073709551616 := by
      have : n / 256 ^ i ≤ n := Nat.div_le_self _ _
      omega
    simp only [portmanteauref01_Of.l0]
    rw [if_pos (by omega), if_pos (by omega), if_pos (by omega), wrap_id (by omega) (by omega)]
    have e1 : IntKind.u64.wrap (Int.tdiv (m : Int) 256) = ((m / 256 : Nat) : Int) := by
      rw [Int.tdiv_eq_ediv_of_nonneg (by omega), u64_id (by omega) (by omega)]
      simp
    have e2 : Int.tmod (m : Int) 256 % 256 = ((m % 256 : Nat) : Int) := by
      rw [Int.tmod_eq_emod_of_nonneg (by omega)]
      omega
    rw [e1, e2]
    refine ih k (i + 1) (m / 256) _ (by omega) ?_ hn ?_ (by omega)
    · rw [hm, Nat.div_div_eq_div_mul, Nat.pow_succ]
    · rw [hx]
      have : ofN (i + 1) n = ofN i n ++ [UInt8.ofNat (n / 256 ^ i % 256)] := by
        apply List.ext_getElem?
        intro j
        by_cases h1 : j < i
        · rw [List.getElem?_append_left (by simpa [ofN_length] using h1), ofN_get _ _ _ (by omega), ofN_get _ _ _ h1]
        · by_cases h2 : j = i
          · subst h2
            rw [List.getElem?_append_right (by simp [ofN_length]), ofN_get _ _ _ (by omega)]
            simp [ofN_length]
          · rw [List.getElem?_eq_none (by simp [ofN_length]; omega), List.getElem?_eq_none (by simp [ofN_length]; omega)]
      rw [this, List.map_append, ← hm]
      simp
theorem ref_of_eq (n : Nat) (hn : n < 2 ^ 64) (a1 : Int) (k : Nat) (hk : 64 < k) : portmanteauref01_Of.f k (n : Int) a1 = some (strN (ofI n a1)) := by
  unfold portmanteauref01_Of.f ofI
  exact ref_of_loop n a1.toNat a1 rfl (min a1.toNat 64) k 0 n [] (by omega) (by simp) hn rfl (by omega)
end Go.Proofs.Ytnjfddmajiihjaa.Num
namespace Go.Proofs.Ytnjfddmajiihjaa.Hp
set_option linter.unusedVariables false
set_option linter.unusedSimpArgs false
open Go Go.RowKit Go.Proofs.Ytnjfddmajiihjaa.P Go.Proofs.Ytnjfddmajiihjaa.B Go.Proofs.Ytnjfddmajiihjaa.Num Go.Proofs.Ytnjfddmajiihjaa.Cur Go.Proofs.YtnjfddmajiihjaaW.PrintWords Go.Proofs.YtnjfddmajiihjaaW.PrintLast Go.Proofs.YtnjfddmajiihjaaW.PrintMore
theorem op2 (s : ByteArray) (a e : Int) : opf 2 s a e = cursor_Cursor_Two.f 40 s a e := by unfold opf; rw [if_pos rfl]
theorem op4 (s : ByteArray) (a e : Int) : opf 4 s a e = cursor_Cursor_Four.f 40 s a e := by unfold opf; rw [if_neg (by omega), if_pos rfl]
theorem op8 (s : ByteArray) (a e : Int) : opf 8 s a e = cursor_Cursor_Eight.f 40 s a e := by unfold opf; rw [if_neg (by omega), if_neg (by omega)]
theorem chain_cons {w : Nat} {ws : List Nat} {s s' : ByteArray} {a e a' e' : Int} {vs : List Int} (h : chain (w :: ws) s a e = some (vs, s', a', e')) : ∃ v s1 a1 e1 us, opf w s a e = some (v, s1, a1, e1) ∧ chain ws s1 a1 e1 = some (us, s', a', e') ∧ vs = v :: us := by
  unfold chain at h
  obtain ⟨⟨v, s1, a1, e1⟩, h1, h⟩ := Option.bind_eq_some_iff.1 h
  obtain ⟨⟨us, s2, a2, e2⟩, h2, h⟩ := Option.bind_eq_some_iff.1 h
  simp only [Option.some.injEq, Prod.mk.injEq] at h
  obtain ⟨rfl, rfl, rfl, rfl⟩ := h
  exact ⟨v, s1, a1, e1, us, h1, h2, rfl⟩
theorem chain_nil {s s' : ByteArray} {a e a' e' : Int} {vs : List Int} (h : chain [] s a e = some (vs, s', a', e')) : s' = s ∧ a' = a ∧ e' = e ∧ vs = [] := by
  simp only [chain, Option.some.injEq, Prod.mk.injEq] at h
  obtain ⟨rfl, rfl, rfl, rfl⟩ := h
  exact ⟨rfl, rfl, rfl, rfl⟩
theorem tchain_cons {n : Int} {ns : List Int} {s s' : ByteArray} {a e a' e' : Int} {vs : List ByteArray} (h : tchain (n :: ns) s a e = some (vs, s', a', e')) : ∃ v s1 a1 e1 us, cursor_Cursor_Take.f s a e n = some (v, s1, a1, e1) ∧ tchain ns s1 a1 e1 = some (us, s', a', e') ∧ vs = v :: us := by
  unfold tchain at h
  obtain ⟨⟨v, s1, a1, e1⟩, h1, h⟩ := Option.bind_eq_some_iff.1 h
  obtain ⟨⟨us, s2, a2, e2⟩, h2, h⟩ := Option.bind_eq_some_iff.1 h
  simp only [Option.some.injEq, Prod.mk.injEq] at h
  obtain ⟨rfl, rfl, rfl, rfl⟩ := h
  exact ⟨v, s1, a1, e1, us, h1, h2, rfl⟩
theorem tchain_nil {s s' : ByteArray} {a e a' e' : Int} {vs : List ByteArray} (h : tchain [] s a e = some (vs, s', a', e')) : s' = s ∧ a' = a ∧ e' = e ∧ vs = [] := by
  simp only [tchain, Option.some.injEq, Prod.mk.injEq] at h
  obtain ⟨rfl, rfl, rfl, rfl⟩ := h
  exact ⟨rfl, rfl, rfl, rfl⟩
theorem leN_inj : ∀ (a b : List UInt8), a.length = b.length → leN a = leN b → a = b
  | [], [], _, _ => rfl
  | x :: a, y :: b, hl, h => by
    simp only [leN] at h
    have hx := x.toNat_lt
    have hy := y.toNat_lt
    have h1 : x.toNat = y.toNat := by omega
    have h2 : leN a = leN b := by omega
    rw [UInt8.toNat_inj.1 h1, leN_inj a b (by simpa using hl) h2]
theorem first_four (s : ByteArray) (hs : s.size ≤ 3000) (h : 4 ≤ s.size) : cursor_Cursor_Take.f s 0 0 4 = some (strN (s.data.toList.take 4), s, 4, 0) := by
  have hl : (s.data.toList.take 4).length = 4 := by rw [List.length_take, toList_length]; omega
  have h0 := At.start s (by omega)
  have h' : At s 0 (s.data.toList.take 4 ++ s.data.toList.drop 4) := by rw [List.take_append_drop]; exact h0
  have := take_at (n := 4) h' (by rw [hl]; rfl)
  rw [hl] at this
  exact this
theorem first_none (s : ByteArray) (hs : s.size ≤ 3000) (h : s.size < 4) : cursor_Cursor_Take.f s 0 0 4 = some (strN [], s, 0, 3) := take_fail (At.start s (by omega)) (.inr (by rw [toList_length]; omega))
theorem at_four (s : ByteArray) (hs : s.size ≤ 3000) (h : 4 ≤ s.size) : At s 4 (s.data.toList.drop 4) := by
  have := at_drop (At.start s (by omega)) 4 (by rw [toList_length]; omega)
  simpa using this
theorem strN_toList (l : List UInt8) : (strN l).toList = l := by rw [toL]; rfl
def specR (s : ByteArray) (mark : List UInt8) (ws T : List Nat) : List Int × List ByteArray × Int × Int :=
  if s.size < 4 then ([], [], 0, 3) else if s.data.toList.take 4 = mark then
    (if s.size < 4 + ws.sum then ([], [], 0, 3)
     else if s.size < 4 + ws.sum + (T.map fun t => ((((leN mark : Nat) : Int) :: numsL ws (s.data.toList.drop 4)).getD t 0).toNat).sum then ([], [], 0, 3)
     else (((leN mark : Nat) : Int) :: numsL ws (s.data.toList.drop 4), textsL (T.map fun t => ((((leN mark : Nat) : Int) :: numsL ws (s.data.toList.drop 4)).getD t 0).toNat) (s.data.toList.drop (4 + ws.sum)), ((4 + ws.sum + (T.map fun t => ((((leN mark : Nat) : Int) :: numsL ws (s.data.toList.drop 4)).getD t 0).toNat).sum : Nat) : Int), 0))
  else ([], [], 0, 4)
theorem ref_parse (s : ByteArray) (hs : s.size ≤ 3000) (mark : List UInt8) (hm : mark.length = 4) (ws T : List Nat) (hw : ∀ w ∈ ws, Wd w) (hwl : ws.length ≤ 100) (hsum : ws.sum ≤ 1000) (hT : T.length ≤ 100) (ht : ∀ t ∈ T, t < ws.length + 1)
    (hsm : 4 ≤ s.size → s.data.toList.take 4 = mark → 4 + ws.sum ≤ s.size → ∀ t ∈ T, (((leN mark : Nat) : Int) :: numsL ws (s.data.toList.drop 4)).getD t 0 ≤ 1000000000) (k : Nat) (hk : 300 ≤ k) :
    portmanteauref17_Parse.f k s ((4 :: ws).map fun n : Nat => (n : Int)) ((leN mark : Nat) : Int) (T.map fun n : Nat => (n : Int)) = some (specR s mark ws T) := by
  unfold portmanteauref17_Parse.f specR
  by_cases h4 : s.size < 4
  · rw [if_pos (by omega), if_pos h4]
  rw [if_neg (by omega), if_neg h4, if_pos (by omega), if_pos (by omega)]
  have e4 : (s.extract 0 4).data.toList = s.data.toList.take 4 := by rw [extract_list]; simp
  rw [ref_number_eq (s.extract 0 4) (by simp; omega) k (by omega), Option.bind_some, e4]
  by_cases hmk : s.data.toList.take 4 = mark
  · rw [if_pos (by rw [hmk]), if_pos hmk]
    have hsl := sum_loop (4 :: ws) (by rw [List.sum_cons]; omega) (by simp; omega) (ws.length + 1) k 0 0 (by simp) (by omega) (by simp; omega)
    unfold portmanteauref17_sum.f
    rw [List.length_map]
    rw [show ((0 : Nat) : Int) = 0 from rfl] at hsl
    rw [hsl, Option.bind_some]
    have hz : 0 + ((4 :: ws).drop 0).sum = 4 + ws.sum := by simp
    rw [hz]
    by_cases hf : s.size < 4 + ws.sum
    · rw [if_pos (by omega), if_pos hf]
    · rw [if_neg (by omega), if_neg hf]
      have hrow := row_loop (4 :: ws) (by intro w h; rcases List.mem_cons.1 h with rfl | h; exact .inr (.inl rfl); exact hw w h) (by simp; omega) (ws.length + 1) k 0 [] s (by simp) (by omega) (by simpa using (show 4 + ws.sum ≤ s.size by omega)) (by omega) (by simp)
      unfold portmanteauref17_Row.f
      rw [List.length_map]
      rw [show ((0 : Nat) : Int) = 0 from rfl] at hrow
      rw [hrow, Option.bind_some]
      have hnum : ([] : List Int) ++ numsL ((4 :: ws).drop 0) s.data.toList = ((leN mark : Nat) : Int) :: numsL ws (s.data.toList.drop 4) := by simp [numsL, hmk]
      rw [hnum]
      obtain ⟨l, hl⟩ : ∃ l, ((leN mark : Nat) : Int) :: numsL ws (s.data.toList.drop 4) = l := ⟨_, rfl⟩
      have hll : l.length = ws.length + 1 := by rw [← hl]; simp [nums_len]
      have hnv : ∀ v ∈ l, 0 ≤ v := by
        rw [← hl]
        intro v hv
        rcases List.mem_cons.1 hv with rfl | hv
        · omega
        · exact (nums_range ws _ hw _ hv).1
      have hnn : ∀ t ∈ T, 0 ≤ l.getD t 0 ∧ l.getD t 0 ≤ 1000000000 := by
        intro t htm
        have h1 := hsm (by omega) hmk (by omega) t htm
        rw [hl] at h1
        refine ⟨?_, h1⟩
        have htl := ht t htm
        rw [List.getD_eq_getElem?_getD, List.getElem?_eq_getElem (by omega)]
        exact hnv _ (List.getElem_mem _)
      rw [hl]
      have htx := texts_loop s (by omega) l T (by omega) (fun t h => by rw [hll]; exact ht t h) (T.map fun t => (l.getD t 0).toNat) rfl hnn T.length k 0 (4 + ws.sum) [] (by simp) (by omega) (by omega) (by simp)
      rw [List.length_map]
      rw [show ((0 : Nat) : Int) = 0 from rfl] at htx
      rw [htx]
      simp only [List.drop_zero, List.nil_append]
  · rw [if_neg (fun h => hmk (leN_inj _ _ (by rw [List.length_take, toList_length, hm]; omega) (by omega))), if_neg hmk]
end Go.Proofs.Ytnjfddmajiihjaa.Hp
