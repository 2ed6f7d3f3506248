import Derived.Test.YtnjfddmajiihjaaMg1
import Derived.Test.YtnjfddmajiihjaaPx9
import Derived.Test.YtnjfddmajiihjaaMg2
import Derived.Test.YtnjfddmajiihjaaMg3
import Derived.Test.YtnjfddmajiihjaaPx11
import Derived.Test.YtnjfddmajiihjaaPx12
import Derived.Test.YtnjfddmajiihjaaPx13
import Derived.Test.YtnjfddmajiihjaaPx7
namespace Go.Proofs.Ytnjfddmajiihjaa.Hp
set_option linter.unusedVariables false
set_option linter.unusedSimpArgs false
open Go Go.RowKit Go.Proofs.Ytnjfddmajiihjaa.P Go.Proofs.Ytnjfddmajiihjaa.B Go.Proofs.YtnjfddmajiihjaaW.PrintWords Go.Proofs.YtnjfddmajiihjaaW.PrintLast Go.Proofs.YtnjfddmajiihjaaW.PrintMore
theorem kp {w W W1 : World} {gc g t : Nat} {s : ByteArray} {a e : Int} {cs : Array Value} (hc : IsS91 w W gc s a e) (h : W.heap[g]? = some (.cells cs t (0, 0))) (ht : t ≠ 91) (hk : KeepBut W W1 gc none) : W1.heap[g]? = some (.cells cs t (0, 0)) :=
  hk.blk h (Ne.symm (IsS91.ne_blk hc h ht)) (by simp)
set_option maxHeartbeats 2000000 in
theorem begin_bad (s first : ByteArray) (got s1 : ByteArray) (a1 e1 : Int) (w : World) (h : cursor_Cursor_Take.f s 0 0 first.size = some (got, s1, a1, e1)) (he : e1 ≠ 0) :
    Calls Try.prog 28 #[.string s, .string first] w fun e w' => e = .returned (.tuple #[.pointer none, .int .i64 3]) ∧ Below w.heap.size w w' := by
  have H := Aside0.mk h
  have hd : (e1 != 0) = true := by simp [he]
  clear h he
  go_enter Try.func28, Try.ntmps28
  go_wp2_with (first
    | (go_at_call 42; (with_reducible refine (cursor_Over.calls s s 0 0 w _ (Below.refl _ _) rfl).mono ?_); rintro e w1 ⟨g, rfl, hi, hb, hb2⟩; have HI1 := Aside0.mk hi; have HB1 := Aside0.mk hb; clear hi hb hb2)
    | (go_at_call 31; (with_reducible refine (cursor_Cursor_Take.calls g s 0 0 _ got s1 a1 e1 w _ HI1.out HB1.out H.out).mono ?_); rintro e w2 ⟨rfl, hi, hb, hk⟩; have HI2 := Aside0.mk hi; have HB2 := Aside0.mk hb; clear hi hb hk)
    | (go_at_call 32; (with_reducible refine (cursor_Cursor_Err.calls g s1 a1 e1 e1 s1 a1 e1 w _ HI2.out HB2.out rfl).mono ?_); rintro e w3 ⟨rfl, hi, hb, hk⟩; have HI3 := Aside0.mk hi; have HB3 := Aside0.mk hb; clear hi hb hk))
  first | go_ret2 | go_ret
  exact ⟨rfl, HB3.out⟩
set_option maxHeartbeats 2000000 in
theorem begin_no (s first : ByteArray) (got s1 : ByteArray) (a1 : Int) (w : World) (h : cursor_Cursor_Take.f s 0 0 first.size = some (got, s1, a1, 0)) (he : (got.toList == first.toList) = false) :
    Calls Try.prog 28 #[.string s, .string first] w fun e w' => e = .returned (.tuple #[.pointer none, .int .i64 4]) ∧ Below w.heap.size w w' := by
  have H := Aside0.mk h
  clear h
  go_enter Try.func28, Try.ntmps28
  go_wp2_with (first
    | (go_at_call 42; (with_reducible refine (cursor_Over.calls s s 0 0 w _ (Below.refl _ _) rfl).mono ?_); rintro e w1 ⟨g, rfl, hi, hb, hb2⟩; have HI1 := Aside0.mk hi; have HB1 := Aside0.mk hb; clear hi hb hb2)
    | (go_at_call 31; (with_reducible refine (cursor_Cursor_Take.calls g s 0 0 _ got s1 a1 0 w _ HI1.out HB1.out H.out).mono ?_); rintro e w2 ⟨rfl, hi, hb, hk⟩; have HI2 := Aside0.mk hi; have HB2 := Aside0.mk hb; clear hi hb hk)
    | (go_at_call 32; (with_reducible refine (cursor_Cursor_Err.calls g s1 a1 0 0 s1 a1 0 w _ HI2.out HB2.out rfl).mono ?_); rintro e w3 ⟨rfl, hi, hb, hk⟩; have HI3 := Aside0.mk hi; have HB3 := Aside0.mk hb; clear hi hb hk))
  first | go_ret2 | go_ret
  exact ⟨rfl, HB3.out⟩
set_option maxHeartbeats 2000000 in
theorem begin_ok (s first : ByteArray) (got s1 : ByteArray) (a1 : Int) (w0 w : World) (hB0 : Below w0.heap.size w0 w) (h : cursor_Cursor_Take.f s 0 0 first.size = some (got, s1, a1, 0)) (he : (got.toList == first.toList) = true) :
    Calls Try.prog 28 #[.string s, .string first] w fun e w' => ∃ g : Nat, e = .returned (.tuple #[.pointer (some ⟨g, 0, none⟩), .int .i64 0]) ∧ IsS91 w0 w' g s1 a1 0 ∧ Below w0.heap.size w0 w' ∧ Below w.heap.size w w' := by
  have H := Aside0.mk h
  have HX := Aside0.mk hB0
  clear h hB0
  go_enter Try.func28, Try.ntmps28
  go_wp2_with (first
    | (go_at_call 42; (with_reducible refine (cursor_Over.calls s s 0 0 w _ (Below.refl _ _) rfl).mono ?_); rintro e w1 ⟨g, rfl, hi, hb, hb2⟩; have HI1 := Aside0.mk hi; have HB1 := Aside0.mk hb; clear hi hb hb2)
    | (go_at_call 31; (with_reducible refine (cursor_Cursor_Take.calls g s 0 0 _ got s1 a1 0 w _ HI1.out HB1.out H.out).mono ?_); rintro e w2 ⟨rfl, hi, hb, hk⟩; have HI2 := Aside0.mk hi; have HB2 := Aside0.mk hb; clear hi hb hk)
    | (go_at_call 32; (with_reducible refine (cursor_Cursor_Err.calls g s1 a1 0 0 s1 a1 0 w _ HI2.out HB2.out rfl).mono ?_); rintro e w3 ⟨rfl, hi, hb, hk⟩; have HI3 := Aside0.mk hi; have HB3 := Aside0.mk hb; clear hi hb hk))
  first | go_ret2 | go_ret
  exact ⟨g, rfl, ⟨HI3.out.1, Nat.le_trans HX.out.size HI3.out.2⟩, below_step HX.out HB3.out, HB3.out⟩
end Go.Proofs.Ytnjfddmajiihjaa.Hp
namespace Go.Proofs.Ytnjfddmajiihjaa.Hp
set_option linter.unusedVariables false
set_option linter.unusedSimpArgs false
open Go Go.RowKit Go.Proofs.Ytnjfddmajiihjaa.P Go.Proofs.Ytnjfddmajiihjaa.B Go.Proofs.Ytnjfddmajiihjaa.Num Go.Proofs.Ytnjfddmajiihjaa.Cur Go.Proofs.YtnjfddmajiihjaaW.PrintWords Go.Proofs.YtnjfddmajiihjaaW.PrintLast Go.Proofs.YtnjfddmajiihjaaW.PrintMore
def opf (w : Nat) (s : ByteArray) (a e : Int) : Option (Int × ByteArray × Int × Int) := if w = 2 then cursor_Cursor_Two.f 40 s a e else if w = 4 then cursor_Cursor_Four.f 40 s a e else cursor_Cursor_Eight.f 40 s a e
def numsL : List Nat → List UInt8 → List Int
  | [], _ => []
  | w :: ws, R => ((leN (R.take w) : Nat) : Int) :: numsL ws (R.drop w)
def chain : List Nat → ByteArray → Int → Int → Option (List Int × ByteArray × Int × Int)
  | [], s, a, e => some ([], s, a, e)
  | w :: ws, s, a, e => (opf w s a e).bind fun t => (chain ws t.2.1 t.2.2.1 t.2.2.2).bind fun u => some (t.1 :: u.1, u.2.1, u.2.2.1, u.2.2.2)
def Wd (w : Nat) : Prop := w = 2 ∨ w = 4 ∨ w = 8
theorem op_ok {w : Nat} (hw : Wd w) {s : ByteArray} {a : Int} {R : List UInt8} (h : At s a R) (hl : w ≤ R.length) : opf w s a 0 = some (((leN (R.take w) : Nat) : Int), s, a + w, 0) := by
  have h' : At s a (R.take w ++ R.drop w) := by rw [List.take_append_drop]; exact h
  have hn : (R.take w).length = w := by rw [List.length_take]; omega
  unfold opf
  rcases hw with rfl | rfl | rfl
  · rw [if_pos rfl, two_at h' hn 40 (by omega), hn]
  · rw [if_neg (by omega), if_pos rfl, four_at h' hn 40 (by omega), hn]
  · rw [if_neg (by omega), if_neg (by omega), eight_at h' hn 40 (by omega), hn]
theorem op_fail {w : Nat} (hw : Wd w) {s : ByteArray} {a : Int} {R : List UInt8} (h : At s a R) (hl : R.length < w) : opf w s a 0 = some (0, s, a, 3) := by
  unfold opf
  rcases hw with rfl | rfl | rfl
  · rw [if_pos rfl, two_fail h hl 40 (by omega)]
  · rw [if_neg (by omega), if_pos rfl, four_fail h hl 40 (by omega)]
  · rw [if_neg (by omega), if_neg (by omega), eight_fail h hl 40 (by omega)]
theorem op_bad {w : Nat} {s : ByteArray} {a e : Int} (he : e ≠ 0) : opf w s a e = some (0, s, a, e) := by
  unfold opf
  split
  · exact two_bad he 40 (by omega)
  split
  · exact four_bad he 40 (by omega)
  · exact eight_bad he 40 (by omega)
theorem chain_bad {s : ByteArray} {a e : Int} (he : e ≠ 0) : ∀ ws, ∃ vs, chain ws s a e = some (vs, s, a, e)
  | [] => ⟨[], rfl⟩
  | w :: ws => by
    obtain ⟨vs, h⟩ := chain_bad (s := s) (a := a) he ws
    exact ⟨0 :: vs, by unfold chain; rw [op_bad he, Option.bind_some]; dsimp only; rw [h, Option.bind_some]⟩
theorem at_drop {s : ByteArray} {a : Int} {R : List UInt8} (h : At s a R) (w : Nat) (hl : w ≤ R.length) : At s (a + w) (R.drop w) := by
  have h' : At s a (R.take w ++ R.drop w) := by rw [List.take_append_drop]; exact h
  have := h'.on
  rwa [show (R.take w).length = w by rw [List.length_take]; omega] at this
theorem chain_ok {s : ByteArray} : ∀ (ws : List Nat) (a : Int) (R : List UInt8), (∀ w ∈ ws, Wd w) → At s a R → ws.sum ≤ R.length → chain ws s a 0 = some (numsL ws R, s, a + (ws.sum : Nat), 0)
  | [], a, R, hw, h, hl => by simp [chain, numsL]
  | w :: ws, a, R, hw, h, hl => by
    rw [List.sum_cons] at hl
    unfold chain
    rw [op_ok (hw w (by simp)) h (by omega), Option.bind_some]
    dsimp only
    rw [chain_ok ws (a + w) (R.drop w) (fun x hx => hw x (by simp [hx])) (at_drop h w (by omega)) (by rw [List.length_drop]; omega), Option.bind_some, List.sum_cons]
    dsimp only [numsL]
    congr 4
    omega
theorem chain_fail {s : ByteArray} : ∀ (ws : List Nat) (a : Int) (R : List UInt8), (∀ w ∈ ws, Wd w) → At s a R → R.length < ws.sum → ∃ vs b, chain ws s a 0 = some (vs, s, b, 3)
  | [], a, R, hw, h, hl => by simp at hl
  | w :: ws, a, R, hw, h, hl => by
    rw [List.sum_cons] at hl
    by_cases hlw : R.length < w
    · obtain ⟨vs, hc⟩ := chain_bad (s := s) (a := a) (e := 3) (by decide) ws
      exact ⟨0 :: vs, a, by unfold chain; rw [op_fail (hw w (by simp)) h hlw, Option.bind_some]; dsimp only; rw [hc, Option.bind_some]⟩
    · obtain ⟨vs, b, hc⟩ := chain_fail ws (a + w) (R.drop w) (fun x hx => hw x (by simp [hx])) (at_drop h w (by omega)) (by rw [List.length_drop]; omega)
      exact ⟨_ :: vs, b, by unfold chain; rw [op_ok (hw w (by simp)) h (by omega), Option.bind_some]; dsimp only; rw [hc, Option.bind_some]⟩
def textsL : List Nat → List UInt8 → List ByteArray
  | [], _ => []
  | n :: ns, R => strN (R.take n) :: textsL ns (R.drop n)
def tchain : List Int → ByteArray → Int → Int → Option (List ByteArray × ByteArray × Int × Int)
  | [], s, a, e => some ([], s, a, e)
  | n :: ns, s, a, e => (cursor_Cursor_Take.f s a e n).bind fun t => (tchain ns t.2.1 t.2.2.1 t.2.2.2).bind fun u => some (t.1 :: u.1, u.2.1, u.2.2.1, u.2.2.2)
theorem tchain_bad {s : ByteArray} {a e : Int} (he : e ≠ 0) : ∀ ns, ∃ vs, tchain ns s a e = some (vs, s, a, e)
  | [] => ⟨[], rfl⟩
  | n :: ns => by
    obtain ⟨vs, h⟩ := tchain_bad (s := s) (a := a) he ns
    exact ⟨strN [] :: vs, by unfold tchain; rw [take_bad he, Option.bind_some]; dsimp only; rw [h, Option.bind_some]⟩
theorem tchain_ok {s : ByteArray} : ∀ (ns : List Nat) (a : Int) (R : List UInt8), At s a R → ns.sum ≤ R.length → tchain (ns.map fun n : Nat => (n : Int)) s a 0 = some (textsL ns R, s, a + (ns.sum : Nat), 0)
  | [], a, R, h, hl => by simp [tchain, textsL]
  | n :: ns, a, R, h, hl => by
    rw [List.sum_cons] at hl
    have h' : At s a (R.take n ++ R.drop n) := by rw [List.take_append_drop]; exact h
    have hn : (R.take n).length = n := by rw [List.length_take]; omega
    rw [List.map_cons]
    unfold tchain
    rw [take_at h' (by rw [hn]), Option.bind_some]
    dsimp only
    rw [hn, tchain_ok ns (a + n) (R.drop n) (at_drop h n (by omega)) (by rw [List.length_drop]; omega), Option.bind_some, List.sum_cons]
    dsimp only [textsL]
    congr 4
    omega
theorem tchain_fail {s : ByteArray} : ∀ (ns : List Nat) (a : Int) (R : List UInt8), At s a R → R.length < ns.sum → ∃ vs b, tchain (ns.map fun n : Nat => (n : Int)) s a 0 = some (vs, s, b, 3)
  | [], a, R, h, hl => by simp at hl
  | n :: ns, a, R, h, hl => by
    rw [List.sum_cons] at hl
    rw [List.map_cons]
    by_cases hlw : R.length < n
    · obtain ⟨vs, hc⟩ := tchain_bad (s := s) (a := a) (e := 3) (by decide) (ns.map fun n : Nat => (n : Int))
      exact ⟨strN [] :: vs, a, by unfold tchain; rw [take_fail h (.inr (by omega)), Option.bind_some]; dsimp only; rw [hc, Option.bind_some]⟩
    · have h' : At s a (R.take n ++ R.drop n) := by rw [List.take_append_drop]; exact h
      have hn : (R.take n).length = n := by rw [List.length_take]; omega
      obtain ⟨vs, b, hc⟩ := tchain_fail ns (a + n) (R.drop n) (at_drop h n (by omega)) (by rw [List.length_drop]; omega)
      exact ⟨strN (R.take n) :: vs, b, by unfold tchain; rw [take_at h' (by rw [hn]), Option.bind_some]; dsimp only; rw [hn, hc, Option.bind_some]⟩
end Go.Proofs.Ytnjfddmajiihjaa.Hp
namespace Go.Proofs.Ytnjfddmajiihjaa.Num
set_option linter.unusedVariables false
set_option linter.unusedSimpArgs false
open Go Go.RowKit Go.Proofs.Ytnjfddmajiihjaa.P Go.Proofs.Ytnjfddmajiihjaa.B Go.Proofs.YtnjfddmajiihjaaW.PrintWords Go.Proofs.YtnjfddmajiihjaaW.PrintLast Go.Proofs.YtnjfddmajiihjaaW.PrintMore
theorem ref_of_loop (n c : Nat) (a1 : Int) (hc : a1.toNat = c) : ∀ (d k i m : Nat) (xs : List Int), i + d = min c 64 → m = n / 256 ^ i → n < 2 ^ 64 → xs = (ofN i n).map (fun b => (b.toNat : Int)) → d < k →
    portmanteauref01_Of.l0 k (m : Int) a1 xs (i : Int) = some (strN (ofN (min c 64) n)) := by
  intro d
  induction d with
  | zero =>
    intro k i m xs hd hm hn hx hk
    obtain ⟨k, rfl⟩ : ∃ m, k = m + 1 := ⟨k - 1, by omega⟩
    have hs : strOfNums xs = strN (ofN (min c 64) n) := by
      rw [show min c 64 = i by omega]; exact strN_eq _ _ hx
    simp only [portmanteauref01_Of.l0]
    by_cases h1 : (i : Int) < a1
    · rw [if_pos h1, if_neg (by omega), hs]
    · rw [if_neg h1, hs]
  | succ d ih =>
    intro k i m xs hd hm hn hx hk
    obtain ⟨k, rfl⟩ : ∃ m, k = m + 1 := ⟨k - 1, by omega⟩
    have hlen : xs.length = i := by rw [hx]; simp [ofN_length]
    have hm2 : m < 18446744073709551616 := by
      have : n / 256 ^ i ≤ n := Nat.div_le_self _ _
      omega
    simp only [portmanteauref01_Of.l0]
    rw [if_pos (by omega), if_pos (by omega), if_pos (by omega), wrap_id (by omega) (by omega)]
    have e1 : IntKind.u64.wrap (Int.tdiv (m : Int) 256) = ((m / 256 : Nat) : Int) := by
      rw [Int.tdiv_eq_ediv_of_nonneg (by omega), u64_id (by omega) (by omega)]
      simp
    have e2 : Int.tmod (m : Int) 256 % 256 = ((m % 256 : Nat) : Int) := by
      rw [Int.tmod_eq_emod_of_nonneg (by omega)]
      omega
    rw [e1, e2]
    refine ih k (i + 1) (m / 256) _ (by omega) ?_ hn ?_ (by omega)
    · rw [hm, Nat.div_div_eq_div_mul, Nat.pow_succ]
    · rw [hx]
      have : ofN (i + 1) n = ofN i n ++ [UInt8.ofNat (n / 256 ^ i % 256)] := by
        apply List.ext_getElem?
        intro j
        by_cases h1 : j < i
        · rw [List.getElem?_append_left (by simpa [ofN_length] using h1), ofN_get _ _ _ (by omega), ofN_get _ _ _ h1]
        · by_cases h2 : j = i
          · subst h2
            rw [List.getElem?_append_right (by simp [ofN_length]), ofN_get _ _ _ (by omega)]
            simp [ofN_length]
          · rw [List.getElem?_eq_none (by simp [ofN_length]; omega), List.getElem?_eq_none (by simp [ofN_length]; omega)]
      rw [this, List.map_append, ← hm]
      simp
theorem ref_of_eq (n : Nat) (hn : n < 2 ^ 64) (a1 : Int) (k : Nat) (hk : 64 < k) : portmanteauref01_Of.f k (n : Int) a1 = some (strN (ofI n a1)) := by
  unfold portmanteauref01_Of.f ofI
  exact ref_of_loop n a1.toNat a1 rfl (min a1.toNat 64) k 0 n [] (by omega) (by simp) hn rfl (by omega)
end Go.Proofs.Ytnjfddmajiihjaa.Num
