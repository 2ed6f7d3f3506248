import Derived.Test.YtnjfddmajiihjaaMg2
import Derived.Test.YtnjfddmajiihjaaPx10
import Derived.Test.YtnjfddmajiihjaaPx15
import Derived.Test.YtnjfddmajiihjaaPx2
import Derived.Test.YtnjfddmajiihjaaMg1
import Derived.Lib.AppendStr
import Derived.Test.YtnjfddmajiihjaaPx6
namespace Go.Proofs.Ytnjfddmajiihjaa.Cur
set_option linter.unusedVariables false
set_option linter.unusedSimpArgs false
open Go Go.RowKit Go.Proofs.Ytnjfddmajiihjaa.P Go.Proofs.Ytnjfddmajiihjaa.B Go.Proofs.Ytnjfddmajiihjaa.Num Go.Proofs.YtnjfddmajiihjaaW.PrintWords Go.Proofs.YtnjfddmajiihjaaW.PrintLast Go.Proofs.YtnjfddmajiihjaaW.PrintMore
theorem four_at {s : ByteArray} {a : Int} {m R : List UInt8} (h : At s a (m ++ R)) (hn : m.length = 4) (k : Nat) (hk : 8 < k) : cursor_Cursor_Four.f k s a 0 = some (((leN m : Nat) : Int), s, a + m.length, 0) := by
  obtain ⟨hs, pre, he, rfl⟩ := h
  rw [four_list (pre := pre) (mid := m) (post := R) hs (by rw [he]; simp) rfl hn k hk]
  simp
theorem four_fail {s : ByteArray} {a : Int} {R : List UInt8} (h : At s a R) (hn : R.length < 4) (k : Nat) (hk : 8 < k) : cursor_Cursor_Four.f k s a 0 = some (0, s, a, 3) := by
  have h1 := h.size
  have h2 := h.nn
  exact four_short h.1 h2 (by omega) (by omega) k hk
end Go.Proofs.Ytnjfddmajiihjaa.Cur
namespace Go.Proofs.Ytnjfddmajiihjaa.Cur
set_option linter.unusedVariables false
set_option linter.unusedSimpArgs false
open Go Go.RowKit Go.Proofs.Ytnjfddmajiihjaa.P Go.Proofs.Ytnjfddmajiihjaa.B Go.Proofs.Ytnjfddmajiihjaa.Num Go.Proofs.YtnjfddmajiihjaaW.PrintWords Go.Proofs.YtnjfddmajiihjaaW.PrintLast Go.Proofs.YtnjfddmajiihjaaW.PrintMore
section
variable {s : ByteArray} {at_ : Int} {pre mid post : List UInt8}
theorem eight_list (hs : s.size ≤ 140737488351232) (h : s.data.toList = pre ++ mid ++ post) (ha : at_ = pre.length) (hn : mid.length = 8) (k : Nat) (hk : 8 < k) :
    cursor_Cursor_Eight.f k s at_ 0 = some (((leN mid : Nat) : Int), s, (((pre ++ mid).length : Nat) : Int), 0) := by
  unfold cursor_Cursor_Eight.f
  have hb := leN_lt mid
  rw [hn] at hb
  rw [take_list hs h ha (by omega)]
  simp only [Option.bind_some]
  rw [number_strN _ (by omega) _ hk]
  simp only [Option.bind_some]
theorem eight_short (hs : s.size ≤ 140737488351232) (ha : 0 ≤ at_) (ha2 : at_ ≤ s.size) (hn : (s.size : Int) - at_ < 8) (k : Nat) (hk : 8 < k) : cursor_Cursor_Eight.f k s at_ 0 = some (0, s, at_, 3) := by
  unfold cursor_Cursor_Eight.f
  rw [take_short hs ha ha2 (.inr hn)]
  simp only [Option.bind_some]
  rw [number_strN _ (by simp) _ hk]
  rfl
theorem eight_bad {e : Int} (he : e ≠ 0) (k : Nat) (hk : 8 < k) : cursor_Cursor_Eight.f k s at_ e = some (0, s, at_, e) := by
  unfold cursor_Cursor_Eight.f
  rw [take_bad he]
  simp only [Option.bind_some]
  rw [number_strN _ (by simp) _ hk]
  rfl
end
end Go.Proofs.Ytnjfddmajiihjaa.Cur
namespace Go.Proofs.Ytnjfddmajiihjaa.Cur
set_option linter.unusedVariables false
set_option linter.unusedSimpArgs false
open Go Go.RowKit Go.Proofs.Ytnjfddmajiihjaa.P Go.Proofs.Ytnjfddmajiihjaa.B Go.Proofs.Ytnjfddmajiihjaa.Num Go.Proofs.YtnjfddmajiihjaaW.PrintWords Go.Proofs.YtnjfddmajiihjaaW.PrintLast Go.Proofs.YtnjfddmajiihjaaW.PrintMore
theorem eight_at {s : ByteArray} {a : Int} {m R : List UInt8} (h : At s a (m ++ R)) (hn : m.length = 8) (k : Nat) (hk : 8 < k) : cursor_Cursor_Eight.f k s a 0 = some (((leN m : Nat) : Int), s, a + m.length, 0) := by
  obtain ⟨hs, pre, he, rfl⟩ := h
  rw [eight_list (pre := pre) (mid := m) (post := R) hs (by rw [he]; simp) rfl hn k hk]
  simp
theorem eight_fail {s : ByteArray} {a : Int} {R : List UInt8} (h : At s a R) (hn : R.length < 8) (k : Nat) (hk : 8 < k) : cursor_Cursor_Eight.f k s a 0 = some (0, s, a, 3) := by
  have h1 := h.size
  have h2 := h.nn
  exact eight_short h.1 h2 (by omega) (by omega) k hk
end Go.Proofs.Ytnjfddmajiihjaa.Cur
namespace Go.Proofs.Ytnjfddmajiihjaa.Num
set_option linter.unusedVariables false
set_option linter.unusedSimpArgs false
open Go Go.RowKit Go.Proofs.Ytnjfddmajiihjaa.P Go.Proofs.Ytnjfddmajiihjaa.B Go.Proofs.YtnjfddmajiihjaaW.PrintWords Go.Proofs.YtnjfddmajiihjaaW.PrintLast Go.Proofs.YtnjfddmajiihjaaW.PrintMore
theorem two_eq (n : Nat) (hn : n < 2 ^ 16) (k : Nat) (hk : 64 < k) : cursor_Two.f k (n : Int) = some (strN (ofN 2 n)) := by
  unfold cursor_Two.f
  rw [u64_id (by omega) (by omega), of_eq n (by omega) 2 k hk]; rfl
end Go.Proofs.Ytnjfddmajiihjaa.Num
namespace Go.Proofs.Ytnjfddmajiihjaa.P
set_option linter.unusedVariables false
set_option linter.unusedSimpArgs false
open Go Go.RowKit Go.Proofs.Ytnjfddmajiihjaa.B Go.Proofs.Ytnjfddmajiihjaa.Num Go.Proofs.Ytnjfddmajiihjaa.Sb Go.Proofs.YtnjfddmajiihjaaW.PrintWords Go.Proofs.YtnjfddmajiihjaaW.PrintLast Go.Proofs.YtnjfddmajiihjaaW.PrintMore
def header_twos.f (l : List Int) : Option ByteArray := if l.length ≤ 1000 ∧ ∀ x ∈ l, 0 ≤ x ∧ x < 2 ^ 16 then some (strN (l.flatMap fun x => ofN 2 x.toNat)) else none
theorem flat_len_twos (l : List Int) : (l.flatMap fun x => ofN 2 x.toNat).length = 2 * l.length := by
  induction l with
  | nil => rfl
  | cons x l ih => rw [List.flatMap_cons, List.length_append, ih, ofN_length, List.length_cons]; omega
theorem strN_toList_twos (l : List Int) (r : ByteArray) (h : strN (l.flatMap fun x => ofN 2 x.toNat) = r) : r.data.toList = l.flatMap fun x => ofN 2 x.toNat := by subst h; rfl
set_option maxHeartbeats 4000000 in
set_option maxRecDepth 100000 in
theorem header_twos.calls (A0 : Option Addr) (c0 : Nat) (l0 : List Int) (r : ByteArray) (w : World) (hr0 : Kd.C (Kd.int .u16) w A0 l0.length l0) (hc0 : l0.length ≤ c0) (h : header_twos.f l0 = some r) :
    Calls Try.prog 23 #[.slice A0 l0.length c0] w fun e w' => e = .returned (.string r) ∧ Below w.heap.size w w' := by
  unfold header_twos.f at h
  split at h
  case isFalse => cases h
  case isTrue hb =>
  obtain ⟨hlen, hrange⟩ := hb
  have hres : strN (l0.flatMap fun x => ofN 2 x.toNat) = r := Option.some.inj h
  clear h
  have HC := Aside0.mk hr0
  have HRES := Aside0.mk hres
  clear hr0 hres
  have HB := Aside0.mk (below_alloc (Below.refl w.heap.size w) (.cells #[.pointer none, .slice none 0 0] 81))
  have HI := Aside0.mk (fresh w)
  go_enter Try.func23, Try.ntmps23
  go_wp2
  go_loopw [8] (fun v8 wr => ∃ j : Nat, v8 = .int .i64 j ∧ j ≤ l0.length ∧ Aside0 (Lib.IsBuilder 81 5 w.heap.size w.heap.size (Lib.byteCells ((l0.take j).flatMap fun x => ofN 2 x.toNat)) wr) ∧ Aside0 (Below w.heap.size w wr))
    (fun v _ => l0.length - (intOf v).toNat)
  case atStart => exact ⟨0, rfl, by omega, HI, HB⟩
  case round =>
    clear HI HB
    obtain ⟨j, rfl, hj, HI, HB⟩ := hrel
    by_cases hlt : j < l0.length
    · have hd : decide (j < l0.length) = true := decide_eq_true hlt
      obtain ⟨ad, hA, hc⟩ := Kd.at_int (Kd.C_below HC.out HB.out) (j : Int) (by omega) (by omega)
      subst hA
      have hg : rd l0 (j : Int) = l0[j] := by unfold rd; rw [List.getD_eq_getElem?_getD, Int.toNat_natCast, List.getElem?_eq_getElem hlt]; rfl
      rw [hg] at hc
      simp only [Int.toNat_natCast] at hc
      obtain ⟨hx0, hx1⟩ := hrange _ (List.getElem_mem hlt)
      obtain ⟨x, hx⟩ : ∃ x : Nat, l0[j] = (x : Int) := ⟨(l0[j]).toNat, by omega⟩
      have htk : (l0.take (j + 1)).flatMap (fun x => ofN 2 x.toNat) = (l0.take j).flatMap (fun x => ofN 2 x.toNat) ++ ofN 2 x := by
        rw [List.take_succ_eq_append_getElem hlt, List.flatMap_append, hx]; simp
      have hln := flat_len_twos (l0.take j)
      have hlt2 : (l0.take j).length = j := by rw [List.length_take]; omega
      rw [hlt2] at hln
      obtain ⟨bs, hbs⟩ : ∃ bs, (l0.take j).flatMap (fun x => ofN 2 x.toNat) = bs := ⟨_, rfl⟩
      rw [hbs] at HI htk hln
      rw [hx] at hc hx1
      have HX := Aside0.mk (show x < 2 ^ 16 by omega)
      have HTK := Aside0.mk htk
      have HLN := Aside0.mk hln
      clear hbs hg hx0 hx1 hx htk hln hlt2 hrange
      go_wp2_with (first
        | (go_at_call 39; refine (cursor_Two.calls 65 _ _ _ (two_eq x HX.out 65 (by omega))).mono ?_; rintro e w1 ⟨rfl, hb⟩; have HI1 := Aside0.mk (is_below HI.out hb); have HB1 := Aside0.mk (below_step HB.out hb); clear hb)
        | (go_at_call 38; refine (write_calls w.heap.size w.heap.size _ _ _ HI1.out (by rw [HLN.out, show (strN (ofN 2 x)).size = 2 from ofN_length 2 x]; omega) (by have := HB1.out.size; exact this)).mono ?_; rintro e w2 ⟨rfl, hat, hb⟩; have HI2 := Aside0.mk hat; have HB2 := Aside0.mk (HB1.out.trans hb); clear hat hb))
      go_roundw
      case rel => exact ⟨j + 1, by go_num, by omega, ⟨by rw [HTK.out]; exact HI2.out⟩, HB2⟩
      case measure => simp [intOf]; omega
    · have hd : decide (j < l0.length) = false := decide_eq_false hlt
      obtain rfl : j = l0.length := by omega
      rw [List.take_length, ← strN_toList_twos l0 r HRES.out] at HI
      go_wp2_with (go_at_call 40; refine (string_calls w.heap.size w.heap.size _ _ HI.out (by have := HB.out.size; exact this)).mono ?_; rintro e w2 ⟨rfl, hb⟩; have HB2 := Aside0.mk (HB.out.trans hb); clear hb)
      go_ret
      exact ⟨rfl, HB2.out⟩
end Go.Proofs.Ytnjfddmajiihjaa.P
namespace Go.Proofs.Ytnjfddmajiihjaa.Num
set_option linter.unusedVariables false
set_option linter.unusedSimpArgs false
open Go Go.RowKit Go.Proofs.Ytnjfddmajiihjaa.P Go.Proofs.Ytnjfddmajiihjaa.B Go.Proofs.YtnjfddmajiihjaaW.PrintWords Go.Proofs.YtnjfddmajiihjaaW.PrintLast Go.Proofs.YtnjfddmajiihjaaW.PrintMore
theorem eight_eq (n : Nat) (hn : n < 2 ^ 64) (k : Nat) (hk : 64 < k) : cursor_Eight.f k (n : Int) = some (strN (ofN 8 n)) := by
  unfold cursor_Eight.f
  rw [of_eq n hn 8 k hk]; rfl
end Go.Proofs.Ytnjfddmajiihjaa.Num
