/- The cursor's methods and the reference's, at any place: the same answers. Plain Lean. -/
import Derived.Test.YtegdnkhpkealoaaCurTwo
import Derived.Test.YtegdnkhpkealoaaCurFour
import Derived.Test.YtegdnkhpkealoaaCurOne
import Derived.Test.YtegdnkhpkealoaaCurEight
import Derived.Test.YtegdnkhpkealoaaPx12
import Derived.Test.YtegdnkhpkealoaaPx15
import Derived.Test.YtegdnkhpkealoaaPx16
namespace Go.Proofs.Ytegdnkhpkealoaa.Cur
open Go Go.RowKit Go.Proofs.Ytegdnkhpkealoaa.P Go.Proofs.Ytegdnkhpkealoaa.B Go.Proofs.Ytegdnkhpkealoaa.Num Go.Proofs.YtegdnkhpkealoaaW.PrintWords Go.Proofs.YtegdnkhpkealoaaW.PrintLast Go.Proofs.YtegdnkhpkealoaaW.PrintMore
section
variable {s : ByteArray} {at_ bad : Int}
/-- What is taken at a place, where it then stands, and what is wrong then. -/
def tkB (s : ByteArray) (at_ bad n : Int) : List UInt8 := if bad = 0 ∧ 0 ≤ n ∧ n ≤ (s.size : Int) - at_ then (s.data.toList.take (at_ + n).toNat).drop at_.toNat else []
def tkA (s : ByteArray) (at_ bad n : Int) : Int := if bad = 0 ∧ 0 ≤ n ∧ n ≤ (s.size : Int) - at_ then at_ + n else at_
def tkE (s : ByteArray) (at_ bad n : Int) : Int := if bad = 0 ∧ ¬ (0 ≤ n ∧ n ≤ (s.size : Int) - at_) then 3 else bad
theorem tkB_len (hs : s.size ≤ 140737488351232) (h0 : 0 ≤ at_) (n : Int) (hn : 0 ≤ n) : (tkB s at_ bad n).length ≤ n.toNat := by
  unfold tkB
  split
  · simp; omega
  · simp
theorem tkA_in (h0 : 0 ≤ at_) (h1 : at_ ≤ s.size) (n : Int) : 0 ≤ tkA s at_ bad n ∧ tkA s at_ bad n ≤ s.size := by
  unfold tkA; split <;> omega
theorem take_tk (hs : s.size ≤ 140737488351232) (h0 : 0 ≤ at_) (h1 : at_ ≤ s.size) (n : Int) : cursor_Cursor_Take.f s at_ bad n = some (strN (tkB s at_ bad n), s, tkA s at_ bad n, tkE s at_ bad n) := by
  by_cases hb : bad = 0
  · subst hb
    by_cases hn : 0 ≤ n ∧ n ≤ (s.size : Int) - at_
    · unfold cursor_Cursor_Take.f tkB tkA tkE
      rw [if_pos rfl, if_neg (by omega), wrap_id (x := (s.size : Int) - at_) (by omega) (by omega), if_neg (by omega), wrap_id (x := at_ + n) (by omega) (by omega), if_pos (by omega), if_pos (by omega), if_pos (by omega),
        if_pos ⟨rfl, hn⟩, if_pos ⟨rfl, hn⟩, if_neg (fun h => h.2 hn)]
      congr 2
      exact ext_list (by rw [extract_list, strN_data])
    · rw [take_short hs h0 h1 (by omega)]
      unfold tkB tkA tkE
      rw [if_neg (fun h => hn h.2), if_neg (fun h => hn h.2), if_pos ⟨rfl, hn⟩]
  · rw [take_bad hb]
    unfold tkB tkA tkE
    rw [if_neg (fun h => hb h.1), if_neg (fun h => hb h.1), if_neg (fun h => hb h.1)]
theorem peek_tk (hs : s.size ≤ 140737488351232) (h0 : 0 ≤ at_) (h1 : at_ ≤ s.size) (n : Int) : cursor_Cursor_Peek.f s at_ bad n = some (strN (tkB s at_ bad n), s, at_, bad) := by
  unfold cursor_Cursor_Peek.f tkB
  by_cases hb : bad = 0
  · subst hb
    rw [if_pos rfl]
    by_cases hn : n < 0
    · rw [if_pos hn, if_neg (by omega)]; rfl
    · rw [if_neg hn, wrap_id (x := (s.size : Int) - at_) (by omega) (by omega)]
      by_cases hg : n > (s.size : Int) - at_
      · rw [if_pos hg, if_neg (by omega)]; rfl
      · rw [if_neg hg, wrap_id (x := at_ + n) (by omega) (by omega), if_pos (by omega), if_pos (by omega), if_pos (by omega), if_pos (by omega)]
        congr 2
        exact ext_list (by rw [extract_list, strN_data])
  · rw [if_neg hb, if_neg (fun h => hb h.1)]; rfl
theorem ref_take_tk (hs : s.size ≤ 140737488351232) (h0 : 0 ≤ at_) (h1 : at_ ≤ s.size) (n : Int) (hn : -9223372036854775808 ≤ n ∧ n ≤ 9223372036854775807) : portmanteauref01_Cursor_Take.f s at_ bad n = some (strN (tkB s at_ bad n), s, tkA s at_ bad n, tkE s at_ bad n) := by
  rw [← take_tk hs h0 h1]
  unfold portmanteauref01_Cursor_Take.f cursor_Cursor_Take.f
  by_cases hb : bad = 0
  · subst hb; simp
  · simp [hb]
theorem ref_num_tk (hs : s.size ≤ 140737488351232) (h0 : 0 ≤ at_) (h1 : at_ ≤ s.size) (n : Int) (hn : 0 ≤ n ∧ n ≤ 8) (k : Nat) (hk : 8 < k) : portmanteauref01_Cursor_Num.f k s at_ bad n = some (((leN (tkB s at_ bad n) : Nat) : Int), s, tkA s at_ bad n, tkE s at_ bad n) := by
  have hl := tkB_len (bad := bad) hs h0 n hn.1
  unfold portmanteauref01_Cursor_Num.f
  rw [ref_take_tk hs h0 h1 n (by omega)]
  simp only [Option.bind_some]
  rw [ref_number_eq _ (by rw [strN_size]; omega) _ hk]
  rfl
theorem leN_tk (hs : s.size ≤ 140737488351232) (h0 : 0 ≤ at_) (n : Int) (hn : 0 ≤ n) : leN (tkB s at_ bad n) < 256 ^ n.toNat :=
  Nat.lt_of_lt_of_le (leN_lt _) (Nat.pow_le_pow_right (by decide) (tkB_len hs h0 n hn))
theorem num_tk (hs : s.size ≤ 140737488351232) (h0 : 0 ≤ at_) (n : Int) (hn : 0 ≤ n ∧ n ≤ 8) (k : Nat) (hk : 8 < k) : cursor_number.f k (strN (tkB s at_ bad n)) = some ((leN (tkB s at_ bad n) : Nat) : Int) := by
  have hl := tkB_len (bad := bad) hs h0 n hn.1
  exact number_strN _ (by omega) k hk
theorem one_tk (hs : s.size ≤ 140737488351232) (h0 : 0 ≤ at_) (h1 : at_ ≤ s.size) (k : Nat) (hk : 8 < k) : cursor_Cursor_One.f k s at_ bad = some (((leN (tkB s at_ bad 1) : Nat) : Int), s, tkA s at_ bad 1, tkE s at_ bad 1) := by
  have := leN_tk (bad := bad) hs h0 1 (by omega)
  unfold cursor_Cursor_One.f
  rw [take_tk hs h0 h1]
  simp only [Option.bind_some]
  rw [num_tk hs h0 1 (by omega) k hk]
  simp only [Option.bind_some]
  rw [show ((leN (tkB s at_ bad 1) : Nat) : Int) % 256 = (leN (tkB s at_ bad 1) : Nat) by simp at this; omega]
theorem two_tk (hs : s.size ≤ 140737488351232) (h0 : 0 ≤ at_) (h1 : at_ ≤ s.size) (k : Nat) (hk : 8 < k) : cursor_Cursor_Two.f k s at_ bad = some (((leN (tkB s at_ bad 2) : Nat) : Int), s, tkA s at_ bad 2, tkE s at_ bad 2) := by
  have := leN_tk (bad := bad) hs h0 2 (by omega)
  unfold cursor_Cursor_Two.f
  rw [take_tk hs h0 h1]
  simp only [Option.bind_some]
  rw [num_tk hs h0 2 (by omega) k hk]
  simp only [Option.bind_some]
  rw [u16_mod, show ((leN (tkB s at_ bad 2) : Nat) : Int) % 65536 = (leN (tkB s at_ bad 2) : Nat) by simp at this; omega]
theorem four_tk (hs : s.size ≤ 140737488351232) (h0 : 0 ≤ at_) (h1 : at_ ≤ s.size) (k : Nat) (hk : 8 < k) : cursor_Cursor_Four.f k s at_ bad = some (((leN (tkB s at_ bad 4) : Nat) : Int), s, tkA s at_ bad 4, tkE s at_ bad 4) := by
  have := leN_tk (bad := bad) hs h0 4 (by omega)
  unfold cursor_Cursor_Four.f
  rw [take_tk hs h0 h1]
  simp only [Option.bind_some]
  rw [num_tk hs h0 4 (by omega) k hk]
  simp only [Option.bind_some]
  rw [show ((leN (tkB s at_ bad 4) : Nat) : Int) % 4294967296 = (leN (tkB s at_ bad 4) : Nat) by simp at this; omega]
theorem eight_tk (hs : s.size ≤ 140737488351232) (h0 : 0 ≤ at_) (h1 : at_ ≤ s.size) (k : Nat) (hk : 8 < k) : cursor_Cursor_Eight.f k s at_ bad = some (((leN (tkB s at_ bad 8) : Nat) : Int), s, tkA s at_ bad 8, tkE s at_ bad 8) := by
  unfold cursor_Cursor_Eight.f
  rw [take_tk hs h0 h1]
  simp only [Option.bind_some]
  rw [num_tk hs h0 8 (by omega) k hk]
  rfl
theorem both_one (hs : s.size ≤ 140737488351232) (h0 : 0 ≤ at_) (h1 : at_ ≤ s.size) : ∃ r a b : Int, 0 ≤ r ∧ r ≤ 255 ∧ 0 ≤ a ∧ a ≤ s.size ∧ Aside0 (cursor_Cursor_One.f 9 s at_ bad = some (r, s, a, b)) ∧ Aside0 (portmanteauref01_Cursor_Num.f 9 s at_ bad 1 = some (r, s, a, b)) := by
  have hb := leN_tk (bad := bad) hs h0 1 (by omega)
  have hin := tkA_in (bad := bad) h0 h1 1
  refine ⟨_, _, _, ?_, ?_, hin.1, hin.2, ⟨one_tk hs h0 h1 9 (by omega)⟩, ⟨ref_num_tk hs h0 h1 1 (by omega) 9 (by omega)⟩⟩
  · omega
  · simp at hb; omega
theorem both_two (hs : s.size ≤ 140737488351232) (h0 : 0 ≤ at_) (h1 : at_ ≤ s.size) : ∃ r a b : Int, 0 ≤ r ∧ r ≤ 65535 ∧ 0 ≤ a ∧ a ≤ s.size ∧ Aside0 (cursor_Cursor_Two.f 9 s at_ bad = some (r, s, a, b)) ∧ Aside0 (portmanteauref01_Cursor_Num.f 9 s at_ bad 2 = some (r, s, a, b)) := by
  have hb := leN_tk (bad := bad) hs h0 2 (by omega)
  have hin := tkA_in (bad := bad) h0 h1 2
  refine ⟨_, _, _, ?_, ?_, hin.1, hin.2, ⟨two_tk hs h0 h1 9 (by omega)⟩, ⟨ref_num_tk hs h0 h1 2 (by omega) 9 (by omega)⟩⟩
  · omega
  · simp at hb; omega
theorem both_four (hs : s.size ≤ 140737488351232) (h0 : 0 ≤ at_) (h1 : at_ ≤ s.size) : ∃ r a b : Int, 0 ≤ r ∧ r ≤ 4294967295 ∧ 0 ≤ a ∧ a ≤ s.size ∧ Aside0 (cursor_Cursor_Four.f 9 s at_ bad = some (r, s, a, b)) ∧ Aside0 (portmanteauref01_Cursor_Num.f 9 s at_ bad 4 = some (r, s, a, b)) := by
  have hb := leN_tk (bad := bad) hs h0 4 (by omega)
  have hin := tkA_in (bad := bad) h0 h1 4
  refine ⟨_, _, _, ?_, ?_, hin.1, hin.2, ⟨four_tk hs h0 h1 9 (by omega)⟩, ⟨ref_num_tk hs h0 h1 4 (by omega) 9 (by omega)⟩⟩
  · omega
  · simp at hb; omega
theorem both_eight (hs : s.size ≤ 140737488351232) (h0 : 0 ≤ at_) (h1 : at_ ≤ s.size) : ∃ r a b : Int, 0 ≤ r ∧ r ≤ 18446744073709551615 ∧ 0 ≤ a ∧ a ≤ s.size ∧ Aside0 (cursor_Cursor_Eight.f 9 s at_ bad = some (r, s, a, b)) ∧ Aside0 (portmanteauref01_Cursor_Num.f 9 s at_ bad 8 = some (r, s, a, b)) := by
  have hb := leN_tk (bad := bad) hs h0 8 (by omega)
  have hin := tkA_in (bad := bad) h0 h1 8
  refine ⟨_, _, _, ?_, ?_, hin.1, hin.2, ⟨eight_tk hs h0 h1 9 (by omega)⟩, ⟨ref_num_tk hs h0 h1 8 (by omega) 9 (by omega)⟩⟩
  · omega
  · simp at hb; omega
theorem both_take (hs : s.size ≤ 140737488351232) (h0 : 0 ≤ at_) (h1 : at_ ≤ s.size) (n : Int) (hn : -9223372036854775808 ≤ n ∧ n ≤ 9223372036854775807) : ∃ (t : ByteArray) (a b : Int), 0 ≤ a ∧ a ≤ s.size ∧ Aside0 (cursor_Cursor_Take.f s at_ bad n = some (t, s, a, b)) ∧ Aside0 (portmanteauref01_Cursor_Take.f s at_ bad n = some (t, s, a, b)) ∧ Aside0 (cursor_Cursor_Peek.f s at_ bad n = some (t, s, at_, bad)) := by
  have hin := tkA_in (bad := bad) h0 h1 n
  exact ⟨_, _, _, hin.1, hin.2, ⟨take_tk hs h0 h1 n⟩, ⟨ref_take_tk hs h0 h1 n hn⟩, ⟨peek_tk hs h0 h1 n⟩⟩
end
end Go.Proofs.Ytegdnkhpkealoaa.Cur
