/- CursorBack: what is written (numbers in two, four and eight bytes, a text, three bytes of a number) is read as it was. No condition beside the statement's own. -/
import Derived.Test.YtegdnkhpkealoaaCurTwo
import Derived.Test.YtegdnkhpkealoaaCurFour
import Derived.Test.YtegdnkhpkealoaaCurEight
import Derived.Test.YtegdnkhpkealoaaAwake
import Derived.Test.YtegdnkhpkealoaaPx12
import Derived.Test.YtegdnkhpkealoaaPx14
namespace Go.Proofs.Ytegdnkhpkealoaa.Pure
open Go Go.RowKit Go.Proofs.Ytegdnkhpkealoaa.P Go.Proofs.Ytegdnkhpkealoaa.B Go.Proofs.Ytegdnkhpkealoaa.Num Go.Proofs.Ytegdnkhpkealoaa.Cur Go.Proofs.YtegdnkhpkealoaaW.PrintWords Go.Proofs.YtegdnkhpkealoaaW.PrintLast

theorem peek_list {s : ByteArray} {at_ n : Int} {pre mid post : List UInt8} (hs : s.size ≤ 140737488351232) (h : s.data.toList = pre ++ mid ++ post) (ha : at_ = pre.length) (hn : n = mid.length) :
    cursor_Cursor_Peek.f s at_ 0 n = some (strN mid, s, at_, 0) := by
  have hl : s.size = pre.length + mid.length + post.length := by rw [← toList_length s, h]; simp; omega
  unfold cursor_Cursor_Peek.f
  rw [if_pos rfl, if_neg (by omega), wrap_id (x := (s.size : Int) - at_) (by omega) (by omega), if_neg (by omega), wrap_id (x := at_ + n) (by omega) (by omega), if_pos (by omega), if_pos (by omega), if_pos (by omega)]
  have e1 : at_.toNat = pre.length := by omega
  have e2 : (at_ + n).toNat = pre.length + mid.length := by omega
  rw [e1, e2, extract_strN h]

theorem and24 (n : Nat) (hn : n < 2 ^ 64) : Go.bits .and .u64 (n : Int) 16777215 = (n : Int) % 16777216 := by
  have h := bits_mask .u64 64 (by decide) (fun n h0 h1 => u64_id h0 h1) 24 (by decide) (n : Int) (by omega) (by omega)
  simpa using h

theorem CursorBack : portmanteaulaw01_CursorBack.Pure := by
  intro a0 a1 a2 a3 h0 h1 h2 h3
  have g0 := wf_u16 h0
  have g1 := wf_u32 h1
  have g2 := wf_u64 h2
  obtain ⟨a, rfl⟩ := Int.eq_ofNat_of_zero_le g0.1
  obtain ⟨b, rfl⟩ := Int.eq_ofNat_of_zero_le g1.1
  obtain ⟨n, rfl⟩ := Int.eq_ofNat_of_zero_le g2.1
  obtain ⟨k, hk⟩ : ∃ k : Nat, 102 ≤ k := ⟨102, by omega⟩
  refine ⟨k + 1, ?_⟩
  unfold portmanteaulaw01_CursorBack.f
  rw [awake_eq _ (by omega)]
  simp only [Option.bind_some, if_true]
  by_cases hs : (a3.size : Int) > 2000
  · rw [if_pos hs]
  rw [if_neg hs, two_eq _ (by omega) _ (by omega), four_eq _ (by omega) _ (by omega)]
  simp only [Option.bind_some]
  rw [eight_eq _ (by omega) _ (by omega), of_eq _ (by omega) _ _ (by omega)]
  have hz2 : (strN (ofN 2 a)).size = 2 := by rw [strN_size, ofN_length]
  have hz4 : (strN (ofN 4 b)).size = 4 := by rw [strN_size, ofN_length]
  have hz8 : (strN (ofN 8 n)).size = 8 := by rw [strN_size, ofN_length]
  have hz3 : (strN (ofI n 3)).size = 3 := by rw [strN_size]; simp [ofI, ofN_length]
  have he : strN (ofI n 3) = strN (ofN 3 n) := rfl
  rw [if_pos (by omega), if_pos (by omega)]
  simp only [Option.bind_some]
  rw [if_pos (by omega), if_pos (by omega)]
  have hall : strN (ofN 2 a) ++ strN (ofN 4 b) ++ a3 ++ strN (ofN 8 n) ++ strN (ofI n 3) = strN (ofN 2 a ++ ofN 4 b ++ a3.data.toList ++ ofN 8 n ++ ofN 3 n) := by
    rw [he, ← strN_of a3]; simp only [strN_append, strN_data]
  rw [hall]
  have hsz : (strN (ofN 2 a ++ ofN 4 b ++ a3.data.toList ++ ofN 8 n ++ ofN 3 n)).size = 17 + a3.size := by rw [strN_size]; simp [ofN_length]; omega
  have hd : (strN (ofN 2 a ++ ofN 4 b ++ a3.data.toList ++ ofN 8 n ++ ofN 3 n)).data.toList = ofN 2 a ++ ofN 4 b ++ a3.data.toList ++ ofN 8 n ++ ofN 3 n := rfl
  generalize hw : strN (ofN 2 a ++ ofN 4 b ++ a3.data.toList ++ ofN 8 n ++ ofN 3 n) = w at hsz hd
  rw [show cursor_Over.f w = some (w, 0, 0) from rfl, Option.bind_some]
  have d1 : w.data.toList = [] ++ ofN 2 a ++ (ofN 4 b ++ a3.data.toList ++ ofN 8 n ++ ofN 3 n) := by rw [hd]; simp
  rw [two_list (at_ := 0) (by omega) d1 rfl (ofN_length _ _) _ (by omega), leN_ofN]
  simp only [Option.bind_some]
  rw [if_pos (by omega)]
  have d2 : w.data.toList = ([] ++ ofN 2 a) ++ ofN 4 b ++ (a3.data.toList ++ ofN 8 n ++ ofN 3 n) := by rw [hd]; simp
  rw [four_list (by omega) d2 rfl (ofN_length _ _) _ (by omega), leN_ofN]
  simp only [Option.bind_some]
  rw [if_pos (by omega)]
  have d3 : w.data.toList = ([] ++ ofN 2 a ++ ofN 4 b) ++ a3.data.toList ++ (ofN 8 n ++ ofN 3 n) := by rw [hd]; simp
  rw [take_list (by omega) d3 rfl (by rw [toList_length])]
  simp only [Option.bind_some]
  rw [strN_of, if_pos rfl]
  have d4 : w.data.toList = ([] ++ ofN 2 a ++ ofN 4 b ++ a3.data.toList) ++ ofN 8 n ++ ofN 3 n := by rw [hd]; simp
  rw [eight_list (by omega) d4 rfl (ofN_length _ _) _ (by omega), leN_ofN]
  simp only [Option.bind_some]
  rw [if_pos (by omega)]
  unfold cursor_Cursor_Left.f
  simp only [Option.bind_some]
  have hle : ([] ++ ofN 2 a ++ ofN 4 b ++ a3.data.toList ++ ofN 8 n).length = 14 + a3.size := by simp [ofN_length]; omega
  have hq : ∀ z : Nat, z = 14 + a3.size → ((w.size : Int) - (z : Int) == 3) = true := by intro z hz; rw [beq_iff_eq]; omega
  rw [wrap_id (by omega) (by omega), hq _ hle]
  simp only [portmanteaulaw01_CursorBack.j0]
  have d5 : w.data.toList = ([] ++ ofN 2 a ++ ofN 4 b ++ a3.data.toList ++ ofN 8 n) ++ ofN 3 n ++ [] := by rw [hd]; simp
  rw [peek_list (by omega) d5 rfl (by rw [ofN_length]; rfl)]
  simp only [Option.bind_some]
  unfold cursor_Number.f
  rw [if_neg (by rw [strN_size, ofN_length]; omega), number_strN _ (by rw [ofN_length]; omega) _ (by omega), leN_ofN]
  simp only [Option.bind_some, if_true]
  have hm := and24 n (by omega)
  rw [hm, if_pos (by omega)]
  unfold cursor_Cursor_Err.f cursor_Cursor_At.f
  simp only [Option.bind_some, if_true]
  rw [hle, wrap_id (by omega) (by omega)]
  simp only [Option.some.injEq, beq_iff_eq]
  omega
end Go.Proofs.Ytegdnkhpkealoaa.Pure
