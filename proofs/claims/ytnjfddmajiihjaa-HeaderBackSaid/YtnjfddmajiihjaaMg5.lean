import Derived.Test.YtnjfddmajiihjaaMg4
import Derived.Test.YtnjfddmajiihjaaGiveparselocal
import Derived.Test.YtnjfddmajiihjaaGiveparsecentral
import Derived.Test.YtnjfddmajiihjaaGiveparsedesc
import Derived.Test.YtnjfddmajiihjaaPx8
import Derived.Test.YtnjfddmajiihjaaMg2
import Derived.Test.YtnjfddmajiihjaaMg3
import Derived.Test.YtnjfddmajiihjaaPx4
import Derived.Test.YtnjfddmajiihjaaPx5
import Derived.Test.YtnjfddmajiihjaaPx6
import Derived.Test.YtnjfddmajiihjaaPx7
import Derived.Test.YtnjfddmajiihjaaMg1
namespace Go.Proofs.Ytnjfddmajiihjaa.Hp
set_option linter.unusedVariables false
set_option linter.unusedSimpArgs false
open Go Go.RowKit Go.Proofs.Ytnjfddmajiihjaa.P Go.Proofs.Ytnjfddmajiihjaa.B Go.Proofs.Ytnjfddmajiihjaa.Num Go.Proofs.Ytnjfddmajiihjaa.Cur Go.Proofs.YtnjfddmajiihjaaW.PrintWords Go.Proofs.YtnjfddmajiihjaaW.PrintLast Go.Proofs.YtnjfddmajiihjaaW.PrintMore
theorem op2 (s : ByteArray) (a e : Int) : opf 2 s a e = cursor_Cursor_Two.f 40 s a e := by unfold opf; rw [if_pos rfl]
theorem op4 (s : ByteArray) (a e : Int) : opf 4 s a e = cursor_Cursor_Four.f 40 s a e := by unfold opf; rw [if_neg (by omega), if_pos rfl]
theorem op8 (s : ByteArray) (a e : Int) : opf 8 s a e = cursor_Cursor_Eight.f 40 s a e := by unfold opf; rw [if_neg (by omega), if_neg (by omega)]
theorem chain_cons {w : Nat} {ws : List Nat} {s s' : ByteArray} {a e a' e' : Int} {vs : List Int} (h : chain (w :: ws) s a e = some (vs, s', a', e')) : ∃ v s1 a1 e1 us, opf w s a e = some (v, s1, a1, e1) ∧ chain ws s1 a1 e1 = some (us, s', a', e') ∧ vs = v :: us := by
  unfold chain at h
  obtain ⟨⟨v, s1, a1, e1⟩, h1, h⟩ := Option.bind_eq_some_iff.1 h
  obtain ⟨⟨us, s2, a2, e2⟩, h2, h⟩ := Option.bind_eq_some_iff.1 h
  simp only [Option.some.injEq, Prod.mk.injEq] at h
  obtain ⟨rfl, rfl, rfl, rfl⟩ := h
  exact ⟨v, s1, a1, e1, us, h1, h2, rfl⟩
theorem chain_nil {s s' : ByteArray} {a e a' e' : Int} {vs : List Int} (h : chain [] s a e = some (vs, s', a', e')) : s' = s ∧ a' = a ∧ e' = e ∧ vs = [] := by
  simp only [chain, Option.some.injEq, Prod.mk.injEq] at h
  obtain ⟨rfl, rfl, rfl, rfl⟩ := h
  exact ⟨rfl, rfl, rfl, rfl⟩
theorem tchain_cons {n : Int} {ns : List Int} {s s' : ByteArray} {a e a' e' : Int} {vs : List ByteArray} (h : tchain (n :: ns) s a e = some (vs, s', a', e')) : ∃ v s1 a1 e1 us, cursor_Cursor_Take.f s a e n = some (v, s1, a1, e1) ∧ tchain ns s1 a1 e1 = some (us, s', a', e') ∧ vs = v :: us := by
  unfold tchain at h
  obtain ⟨⟨v, s1, a1, e1⟩, h1, h⟩ := Option.bind_eq_some_iff.1 h
  obtain ⟨⟨us, s2, a2, e2⟩, h2, h⟩ := Option.bind_eq_some_iff.1 h
  simp only [Option.some.injEq, Prod.mk.injEq] at h
  obtain ⟨rfl, rfl, rfl, rfl⟩ := h
  exact ⟨v, s1, a1, e1, us, h1, h2, rfl⟩
theorem tchain_nil {s s' : ByteArray} {a e a' e' : Int} {vs : List ByteArray} (h : tchain [] s a e = some (vs, s', a', e')) : s' = s ∧ a' = a ∧ e' = e ∧ vs = [] := by
  simp only [tchain, Option.some.injEq, Prod.mk.injEq] at h
  obtain ⟨rfl, rfl, rfl, rfl⟩ := h
  exact ⟨rfl, rfl, rfl, rfl⟩
theorem first_four (s : ByteArray) (hs : s.size ≤ 100000) (h : 4 ≤ s.size) : cursor_Cursor_Take.f s 0 0 4 = some (strN (s.data.toList.take 4), s, 4, 0) := by
  have hl : (s.data.toList.take 4).length = 4 := by rw [List.length_take, toList_length]; omega
  have h0 := At.start s (by omega)
  have h' : At s 0 (s.data.toList.take 4 ++ s.data.toList.drop 4) := by rw [List.take_append_drop]; exact h0
  have := take_at (n := 4) h' (by rw [hl]; rfl)
  rw [hl] at this
  exact this
theorem first_none (s : ByteArray) (hs : s.size ≤ 100000) (h : s.size < 4) : cursor_Cursor_Take.f s 0 0 4 = some (strN [], s, 0, 3) := take_fail (At.start s (by omega)) (.inr (by rw [toList_length]; omega))
theorem at_four (s : ByteArray) (hs : s.size ≤ 100000) (h : 4 ≤ s.size) : At s 4 (s.data.toList.drop 4) := by
  have := at_drop (At.start s (by omega)) 4 (by rw [toList_length]; omega)
  simpa using this
theorem strN_toList (l : List UInt8) : (strN l).toList = l := by rw [toL]; rfl
end Go.Proofs.Ytnjfddmajiihjaa.Hp
namespace Go.Proofs.Ytnjfddmajiihjaa.Hp
set_option linter.unusedVariables false
set_option linter.unusedSimpArgs false
open Go Go.RowKit Go.Proofs.Ytnjfddmajiihjaa.P Go.Proofs.Ytnjfddmajiihjaa.B Go.Proofs.Ytnjfddmajiihjaa.Num Go.Proofs.Ytnjfddmajiihjaa.Cur Go.Proofs.YtnjfddmajiihjaaW.PrintWords Go.Proofs.YtnjfddmajiihjaaW.PrintLast Go.Proofs.YtnjfddmajiihjaaW.PrintMore
theorem local_short (s : ByteArray) (hs : s.size ≤ 100000) (h : s.size < 4) : header_ParseLocal.f s = some (0, 0, 0, 0, 0, 0, 0, (⟨#[]⟩ : ByteArray), (⟨#[]⟩ : ByteArray), 0, 3) := by
  unfold header_ParseLocal.f
  rw [first_none s hs h, Option.bind_some]
  dsimp only
  rw [if_neg (by decide)]
theorem local_no4 (s : ByteArray) (hs : s.size ≤ 100000) (h : 4 ≤ s.size) (hm : s.data.toList.take 4 ≠ [80, 75, 3, 4]) : header_ParseLocal.f s = some (0, 0, 0, 0, 0, 0, 0, (⟨#[]⟩ : ByteArray), (⟨#[]⟩ : ByteArray), 0, 4) := by
  unfold header_ParseLocal.f
  rw [first_four s hs h, Option.bind_some]
  dsimp only
  rw [if_pos rfl, if_neg]
  rw [strN_toList, toL]
  simpa using hm
theorem local_fix (s : ByteArray) (hs : s.size ≤ 100000) (h4 : 4 ≤ s.size) (hm : s.data.toList.take 4 = [80, 75, 3, 4]) (h : s.size < 4 + 26) : header_ParseLocal.f s = some (0, 0, 0, 0, 0, 0, 0, (⟨#[]⟩ : ByteArray), (⟨#[]⟩ : ByteArray), 0, 3) := by
  have h0 := at_four s hs h4
  obtain ⟨vs, b, hc⟩ := chain_fail [2, 2, 2, 4, 4, 4, 4, 2, 2] 4 (s.data.toList.drop 4) (by intro w hw; simp only [List.mem_cons, List.mem_nil_iff, or_false] at hw; unfold Wd; omega) h0 (by rw [List.length_drop, toList_length]; simp; omega)
  obtain ⟨v1, s1, a1, e1, us1, g1, hc, hv1⟩ := chain_cons hc
  rw [op2] at g1
  obtain ⟨v2, s2, a2, e2, us2, g2, hc, hv2⟩ := chain_cons hc
  rw [op2] at g2
  obtain ⟨v3, s3, a3, e3, us3, g3, hc, hv3⟩ := chain_cons hc
  rw [op2] at g3
  obtain ⟨v4, s4, a4, e4, us4, g4, hc, hv4⟩ := chain_cons hc
  rw [op4] at g4
  obtain ⟨v5, s5, a5, e5, us5, g5, hc, hv5⟩ := chain_cons hc
  rw [op4] at g5
  obtain ⟨v6, s6, a6, e6, us6, g6, hc, hv6⟩ := chain_cons hc
  rw [op4] at g6
  obtain ⟨v7, s7, a7, e7, us7, g7, hc, hv7⟩ := chain_cons hc
  rw [op4] at g7
  obtain ⟨v8, s8, a8, e8, us8, g8, hc, hv8⟩ := chain_cons hc
  rw [op2] at g8
  obtain ⟨v9, s9, a9, e9, us9, g9, hc, hv9⟩ := chain_cons hc
  rw [op2] at g9
  obtain ⟨hs9, ha9, he9, hv0⟩ := chain_nil hc
  subst hs9 ha9 he9
  unfold header_ParseLocal.f
  rw [first_four s hs (by omega), Option.bind_some]
  dsimp only
  rw [if_pos rfl, if_pos (by rw [strN_toList, hm, toL]; rfl)]
  rw [g1, Option.bind_some]
  dsimp only
  rw [g2, Option.bind_some]
  dsimp only
  rw [g3, Option.bind_some]
  dsimp only
  rw [g4, Option.bind_some]
  dsimp only
  rw [g5, Option.bind_some]
  dsimp only
  rw [g6, Option.bind_some]
  dsimp only
  rw [g7, Option.bind_some]
  dsimp only
  rw [g8, Option.bind_some]
  dsimp only
  rw [g9, Option.bind_some]
  dsimp only
  rw [take_bad (by decide), Option.bind_some]
  dsimp only
  rw [take_bad (by decide), Option.bind_some]
  dsimp only
  rw [if_neg (by decide)]
theorem local_txt (s : ByteArray) (hs : s.size ≤ 100000) (hm : s.data.toList.take 4 = [80, 75, 3, 4]) (h : 4 + 26 ≤ s.size) (v1 : Int) (v2 : Int) (v3 : Int) (v4 : Int) (v5 : Int) (v6 : Int) (v7 : Int) (v8 : Int) (v9 : Int) (hn : numsL [2, 2, 2, 4, 4, 4, 4, 2, 2] (s.data.toList.drop 4) = [v1, v2, v3, v4, v5, v6, v7, v8, v9]) (q1 : Nat) (hq1 : v8 = (q1 : Int)) (q2 : Nat) (hq2 : v9 = (q2 : Int)) (hk : s.size < 30 + (q1 + q2)) : header_ParseLocal.f s = some (0, 0, 0, 0, 0, 0, 0, (⟨#[]⟩ : ByteArray), (⟨#[]⟩ : ByteArray), 0, 3) := by
  have h0 := at_four s hs (by omega)
  have hc := chain_ok [2, 2, 2, 4, 4, 4, 4, 2, 2] 4 (s.data.toList.drop 4) (by intro w hw; simp only [List.mem_cons, List.mem_nil_iff, or_false] at hw; unfold Wd; omega) h0 (by rw [List.length_drop, toList_length]; simp; omega)
  rw [hn] at hc
  change chain [2, 2, 2, 4, 4, 4, 4, 2, 2] s 4 0 = some ([v1, v2, v3, v4, v5, v6, v7, v8, v9], s, 4 + ((26 : Nat) : Int), 0) at hc
  obtain ⟨y1, s1, a1, e1, us1, g1, hc, hv1⟩ := chain_cons hc
  rw [op2] at g1
  injection hv1 with hy1 hv1
  subst hy1 hv1
  obtain ⟨y2, s2, a2, e2, us2, g2, hc, hv2⟩ := chain_cons hc
  rw [op2] at g2
  injection hv2 with hy2 hv2
  subst hy2 hv2
  obtain ⟨y3, s3, a3, e3, us3, g3, hc, hv3⟩ := chain_cons hc
  rw [op2] at g3
  injection hv3 with hy3 hv3
  subst hy3 hv3
  obtain ⟨y4, s4, a4, e4, us4, g4, hc, hv4⟩ := chain_cons hc
  rw [op4] at g4
  injection hv4 with hy4 hv4
  subst hy4 hv4
  obtain ⟨y5, s5, a5, e5, us5, g5, hc, hv5⟩ := chain_cons hc
  rw [op4] at g5
  injection hv5 with hy5 hv5
  subst hy5 hv5
  obtain ⟨y6, s6, a6, e6, us6, g6, hc, hv6⟩ := chain_cons hc
  rw [op4] at g6
  injection hv6 with hy6 hv6
  subst hy6 hv6
  obtain ⟨y7, s7, a7, e7, us7, g7, hc, hv7⟩ := chain_cons hc
  rw [op4] at g7
  injection hv7 with hy7 hv7
  subst hy7 hv7
  obtain ⟨y8, s8, a8, e8, us8, g8, hc, hv8⟩ := chain_cons hc
  rw [op2] at g8
  injection hv8 with hy8 hv8
  subst hy8 hv8
  obtain ⟨y9, s9, a9, e9, us9, g9, hc, hv9⟩ := chain_cons hc
  rw [op2] at g9
  injection hv9 with hy9 hv9
  subst hy9 hv9
  obtain ⟨hs9, ha9, he9, _⟩ := chain_nil hc
  subst hs9 ha9 he9
  have h1 := at_drop h0 26 (by rw [List.length_drop, toList_length]; omega)
  rw [List.drop_drop] at h1
  obtain ⟨us, b, ht⟩ := tchain_fail [q1, q2] _ _ h1 (by rw [List.length_drop, toList_length]; simp; omega)
  simp only [List.map_cons, List.map_nil] at ht
  obtain ⟨x1, sx1, ax1, ex1, ux1, gx1, ht, hx1⟩ := tchain_cons ht
  obtain ⟨x2, sx2, ax2, ex2, ux2, gx2, ht, hx2⟩ := tchain_cons ht
  obtain ⟨hs8, ha8, he8, hx0⟩ := tchain_nil ht
  subst hs8 ha8 he8
  unfold header_ParseLocal.f
  rw [first_four s hs (by omega), Option.bind_some]
  dsimp only
  rw [if_pos rfl, if_pos (by rw [strN_toList, hm, toL]; rfl)]
  rw [g1, Option.bind_some]
  dsimp only
  rw [g2, Option.bind_some]
  dsimp only
  rw [g3, Option.bind_some]
  dsimp only
  rw [g4, Option.bind_some]
  dsimp only
  rw [g5, Option.bind_some]
  dsimp only
  rw [g6, Option.bind_some]
  dsimp only
  rw [g7, Option.bind_some]
  dsimp only
  rw [g8, Option.bind_some]
  dsimp only
  rw [g9, Option.bind_some]
  dsimp only
  rw [hq1, gx1, Option.bind_some]
  dsimp only
  rw [hq2, gx2, Option.bind_some]
  dsimp only
  rw [if_neg (by decide)]
theorem local_good (s : ByteArray) (hs : s.size ≤ 100000) (hm : s.data.toList.take 4 = [80, 75, 3, 4]) (h : 4 + 26 ≤ s.size) (v1 : Int) (v2 : Int) (v3 : Int) (v4 : Int) (v5 : Int) (v6 : Int) (v7 : Int) (v8 : Int) (v9 : Int) (hn : numsL [2, 2, 2, 4, 4, 4, 4, 2, 2] (s.data.toList.drop 4) = [v1, v2, v3, v4, v5, v6, v7, v8, v9]) (q1 : Nat) (hq1 : v8 = (q1 : Int)) (q2 : Nat) (hq2 : v9 = (q2 : Int)) (x1 : ByteArray) (x2 : ByteArray) (hx : textsL [q1, q2] (s.data.toList.drop 30) = [x1, x2]) (hk : 30 + (q1 + q2) ≤ s.size) : header_ParseLocal.f s = some (v1, v2, v3, v4, v5, v6, v7, x1, x2, ((30 + (q1 + q2) : Nat) : Int), 0) := by
  have h0 := at_four s hs (by omega)
  have hc := chain_ok [2, 2, 2, 4, 4, 4, 4, 2, 2] 4 (s.data.toList.drop 4) (by intro w hw; simp only [List.mem_cons, List.mem_nil_iff, or_false] at hw; unfold Wd; omega) h0 (by rw [List.length_drop, toList_length]; simp; omega)
  rw [hn] at hc
  change chain [2, 2, 2, 4, 4, 4, 4, 2, 2] s 4 0 = some ([v1, v2, v3, v4, v5, v6, v7, v8, v9], s, 4 + ((26 : Nat) : Int), 0) at hc
  obtain ⟨y1, s1, a1, e1, us1, g1, hc, hv1⟩ := chain_cons hc
  rw [op2] at g1
  injection hv1 with hy1 hv1
  subst hy1 hv1
  obtain ⟨y2, s2, a2, e2, us2, g2, hc, hv2⟩ := chain_cons hc
  rw [op2] at g2
  injection hv2 with hy2 hv2
  subst hy2 hv2
  obtain ⟨y3, s3, a3, e3, us3, g3, hc, hv3⟩ := chain_cons hc
  rw [op2] at g3
  injection hv3 with hy3 hv3
  subst hy3 hv3
  obtain ⟨y4, s4, a4, e4, us4, g4, hc, hv4⟩ := chain_cons hc
  rw [op4] at g4
  injection hv4 with hy4 hv4
  subst hy4 hv4
  obtain ⟨y5, s5, a5, e5, us5, g5, hc, hv5⟩ := chain_cons hc
  rw [op4] at g5
  injection hv5 with hy5 hv5
  subst hy5 hv5
  obtain ⟨y6, s6, a6, e6, us6, g6, hc, hv6⟩ := chain_cons hc
  rw [op4] at g6
  injection hv6 with hy6 hv6
  subst hy6 hv6
  obtain ⟨y7, s7, a7, e7, us7, g7, hc, hv7⟩ := chain_cons hc
  rw [op4] at g7
  injection hv7 with hy7 hv7
  subst hy7 hv7
  obtain ⟨y8, s8, a8, e8, us8, g8, hc, hv8⟩ := chain_cons hc
  rw [op2] at g8
  injection hv8 with hy8 hv8
  subst hy8 hv8
  obtain ⟨y9, s9, a9, e9, us9, g9, hc, hv9⟩ := chain_cons hc
  rw [op2] at g9
  injection hv9 with hy9 hv9
  subst hy9 hv9
  obtain ⟨hs9, ha9, he9, _⟩ := chain_nil hc
  subst hs9 ha9 he9
  have h1 := at_drop h0 26 (by rw [List.length_drop, toList_length]; omega)
  rw [List.drop_drop] at h1
  have ht := tchain_ok [q1, q2] _ _ h1 (by rw [List.length_drop, toList_length]; simp; omega)
  rw [hx] at ht
  simp only [List.map_cons, List.map_nil] at ht
  obtain ⟨y1, sx1, ax1, ex1, ux1, gx1, ht, hx1⟩ := tchain_cons ht
  injection hx1 with hy1 hx1
  subst hy1 hx1
  obtain ⟨y2, sx2, ax2, ex2, ux2, gx2, ht, hx2⟩ := tchain_cons ht
  injection hx2 with hy2 hx2
  subst hy2 hx2
  obtain ⟨hs8, ha8, he8, _⟩ := tchain_nil ht
  subst hs8 he8
  unfold header_ParseLocal.f
  rw [first_four s hs (by omega), Option.bind_some]
  dsimp only
  rw [if_pos rfl, if_pos (by rw [strN_toList, hm, toL]; rfl)]
  rw [g1, Option.bind_some]
  dsimp only
  rw [g2, Option.bind_some]
  dsimp only
  rw [g3, Option.bind_some]
  dsimp only
  rw [g4, Option.bind_some]
  dsimp only
  rw [g5, Option.bind_some]
  dsimp only
  rw [g6, Option.bind_some]
  dsimp only
  rw [g7, Option.bind_some]
  dsimp only
  rw [g8, Option.bind_some]
  dsimp only
  rw [g9, Option.bind_some]
  dsimp only
  rw [hq1, gx1, Option.bind_some]
  dsimp only
  rw [hq2, gx2, Option.bind_some]
  dsimp only
  rw [if_pos rfl, ← ha8]
  simp only [Option.some.injEq, Prod.mk.injEq, and_true, true_and, List.sum_cons, List.sum_nil]
  omega
end Go.Proofs.Ytnjfddmajiihjaa.Hp
namespace Go.Proofs.Ytnjfddmajiihjaa.Hp
set_option linter.unusedVariables false
set_option linter.unusedSimpArgs false
open Go Go.RowKit Go.Proofs.Ytnjfddmajiihjaa.P Go.Proofs.Ytnjfddmajiihjaa.B Go.Proofs.Ytnjfddmajiihjaa.Num Go.Proofs.Ytnjfddmajiihjaa.Cur Go.Proofs.YtnjfddmajiihjaaW.PrintWords Go.Proofs.YtnjfddmajiihjaaW.PrintLast Go.Proofs.YtnjfddmajiihjaaW.PrintMore
theorem central_short (s : ByteArray) (hs : s.size ≤ 100000) (h : s.size < 4) : header_ParseCentral.f s = some (0, 0, 0, 0, 0, 0, 0, 0, 0, 0, 0, 0, (⟨#[]⟩ : ByteArray), (⟨#[]⟩ : ByteArray), (⟨#[]⟩ : ByteArray), 0, 3) := by
  unfold header_ParseCentral.f
  rw [first_none s hs h, Option.bind_some]
  dsimp only
  rw [if_neg (by decide)]
theorem central_no4 (s : ByteArray) (hs : s.size ≤ 100000) (h : 4 ≤ s.size) (hm : s.data.toList.take 4 ≠ [80, 75, 1, 2]) : header_ParseCentral.f s = some (0, 0, 0, 0, 0, 0, 0, 0, 0, 0, 0, 0, (⟨#[]⟩ : ByteArray), (⟨#[]⟩ : ByteArray), (⟨#[]⟩ : ByteArray), 0, 4) := by
  unfold header_ParseCentral.f
  rw [first_four s hs h, Option.bind_some]
  dsimp only
  rw [if_pos rfl, if_neg]
  rw [strN_toList, toL]
  simpa using hm
theorem central_fix (s : ByteArray) (hs : s.size ≤ 100000) (h4 : 4 ≤ s.size) (hm : s.data.toList.take 4 = [80, 75, 1, 2]) (h : s.size < 4 + 42) : header_ParseCentral.f s = some (0, 0, 0, 0, 0, 0, 0, 0, 0, 0, 0, 0, (⟨#[]⟩ : ByteArray), (⟨#[]⟩ : ByteArray), (⟨#[]⟩ : ByteArray), 0, 3) := by
  have h0 := at_four s hs h4
  obtain ⟨vs, b, hc⟩ := chain_fail [2, 2, 2, 2, 4, 4, 4, 4, 2, 2, 2, 2, 2, 4, 4] 4 (s.data.toList.drop 4) (by intro w hw; simp only [List.mem_cons, List.mem_nil_iff, or_false] at hw; unfold Wd; omega) h0 (by rw [List.length_drop, toList_length]; simp; omega)
  obtain ⟨v1, s1, a1, e1, us1, g1, hc, hv1⟩ := chain_cons hc
  rw [op2] at g1
  obtain ⟨v2, s2, a2, e2, us2, g2, hc, hv2⟩ := chain_cons hc
  rw [op2] at g2
  obtain ⟨v3, s3, a3, e3, us3, g3, hc, hv3⟩ := chain_cons hc
  rw [op2] at g3
  obtain ⟨v4, s4, a4, e4, us4, g4, hc, hv4⟩ := chain_cons hc
  rw [op2] at g4
  obtain ⟨v5, s5, a5, e5, us5, g5, hc, hv5⟩ := chain_cons hc
  rw [op4] at g5
  obtain ⟨v6, s6, a6, e6, us6, g6, hc, hv6⟩ := chain_cons hc
  rw [op4] at g6
  obtain ⟨v7, s7, a7, e7, us7, g7, hc, hv7⟩ := chain_cons hc
  rw [op4] at g7
  obtain ⟨v8, s8, a8, e8, us8, g8, hc, hv8⟩ := chain_cons hc
  rw [op4] at g8
  obtain ⟨v9, s9, a9, e9, us9, g9, hc, hv9⟩ := chain_cons hc
  rw [op2] at g9
  obtain ⟨v10, s10, a10, e10, us10, g10, hc, hv10⟩ := chain_cons hc
  rw [op2] at g10
  obtain ⟨v11, s11, a11, e11, us11, g11, hc, hv11⟩ := chain_cons hc
  rw [op2] at g11
  obtain ⟨v12, s12, a12, e12, us12, g12, hc, hv12⟩ := chain_cons hc
  rw [op2] at g12
  obtain ⟨v13, s13, a13, e13, us13, g13, hc, hv13⟩ := chain_cons hc
  rw [op2] at g13
  obtain ⟨v14, s14, a14, e14, us14, g14, hc, hv14⟩ := chain_cons hc
  rw [op4] at g14
  obtain ⟨v15, s15, a15, e15, us15, g15, hc, hv15⟩ := chain_cons hc
  rw [op4] at g15
  obtain ⟨hs9, ha9, he9, hv0⟩ := chain_nil hc
  subst hs9 ha9 he9
  unfold header_ParseCentral.f
  rw [first_four s hs (by omega), Option.bind_some]
  dsimp only
  rw [if_pos rfl, if_pos (by rw [strN_toList, hm, toL]; rfl)]
  rw [g1, Option.bind_some]
  dsimp only
  rw [g2, Option.bind_some]
  dsimp only
  rw [g3, Option.bind_some]
  dsimp only
  rw [g4, Option.bind_some]
  dsimp only
  rw [g5, Option.bind_some]
  dsimp only
  rw [g6, Option.bind_some]
  dsimp only
  rw [g7, Option.bind_some]
  dsimp only
  rw [g8, Option.bind_some]
  dsimp only
  rw [g9, Option.bind_some]
  dsimp only
  rw [g10, Option.bind_some]
  dsimp only
  rw [g11, Option.bind_some]
  dsimp only
  rw [g12, Option.bind_some]
  dsimp only
  rw [g13, Option.bind_some]
  dsimp only
  rw [g14, Option.bind_some]
  dsimp only
  rw [g15, Option.bind_some]
  dsimp only
  rw [take_bad (by decide), Option.bind_some]
  dsimp only
  rw [take_bad (by decide), Option.bind_some]
  dsimp only
  rw [take_bad (by decide), Option.bind_some]
  dsimp only
  rw [if_neg (by decide)]
theorem central_txt (s : ByteArray) (hs : s.size ≤ 100000) (hm : s.data.toList.take 4 = [80, 75, 1, 2]) (h : 4 + 42 ≤ s.size) (v1 : Int) (v2 : Int) (v3 : Int) (v4 : Int) (v5 : Int) (v6 : Int) (v7 : Int) (v8 : Int) (v9 : Int) (v10 : Int) (v11 : Int) (v12 : Int) (v13 : Int) (v14 : Int) (v15 : Int) (hn : numsL [2, 2, 2, 2, 4, 4, 4, 4, 2, 2, 2, 2, 2, 4, 4] (s.data.toList.drop 4) = [v1, v2, v3, v4, v5, v6, v7, v8, v9, v10, v11, v12, v13, v14, v15]) (q1 : Nat) (hq1 : v9 = (q1 : Int)) (q2 : Nat) (hq2 : v10 = (q2 : Int)) (q3 : Nat) (hq3 : v11 = (q3 : Int)) (hk : s.size < 46 + (q1 + q2 + q3)) : header_ParseCentral.f s = some (0, 0, 0, 0, 0, 0, 0, 0, 0, 0, 0, 0, (⟨#[]⟩ : ByteArray), (⟨#[]⟩ : ByteArray), (⟨#[]⟩ : ByteArray), 0, 3) := by
  have h0 := at_four s hs (by omega)
  have hc := chain_ok [2, 2, 2, 2, 4, 4, 4, 4, 2, 2, 2, 2, 2, 4, 4] 4 (s.data.toList.drop 4) (by intro w hw; simp only [List.mem_cons, List.mem_nil_iff, or_false] at hw; unfold Wd; omega) h0 (by rw [List.length_drop, toList_length]; simp; omega)
  rw [hn] at hc
  change chain [2, 2, 2, 2, 4, 4, 4, 4, 2, 2, 2, 2, 2, 4, 4] s 4 0 = some ([v1, v2, v3, v4, v5, v6, v7, v8, v9, v10, v11, v12, v13, v14, v15], s, 4 + ((42 : Nat) : Int), 0) at hc
  obtain ⟨y1, s1, a1, e1, us1, g1, hc, hv1⟩ := chain_cons hc
  rw [op2] at g1
  injection hv1 with hy1 hv1
  subst hy1 hv1
  obtain ⟨y2, s2, a2, e2, us2, g2, hc, hv2⟩ := chain_cons hc
  rw [op2] at g2
  injection hv2 with hy2 hv2
  subst hy2 hv2
  obtain ⟨y3, s3, a3, e3, us3, g3, hc, hv3⟩ := chain_cons hc
  rw [op2] at g3
  injection hv3 with hy3 hv3
  subst hy3 hv3
  obtain ⟨y4, s4, a4, e4, us4, g4, hc, hv4⟩ := chain_cons hc
  rw [op2] at g4
  injection hv4 with hy4 hv4
  subst hy4 hv4
  obtain ⟨y5, s5, a5, e5, us5, g5, hc, hv5⟩ := chain_cons hc
  rw [op4] at g5
  injection hv5 with hy5 hv5
  subst hy5 hv5
  obtain ⟨y6, s6, a6, e6, us6, g6, hc, hv6⟩ := chain_cons hc
  rw [op4] at g6
  injection hv6 with hy6 hv6
  subst hy6 hv6
  obtain ⟨y7, s7, a7, e7, us7, g7, hc, hv7⟩ := chain_cons hc
  rw [op4] at g7
  injection hv7 with hy7 hv7
  subst hy7 hv7
  obtain ⟨y8, s8, a8, e8, us8, g8, hc, hv8⟩ := chain_cons hc
  rw [op4] at g8
  injection hv8 with hy8 hv8
  subst hy8 hv8
  obtain ⟨y9, s9, a9, e9, us9, g9, hc, hv9⟩ := chain_cons hc
  rw [op2] at g9
  injection hv9 with hy9 hv9
  subst hy9 hv9
  obtain ⟨y10, s10, a10, e10, us10, g10, hc, hv10⟩ := chain_cons hc
  rw [op2] at g10
  injection hv10 with hy10 hv10
  subst hy10 hv10
  obtain ⟨y11, s11, a11, e11, us11, g11, hc, hv11⟩ := chain_cons hc
  rw [op2] at g11
  injection hv11 with hy11 hv11
  subst hy11 hv11
  obtain ⟨y12, s12, a12, e12, us12, g12, hc, hv12⟩ := chain_cons hc
  rw [op2] at g12
  injection hv12 with hy12 hv12
  subst hy12 hv12
  obtain ⟨y13, s13, a13, e13, us13, g13, hc, hv13⟩ := chain_cons hc
  rw [op2] at g13
  injection hv13 with hy13 hv13
  subst hy13 hv13
  obtain ⟨y14, s14, a14, e14, us14, g14, hc, hv14⟩ := chain_cons hc
  rw [op4] at g14
  injection hv14 with hy14 hv14
  subst hy14 hv14
  obtain ⟨y15, s15, a15, e15, us15, g15, hc, hv15⟩ := chain_cons hc
  rw [op4] at g15
  injection hv15 with hy15 hv15
  subst hy15 hv15
  obtain ⟨hs9, ha9, he9, _⟩ := chain_nil hc
  subst hs9 ha9 he9
  have h1 := at_drop h0 42 (by rw [List.length_drop, toList_length]; omega)
  rw [List.drop_drop] at h1
  obtain ⟨us, b, ht⟩ := tchain_fail [q1, q2, q3] _ _ h1 (by rw [List.length_drop, toList_length]; simp; omega)
  simp only [List.map_cons, List.map_nil] at ht
  obtain ⟨x1, sx1, ax1, ex1, ux1, gx1, ht, hx1⟩ := tchain_cons ht
  obtain ⟨x2, sx2, ax2, ex2, ux2, gx2, ht, hx2⟩ := tchain_cons ht
  obtain ⟨x3, sx3, ax3, ex3, ux3, gx3, ht, hx3⟩ := tchain_cons ht
  obtain ⟨hs8, ha8, he8, hx0⟩ := tchain_nil ht
  subst hs8 ha8 he8
  unfold header_ParseCentral.f
  rw [first_four s hs (by omega), Option.bind_some]
  dsimp only
  rw [if_pos rfl, if_pos (by rw [strN_toList, hm, toL]; rfl)]
  rw [g1, Option.bind_some]
  dsimp only
  rw [g2, Option.bind_some]
  dsimp only
  rw [g3, Option.bind_some]
  dsimp only
  rw [g4, Option.bind_some]
  dsimp only
  rw [g5, Option.bind_some]
  dsimp only
  rw [g6, Option.bind_some]
  dsimp only
  rw [g7, Option.bind_some]
  dsimp only
  rw [g8, Option.bind_some]
  dsimp only
  rw [g9, Option.bind_some]
  dsimp only
  rw [g10, Option.bind_some]
  dsimp only
  rw [g11, Option.bind_some]
  dsimp only
  rw [g12, Option.bind_some]
  dsimp only
  rw [g13, Option.bind_some]
  dsimp only
  rw [g14, Option.bind_some]
  dsimp only
  rw [g15, Option.bind_some]
  dsimp only
  rw [hq1, gx1, Option.bind_some]
  dsimp only
  rw [hq2, gx2, Option.bind_some]
  dsimp only
  rw [hq3, gx3, Option.bind_some]
  dsimp only
  rw [if_neg (by decide)]
theorem central_good (s : ByteArray) (hs : s.size ≤ 100000) (hm : s.data.toList.take 4 = [80, 75, 1, 2]) (h : 4 + 42 ≤ s.size) (v1 : Int) (v2 : Int) (v3 : Int) (v4 : Int) (v5 : Int) (v6 : Int) (v7 : Int) (v8 : Int) (v9 : Int) (v10 : Int) (v11 : Int) (v12 : Int) (v13 : Int) (v14 : Int) (v15 : Int) (hn : numsL [2, 2, 2, 2, 4, 4, 4, 4, 2, 2, 2, 2, 2, 4, 4] (s.data.toList.drop 4) = [v1, v2, v3, v4, v5, v6, v7, v8, v9, v10, v11, v12, v13, v14, v15]) (q1 : Nat) (hq1 : v9 = (q1 : Int)) (q2 : Nat) (hq2 : v10 = (q2 : Int)) (q3 : Nat) (hq3 : v11 = (q3 : Int)) (x1 : ByteArray) (x2 : ByteArray) (x3 : ByteArray) (hx : textsL [q1, q2, q3] (s.data.toList.drop 46) = [x1, x2, x3]) (hk : 46 + (q1 + q2 + q3) ≤ s.size) : header_ParseCentral.f s = some (v1, v2, v3, v4, v5, v6, v7, v8, v12, v13, v14, v15, x1, x2, x3, ((46 + (q1 + q2 + q3) : Nat) : Int), 0) := by
  have h0 := at_four s hs (by omega)
  have hc := chain_ok [2, 2, 2, 2, 4, 4, 4, 4, 2, 2, 2, 2, 2, 4, 4] 4 (s.data.toList.drop 4) (by intro w hw; simp only [List.mem_cons, List.mem_nil_iff, or_false] at hw; unfold Wd; omega) h0 (by rw [List.length_drop, toList_length]; simp; omega)
  rw [hn] at hc
  change chain [2, 2, 2, 2, 4, 4, 4, 4, 2, 2, 2, 2, 2, 4, 4] s 4 0 = some ([v1, v2, v3, v4, v5, v6, v7, v8, v9, v10, v11, v12, v13, v14, v15], s, 4 + ((42 : Nat) : Int), 0) at hc
  obtain ⟨y1, s1, a1, e1, us1, g1, hc, hv1⟩ := chain_cons hc
  rw [op2] at g1
  injection hv1 with hy1 hv1
  subst hy1 hv1
  obtain ⟨y2, s2, a2, e2, us2, g2, hc, hv2⟩ := chain_cons hc
  rw [op2] at g2
  injection hv2 with hy2 hv2
  subst hy2 hv2
  obtain ⟨y3, s3, a3, e3, us3, g3, hc, hv3⟩ := chain_cons hc
  rw [op2] at g3
  injection hv3 with hy3 hv3
  subst hy3 hv3
  obtain ⟨y4, s4, a4, e4, us4, g4, hc, hv4⟩ := chain_cons hc
  rw [op2] at g4
  injection hv4 with hy4 hv4
  subst hy4 hv4
  obtain ⟨y5, s5, a5, e5, us5, g5, hc, hv5⟩ := chain_cons hc
  rw [op4] at g5
  injection hv5 with hy5 hv5
  subst hy5 hv5
  obtain ⟨y6, s6, a6, e6, us6, g6, hc, hv6⟩ := chain_cons hc
  rw [op4] at g6
  injection hv6 with hy6 hv6
  subst hy6 hv6
  obtain ⟨y7, s7, a7, e7, us7, g7, hc, hv7⟩ := chain_cons hc
  rw [op4] at g7
  injection hv7 with hy7 hv7
  subst hy7 hv7
  obtain ⟨y8, s8, a8, e8, us8, g8, hc, hv8⟩ := chain_cons hc
  rw [op4] at g8
  injection hv8 with hy8 hv8
  subst hy8 hv8
  obtain ⟨y9, s9, a9, e9, us9, g9, hc, hv9⟩ := chain_cons hc
  rw [op2] at g9
  injection hv9 with hy9 hv9
  subst hy9 hv9
  obtain ⟨y10, s10, a10, e10, us10, g10, hc, hv10⟩ := chain_cons hc
  rw [op2] at g10
  injection hv10 with hy10 hv10
  subst hy10 hv10
  obtain ⟨y11, s11, a11, e11, us11, g11, hc, hv11⟩ := chain_cons hc
  rw [op2] at g11
  injection hv11 with hy11 hv11
  subst hy11 hv11
  obtain ⟨y12, s12, a12, e12, us12, g12, hc, hv12⟩ := chain_cons hc
  rw [op2] at g12
  injection hv12 with hy12 hv12
  subst hy12 hv12
  obtain ⟨y13, s13, a13, e13, us13, g13, hc, hv13⟩ := chain_cons hc
  rw [op2] at g13
  injection hv13 with hy13 hv13
  subst hy13 hv13
  obtain ⟨y14, s14, a14, e14, us14, g14, hc, hv14⟩ := chain_cons hc
  rw [op4] at g14
  injection hv14 with hy14 hv14
  subst hy14 hv14
  obtain ⟨y15, s15, a15, e15, us15, g15, hc, hv15⟩ := chain_cons hc
  rw [op4] at g15
  injection hv15 with hy15 hv15
  subst hy15 hv15
  obtain ⟨hs9, ha9, he9, _⟩ := chain_nil hc
  subst hs9 ha9 he9
  have h1 := at_drop h0 42 (by rw [List.length_drop, toList_length]; omega)
  rw [List.drop_drop] at h1
  have ht := tchain_ok [q1, q2, q3] _ _ h1 (by rw [List.length_drop, toList_length]; simp; omega)
  rw [hx] at ht
  simp only [List.map_cons, List.map_nil] at ht
  obtain ⟨y1, sx1, ax1, ex1, ux1, gx1, ht, hx1⟩ := tchain_cons ht
  injection hx1 with hy1 hx1
  subst hy1 hx1
  obtain ⟨y2, sx2, ax2, ex2, ux2, gx2, ht, hx2⟩ := tchain_cons ht
  injection hx2 with hy2 hx2
  subst hy2 hx2
  obtain ⟨y3, sx3, ax3, ex3, ux3, gx3, ht, hx3⟩ := tchain_cons ht
  injection hx3 with hy3 hx3
  subst hy3 hx3
  obtain ⟨hs8, ha8, he8, _⟩ := tchain_nil ht
  subst hs8 he8
  unfold header_ParseCentral.f
  rw [first_four s hs (by omega), Option.bind_some]
  dsimp only
  rw [if_pos rfl, if_pos (by rw [strN_toList, hm, toL]; rfl)]
  rw [g1, Option.bind_some]
  dsimp only
  rw [g2, Option.bind_some]
  dsimp only
  rw [g3, Option.bind_some]
  dsimp only
  rw [g4, Option.bind_some]
  dsimp only
  rw [g5, Option.bind_some]
  dsimp only
  rw [g6, Option.bind_some]
  dsimp only
  rw [g7, Option.bind_some]
  dsimp only
  rw [g8, Option.bind_some]
  dsimp only
  rw [g9, Option.bind_some]
  dsimp only
  rw [g10, Option.bind_some]
  dsimp only
  rw [g11, Option.bind_some]
  dsimp only
  rw [g12, Option.bind_some]
  dsimp only
  rw [g13, Option.bind_some]
  dsimp only
  rw [g14, Option.bind_some]
  dsimp only
  rw [g15, Option.bind_some]
  dsimp only
  rw [hq1, gx1, Option.bind_some]
  dsimp only
  rw [hq2, gx2, Option.bind_some]
  dsimp only
  rw [hq3, gx3, Option.bind_some]
  dsimp only
  rw [if_pos rfl, ← ha8]
  simp only [Option.some.injEq, Prod.mk.injEq, and_true, true_and, List.sum_cons, List.sum_nil]
  omega
end Go.Proofs.Ytnjfddmajiihjaa.Hp
namespace Go.Proofs.Ytnjfddmajiihjaa.Hp
set_option linter.unusedVariables false
set_option linter.unusedSimpArgs false
open Go Go.RowKit Go.Proofs.Ytnjfddmajiihjaa.P Go.Proofs.Ytnjfddmajiihjaa.B Go.Proofs.Ytnjfddmajiihjaa.Num Go.Proofs.Ytnjfddmajiihjaa.Cur Go.Proofs.YtnjfddmajiihjaaW.PrintWords Go.Proofs.YtnjfddmajiihjaaW.PrintLast Go.Proofs.YtnjfddmajiihjaaW.PrintMore
theorem descw_good (s : ByteArray) (hs : s.size ≤ 100000) (hm : s.data.toList.take 4 = [80, 75, 7, 8]) (h : 4 + 20 ≤ s.size) (v1 : Int) (v2 : Int) (v3 : Int) (hn : numsL [4, 8, 8] (s.data.toList.drop 4) = [v1, v2, v3])  : header_ParseDescriptor.f s true = some (v1, v2, v3, ((24 : Nat) : Int), 0) := by
  have h0 := at_four s hs (by omega)
  have hc := chain_ok [4, 8, 8] 4 (s.data.toList.drop 4) (by intro w hw; simp only [List.mem_cons, List.mem_nil_iff, or_false] at hw; unfold Wd; omega) h0 (by rw [List.length_drop, toList_length]; simp; omega)
  rw [hn] at hc
  change chain [4, 8, 8] s 4 0 = some ([v1, v2, v3], s, 4 + ((20 : Nat) : Int), 0) at hc
  obtain ⟨y1, s1, a1, e1, us1, g1, hc, hv1⟩ := chain_cons hc
  rw [op4] at g1
  injection hv1 with hy1 hv1
  subst hy1 hv1
  obtain ⟨y2, s2, a2, e2, us2, g2, hc, hv2⟩ := chain_cons hc
  rw [op8] at g2
  injection hv2 with hy2 hv2
  subst hy2 hv2
  obtain ⟨y3, s3, a3, e3, us3, g3, hc, hv3⟩ := chain_cons hc
  rw [op8] at g3
  injection hv3 with hy3 hv3
  subst hy3 hv3
  obtain ⟨hs9, ha9, he9, _⟩ := chain_nil hc
  subst hs9 ha9 he9
  have h1 := at_drop h0 20 (by rw [List.length_drop, toList_length]; omega)
  rw [List.drop_drop] at h1
  unfold header_ParseDescriptor.f
  rw [first_four s hs (by omega), Option.bind_some]
  dsimp only
  rw [if_pos rfl, if_pos (by rw [strN_toList, hm, toL]; rfl)]
  rw [if_pos rfl]
  rw [g1, Option.bind_some]
  dsimp only
  rw [g2, Option.bind_some]
  dsimp only
  rw [g3, Option.bind_some]
  dsimp only
  rw [if_pos rfl]
  simp only [Option.some.injEq, Prod.mk.injEq, and_true, true_and, List.sum_cons, List.sum_nil]
  omega
end Go.Proofs.Ytnjfddmajiihjaa.Hp
namespace Go.Proofs.Ytnjfddmajiihjaa.Hp
set_option linter.unusedVariables false
set_option linter.unusedSimpArgs false
open Go Go.RowKit Go.Proofs.Ytnjfddmajiihjaa.P Go.Proofs.Ytnjfddmajiihjaa.B Go.Proofs.Ytnjfddmajiihjaa.Num Go.Proofs.Ytnjfddmajiihjaa.Cur Go.Proofs.YtnjfddmajiihjaaW.PrintWords Go.Proofs.YtnjfddmajiihjaaW.PrintLast Go.Proofs.YtnjfddmajiihjaaW.PrintMore
theorem num_le (R : List UInt8) (w m : Nat) (h : 256 ^ w ≤ m + 1) : 0 ≤ ((leN (R.take w) : Nat) : Int) ∧ ((leN (R.take w) : Nat) : Int) ≤ (m : Int) := by
  have h1 := leN_lt (R.take w)
  have h2 : (R.take w).length ≤ w := by rw [List.length_take]; omega
  have h3 : 256 ^ (R.take w).length ≤ 256 ^ w := Nat.pow_le_pow_right (by omega) h2
  omega
theorem num2 (R : List UInt8) : 0 ≤ ((leN (R.take 2) : Nat) : Int) ∧ ((leN (R.take 2) : Nat) : Int) ≤ 65535 := num_le R 2 65535 (by decide)
theorem num4 (R : List UInt8) : 0 ≤ ((leN (R.take 4) : Nat) : Int) ∧ ((leN (R.take 4) : Nat) : Int) ≤ 4294967295 := num_le R 4 4294967295 (by decide)
theorem local_nums (R : List UInt8) : ∃ v1 v2 v3 v4 v5 v6 v7 v8 v9 : Int, numsL [2, 2, 2, 4, 4, 4, 4, 2, 2] R = [v1, v2, v3, v4, v5, v6, v7, v8, v9] ∧ (0 ≤ v1 ∧ v1 ≤ 65535) ∧ (0 ≤ v2 ∧ v2 ≤ 65535) ∧ (0 ≤ v3 ∧ v3 ≤ 65535) ∧ (0 ≤ v4 ∧ v4 ≤ 4294967295) ∧ (0 ≤ v5 ∧ v5 ≤ 4294967295) ∧ (0 ≤ v6 ∧ v6 ≤ 4294967295) ∧ (0 ≤ v7 ∧ v7 ≤ 4294967295) ∧ (0 ≤ v8 ∧ v8 ≤ 65535) ∧ (0 ≤ v9 ∧ v9 ≤ 65535) := ⟨_, _, _, _, _, _, _, _, _, rfl, num2 _, num2 _, num2 _, num4 _, num4 _, num4 _, num4 _, num2 _, num2 _⟩
theorem central_nums (R : List UInt8) : ∃ v1 v2 v3 v4 v5 v6 v7 v8 v9 v10 v11 v12 v13 v14 v15 : Int, numsL [2, 2, 2, 2, 4, 4, 4, 4, 2, 2, 2, 2, 2, 4, 4] R = [v1, v2, v3, v4, v5, v6, v7, v8, v9, v10, v11, v12, v13, v14, v15] ∧ (0 ≤ v1 ∧ v1 ≤ 65535) ∧ (0 ≤ v2 ∧ v2 ≤ 65535) ∧ (0 ≤ v3 ∧ v3 ≤ 65535) ∧ (0 ≤ v4 ∧ v4 ≤ 65535) ∧ (0 ≤ v5 ∧ v5 ≤ 4294967295) ∧ (0 ≤ v6 ∧ v6 ≤ 4294967295) ∧ (0 ≤ v7 ∧ v7 ≤ 4294967295) ∧ (0 ≤ v8 ∧ v8 ≤ 4294967295) ∧ (0 ≤ v9 ∧ v9 ≤ 65535) ∧ (0 ≤ v10 ∧ v10 ≤ 65535) ∧ (0 ≤ v11 ∧ v11 ≤ 65535) ∧ (0 ≤ v12 ∧ v12 ≤ 65535) ∧ (0 ≤ v13 ∧ v13 ≤ 65535) ∧ (0 ≤ v14 ∧ v14 ≤ 4294967295) ∧ (0 ≤ v15 ∧ v15 ≤ 4294967295) := ⟨_, _, _, _, _, _, _, _, _, _, _, _, _, _, _, rfl, num2 _, num2 _, num2 _, num2 _, num4 _, num4 _, num4 _, num4 _, num2 _, num2 _, num2 _, num2 _, num2 _, num4 _, num4 _⟩
end Go.Proofs.Ytnjfddmajiihjaa.Hp
namespace Go.Proofs.Ytnjfddmajiihjaa.D17
set_option linter.unusedVariables false
set_option linter.unusedSimpArgs false
open Go Go.RowKit Go.Proofs.Ytnjfddmajiihjaa.P Go.Proofs.Ytnjfddmajiihjaa.B Go.Proofs.Ytnjfddmajiihjaa.Num Go.Proofs.YtnjfddmajiihjaaW.PrintWords Go.Proofs.YtnjfddmajiihjaaW.PrintLast Go.Proofs.YtnjfddmajiihjaaW.PrintMore
theorem strN_app (x y : List UInt8) : strN x ++ strN y = strN (x ++ y) := by
  apply ByteArray.ext
  simp [strN]
theorem strN_size (x : List UInt8) : (strN x).size = x.length := rfl
def rowB (xs ws : List Int) : List UInt8 := (xs.zip ws).flatMap fun p => ofN p.2.toNat p.1.toNat
theorem print_loop (xs ws : List Int) (hl : xs.length = ws.length) (hx : ∀ x ∈ xs, 0 ≤ x ∧ x < 18446744073709551616) (hw : ∀ x ∈ ws, 0 ≤ x ∧ x ≤ 8) (hn : ws.length ≤ 100) : ∀ d i k acc, i + d = ws.length → 65 + d < k → acc.length ≤ 8 * i →
    portmanteauref17_Print.l0 k xs (strN acc) ws (ws.length : Int) (i : Int) = some (strN (acc ++ rowB (xs.drop i) (ws.drop i))) := by
  intro d
  induction d with
  | zero =>
    intro i k acc hi hk ha
    obtain ⟨k, rfl⟩ : ∃ m, k = m + 1 := ⟨k - 1, by omega⟩
    unfold portmanteauref17_Print.l0
    rw [if_neg (by omega), List.drop_of_length_le (by omega : xs.length ≤ i)]
    simp [rowB]
  | succ d ih =>
    intro i k acc hi hk ha
    obtain ⟨k, rfl⟩ : ∃ m, k = m + 1 := ⟨k - 1, by omega⟩
    have h1 : i < xs.length := by omega
    have h2 : i < ws.length := by omega
    have g1 : rd xs (i : Int) = xs[i] := by unfold rd; rw [List.getD_eq_getElem?_getD, Int.toNat_natCast, List.getElem?_eq_getElem h1]; rfl
    have g2 : rd ws (i : Int) = ws[i] := by unfold rd; rw [List.getD_eq_getElem?_getD, Int.toNat_natCast, List.getElem?_eq_getElem h2]; rfl
    obtain ⟨b1, b2⟩ := hx _ (List.getElem_mem h1)
    obtain ⟨c1, c2⟩ := hw _ (List.getElem_mem h2)
    have e1 : xs.drop i = xs[i] :: xs.drop (i + 1) := List.drop_eq_getElem_cons h1
    have e2 : ws.drop i = ws[i] :: ws.drop (i + 1) := List.drop_eq_getElem_cons h2
    obtain ⟨x, hxx⟩ : ∃ x : Nat, xs[i] = (x : Int) := ⟨(xs[i]).toNat, by omega⟩
    obtain ⟨c, hcc⟩ : ∃ c, ws[i] = c := ⟨_, rfl⟩
    rw [hxx] at g1 e1 b1 b2
    rw [hcc] at g2 e2 c1 c2
    have hof : portmanteauref01_Of.f k (x : Int) c = some (strN (ofN c.toNat x)) := by
      rw [ref_of_eq x (by omega) c k (by omega)]
      unfold ofI
      rw [show min c.toNat 64 = c.toNat by omega]
    have q1 : (i : Int) < (ws.length : Int) := by omega
    have q2 : (0 : Int) ≤ (i : Int) := Int.natCast_nonneg _
    have q3 : (i : Int) < (xs.length : Int) := by omega
    have q4 : (strN acc).size + (strN (ofN c.toNat x)).size ≤ 9223372036854775807 := by rw [strN_size, strN_size, ofN_length]; omega
    have hih := ih (i + 1) k (acc ++ ofN c.toNat x) (by omega) (by omega) (by rw [List.length_append, ofN_length]; omega)
    have hww : wrap64 ((i : Int) + 1) = ((i + 1 : Nat) : Int) := by rw [wrap_id (by omega) (by omega)]; simp
    unfold portmanteauref17_Print.l0
    rw [if_pos q1, if_pos q2, if_pos q1, if_pos q3, g1, g2, hof, Option.bind_some, if_pos q4, hww, strN_app, hih, e1, e2]
    simp [rowB]
theorem print_eq (xs ws : List Int) (hl : xs.length = ws.length) (hx : ∀ x ∈ xs, 0 ≤ x ∧ x < 18446744073709551616) (hw : ∀ x ∈ ws, 0 ≤ x ∧ x ≤ 8) (hn : ws.length ≤ 100) : portmanteauref17_Print.f 200 xs ws = some (strN (rowB xs ws)) := by
  have h0 := print_loop xs ws hl hx hw hn ws.length 0 200 [] (Nat.zero_add _) (by omega) (Nat.zero_le _)
  rw [List.drop_zero, List.drop_zero, List.nil_append] at h0
  exact h0
theorem twos_eq (l : List Int) (hl : l.length ≤ 1000) (hx : ∀ x ∈ l, 0 ≤ x ∧ x < 2 ^ 16) : header_twos.f l = some (strN (l.flatMap fun x => ofN 2 x.toNat)) := by unfold header_twos.f; rw [if_pos ⟨hl, hx⟩]
theorem fours_eq (l : List Int) (hl : l.length ≤ 1000) (hx : ∀ x ∈ l, 0 ≤ x ∧ x < 2 ^ 32) : header_fours.f l = some (strN (l.flatMap fun x => ofN 4 x.toNat)) := by unfold header_fours.f; rw [if_pos ⟨hl, hx⟩]
theorem w64 (x : Int) (h : 0 ≤ x ∧ x ≤ 4294967295) : IntKind.u64.wrap x = x := u64_id h.1 (by omega)
theorem w16 (s : ByteArray) (h : s.size ≤ 3000) : IntKind.u16.wrap (s.size : Int) = (s.size : Int) := by rw [u16_mod]; omega
theorem w64s (s : ByteArray) (h : s.size ≤ 3000) : IntKind.u64.wrap (s.size : Int) = (s.size : Int) := u64_id (by omega) (by omega)
theorem long0 (l : List ByteArray) (k : Nat) (n : Int) (h : n = (l.length : Int)) : header_long.l0 (k + 1) l n n = some false := by unfold header_long.l0; rw [if_neg (by omega)]
theorem longS (l : List ByteArray) (n i : Nat) (hn : n = l.length) (hi : i < n) (hb : n ≤ 10) (k : Nat) (r : Bool) (h : header_long.l0 k l (n : Int) ((i + 1 : Nat) : Int) = some r) :
    header_long.l0 (k + 1) l (n : Int) (i : Int) = some (decide ((l.getD i ByteArray.empty).size > 65535) || r) := by
  have q1 : (i : Int) < (n : Int) := by omega
  have q2 : (0 : Int) ≤ (i : Int) := Int.natCast_nonneg _
  have q3 : (i : Int) < (l.length : Int) := by omega
  have hg : rdOf ByteArray.empty l (i : Int) = l.getD i ByteArray.empty := by unfold rdOf; simp
  unfold header_long.l0
  rw [if_pos q1, if_pos q2, if_pos q3, hg]
  by_cases hs : (l.getD i ByteArray.empty).size > 65535
  · rw [if_pos (by omega), decide_eq_true hs]; rfl
  · rw [if_neg (by omega), decide_eq_false hs, Bool.false_or]
    have hww : wrap64 ((i : Int) + 1) = ((i + 1 : Nat) : Int) := by rw [wrap_id (by omega) (by omega)]; simp
    rw [hww]; exact h
theorem long2 (a b : ByteArray) : header_long.f 200 [a, b] = some (decide (a.size > 65535) || (decide (b.size > 65535) || false)) :=
  longS [a, b] 2 0 rfl (by decide) (by decide) 199 _ (longS [a, b] 2 1 rfl (by decide) (by decide) 198 _ (long0 [a, b] 197 2 rfl))
theorem long3 (a b c : ByteArray) : header_long.f 200 [a, b, c] = some (decide (a.size > 65535) || (decide (b.size > 65535) || (decide (c.size > 65535) || false))) :=
  longS [a, b, c] 3 0 rfl (by decide) (by decide) 199 _ (longS [a, b, c] 3 1 rfl (by decide) (by decide) 198 _ (longS [a, b, c] 3 2 rfl (by decide) (by decide) 197 _ (long0 [a, b, c] 196 3 rfl)))
theorem local_eq (a0 a1 a2 a3 a4 a5 a6 : Int) (a b : ByteArray) (ha : a.size ≤ 3000) (hb : b.size ≤ 3000) (h0 : 0 ≤ a0 ∧ a0 ≤ 65535) (h1 : 0 ≤ a1 ∧ a1 ≤ 65535) (h2 : 0 ≤ a2 ∧ a2 ≤ 65535) (h3 : 0 ≤ a3 ∧ a3 ≤ 4294967295) (h4 : 0 ≤ a4 ∧ a4 ≤ 4294967295) (h5 : 0 ≤ a5 ∧ a5 ≤ 4294967295) (h6 : 0 ≤ a6 ∧ a6 ≤ 4294967295) :
    ∃ Q l, portmanteaulaw17_locals.f a0 a1 a2 a3 a4 a5 a6 a b = some l ∧ portmanteauref17_Print.f 200 l [4, 2, 2, 2, 4, 4, 4, 4, 2, 2] = some Q ∧ Q.size = 30 ∧ header_PrintLocal.f 200 a0 a1 a2 a3 a4 a5 a6 a b = some (Q ++ a ++ b, 0) := by
  have e1 := twos_eq [a0, a1, a2] (by simp) (by simp; omega)
  have e2 := fours_eq [a3, a4, a5, a6] (by simp) (by simp; omega)
  have e3 := twos_eq [IntKind.u16.wrap (a.size : Int), IntKind.u16.wrap (b.size : Int)] (by simp) (by rw [w16 a ha, w16 b hb]; simp; omega)
  have e4 := print_eq [67324752, a0, a1, a2, a3, a4, a5, a6, (a.size : Int), (b.size : Int)] [4, 2, 2, 2, 4, 4, 4, 4, 2, 2] rfl (by simp; omega) (by decide) (by decide)
  rw [w16 a ha, w16 b hb] at e3
  obtain ⟨Q, hQ⟩ : ∃ Q, strN (rowB [67324752, a0, a1, a2, a3, a4, a5, a6, (a.size : Int), (b.size : Int)] [4, 2, 2, 2, 4, 4, 4, 4, 2, 2]) = Q := ⟨_, rfl⟩
  obtain ⟨T1, hT1⟩ : ∃ T, strN ([a0, a1, a2].flatMap fun x => ofN 2 x.toNat) = T := ⟨_, rfl⟩
  obtain ⟨T2, hT2⟩ : ∃ T, strN ([a3, a4, a5, a6].flatMap fun x => ofN 4 x.toNat) = T := ⟨_, rfl⟩
  obtain ⟨T3, hT3⟩ : ∃ T, strN ([(a.size : Int), (b.size : Int)].flatMap fun x => ofN 2 x.toNat) = T := ⟨_, rfl⟩
  have s0 : Q.size = 30 := by rw [← hQ, strN_size]; simp [rowB, ofN_length]
  have s1 : T1.size = 6 := by rw [← hT1, strN_size]; simp [ofN_length]
  have s2 : T2.size = 16 := by rw [← hT2, strN_size]; simp [ofN_length]
  have s3 : T3.size = 4 := by rw [← hT3, strN_size]; simp [ofN_length]
  have hR : (((⟨#[80, 75, 3, 4]⟩ : ByteArray) ++ T1) ++ T2) ++ T3 = Q := by
    rw [show (⟨#[80, 75, 3, 4]⟩ : ByteArray) = strN (ofN 4 67324752) from by decide +kernel, ← hT1, ← hT2, ← hT3, ← hQ, strN_app, strN_app, strN_app]
    simp [rowB]
  rw [hT1] at e1; rw [hT2] at e2; rw [hT3] at e3; rw [hQ] at e4
  refine ⟨Q, _, rfl, ?_, s0, ?_⟩
  · rw [w64 a0 (by omega), w64 a1 (by omega), w64 a2 (by omega), w64 a3 h3, w64 a4 h4, w64 a5 h5, w64 a6 h6, w64s a ha, w64s b hb]; exact e4
  · unfold header_PrintLocal.f
    rw [long2, Option.bind_some, if_neg (by simp; omega), e1, Option.bind_some, if_pos (by omega), e2, Option.bind_some, if_pos (by omega), w16 a ha, w16 b hb, e3, Option.bind_some, if_pos (by omega), if_pos (by omega), if_pos (by omega), hR]
theorem central_eq (a0 a1 a2 a3 a4 a5 a6 a7 a8 a9 a10 a11 : Int) (a b c : ByteArray) (ha : a.size ≤ 3000) (hb : b.size ≤ 3000) (hc : c.size ≤ 3000) (h0 : 0 ≤ a0 ∧ a0 ≤ 65535) (h1 : 0 ≤ a1 ∧ a1 ≤ 65535) (h2 : 0 ≤ a2 ∧ a2 ≤ 65535) (h3 : 0 ≤ a3 ∧ a3 ≤ 65535) (h4 : 0 ≤ a4 ∧ a4 ≤ 4294967295) (h5 : 0 ≤ a5 ∧ a5 ≤ 4294967295) (h6 : 0 ≤ a6 ∧ a6 ≤ 4294967295) (h7 : 0 ≤ a7 ∧ a7 ≤ 4294967295) (h8 : 0 ≤ a8 ∧ a8 ≤ 65535) (h9 : 0 ≤ a9 ∧ a9 ≤ 65535) (h10 : 0 ≤ a10 ∧ a10 ≤ 4294967295) (h11 : 0 ≤ a11 ∧ a11 ≤ 4294967295) :
    ∃ Q l, portmanteaulaw17_centrals.f a0 a1 a2 a3 a4 a5 a6 a7 a8 a9 a10 a11 a b c = some l ∧ portmanteauref17_Print.f 200 l [4, 2, 2, 2, 2, 4, 4, 4, 4, 2, 2, 2, 2, 2, 4, 4] = some Q ∧ Q.size = 46 ∧ header_PrintCentral.f 200 a0 a1 a2 a3 a4 a5 a6 a7 a8 a9 a10 a11 a b c = some (Q ++ a ++ b ++ c, 0) := by
  have e1 := twos_eq [a0, a1, a2, a3] (by simp) (by simp; omega)
  have e2 := fours_eq [a4, a5, a6, a7] (by simp) (by simp; omega)
  have e3 := twos_eq [IntKind.u16.wrap (a.size : Int), IntKind.u16.wrap (b.size : Int), IntKind.u16.wrap (c.size : Int), a8, a9] (by simp) (by rw [w16 a ha, w16 b hb, w16 c hc]; simp; omega)
  have e5 := fours_eq [a10, a11] (by simp) (by simp; omega)
  have e4 := print_eq [33639248, a0, a1, a2, a3, a4, a5, a6, a7, (a.size : Int), (b.size : Int), (c.size : Int), a8, a9, a10, a11] [4, 2, 2, 2, 2, 4, 4, 4, 4, 2, 2, 2, 2, 2, 4, 4] rfl (by simp; omega) (by decide) (by decide)
  rw [w16 a ha, w16 b hb, w16 c hc] at e3
  obtain ⟨Q, hQ⟩ : ∃ Q, strN (rowB [33639248, a0, a1, a2, a3, a4, a5, a6, a7, (a.size : Int), (b.size : Int), (c.size : Int), a8, a9, a10, a11] [4, 2, 2, 2, 2, 4, 4, 4, 4, 2, 2, 2, 2, 2, 4, 4]) = Q := ⟨_, rfl⟩
  obtain ⟨T1, hT1⟩ : ∃ T, strN ([a0, a1, a2, a3].flatMap fun x => ofN 2 x.toNat) = T := ⟨_, rfl⟩
  obtain ⟨T2, hT2⟩ : ∃ T, strN ([a4, a5, a6, a7].flatMap fun x => ofN 4 x.toNat) = T := ⟨_, rfl⟩
  obtain ⟨T3, hT3⟩ : ∃ T, strN ([(a.size : Int), (b.size : Int), (c.size : Int), a8, a9].flatMap fun x => ofN 2 x.toNat) = T := ⟨_, rfl⟩
  obtain ⟨T4, hT4⟩ : ∃ T, strN ([a10, a11].flatMap fun x => ofN 4 x.toNat) = T := ⟨_, rfl⟩
  have s0 : Q.size = 46 := by rw [← hQ, strN_size]; simp [rowB, ofN_length]
  have s1 : T1.size = 8 := by rw [← hT1, strN_size]; simp [ofN_length]
  have s2 : T2.size = 16 := by rw [← hT2, strN_size]; simp [ofN_length]
  have s3 : T3.size = 10 := by rw [← hT3, strN_size]; simp [ofN_length]
  have s4 : T4.size = 8 := by rw [← hT4, strN_size]; simp [ofN_length]
  have hR : ((((⟨#[80, 75, 1, 2]⟩ : ByteArray) ++ T1) ++ T2) ++ T3) ++ T4 = Q := by
    rw [show (⟨#[80, 75, 1, 2]⟩ : ByteArray) = strN (ofN 4 33639248) from by decide +kernel, ← hT1, ← hT2, ← hT3, ← hT4, ← hQ, strN_app, strN_app, strN_app, strN_app]
    simp [rowB]
  rw [hT1] at e1; rw [hT2] at e2; rw [hT3] at e3; rw [hT4] at e5; rw [hQ] at e4
  refine ⟨Q, _, rfl, ?_, s0, ?_⟩
  · rw [w64 a0 (by omega), w64 a1 (by omega), w64 a2 (by omega), w64 a3 (by omega), w64 a4 (by omega), w64 a5 (by omega), w64 a6 (by omega), w64 a7 (by omega), w64 a8 (by omega), w64 a9 (by omega), w64 a10 (by omega), w64 a11 (by omega), w64s a ha, w64s b hb, w64s c hc]; exact e4
  · unfold header_PrintCentral.f
    rw [long3, Option.bind_some, if_neg (by simp; omega), e1, Option.bind_some, if_pos (by omega), e2, Option.bind_some, if_pos (by omega), w16 a ha, w16 b hb, w16 c hc, e3, Option.bind_some, if_pos (by omega), e5, Option.bind_some, if_pos (by omega), if_pos (by omega), if_pos (by omega), if_pos (by omega), hR]
theorem desc_eq (a0 : Int) (n z : Nat) (h0 : 0 ≤ a0 ∧ a0 ≤ 4294967295) (hn : n < 18446744073709551616) (hz : z < 18446744073709551616) (wide : Bool) :
    ∃ D l ws, portmanteaulaw17_descriptors.f a0 (n : Int) (z : Int) = some l ∧ portmanteauref17_Descriptors.f wide = some ws ∧ portmanteauref17_Print.f 200 l ws = some D ∧ header_PrintDescriptor.f 200 a0 (n : Int) (z : Int) wide = some D ∧ D.size = (if wide = true then 24 else 16) := by
  obtain ⟨x, rfl⟩ : ∃ x : Nat, a0 = (x : Int) := ⟨a0.toNat, by omega⟩
  have hm : (⟨#[80, 75, 7, 8]⟩ : ByteArray) = strN (ofN 4 134695760) := by decide +kernel
  cases wide with
  | true =>
    have e := print_eq [134695760, (x : Int), (n : Int), (z : Int)] [4, 4, 8, 8] rfl (by simp; omega) (by decide) (by decide)
    have l1 : (strN (ofN 4 x)).size = 4 := ofN_length 4 x
    have l2 : (strN (ofN 8 n)).size = 8 := ofN_length 8 n
    have l3 : (strN (ofN 8 z)).size = 8 := ofN_length 8 z
    obtain ⟨D, hD⟩ : ∃ D, strN (rowB [134695760, (x : Int), (n : Int), (z : Int)] [4, 4, 8, 8]) = D := ⟨_, rfl⟩
    have hR : (((⟨#[80, 75, 7, 8]⟩ : ByteArray) ++ strN (ofN 4 x)) ++ strN (ofN 8 n)) ++ strN (ofN 8 z) = D := by
      rw [hm, strN_app, strN_app, strN_app, ← hD]
      simp [rowB]
    have s0 : D.size = 24 := by rw [← hD, strN_size]; simp [rowB, ofN_length]
    rw [hD] at e
    refine ⟨D, _, _, rfl, rfl, by rw [w64 _ h0]; exact e, ?_, s0⟩
    unfold header_PrintDescriptor.f
    rw [if_pos rfl, four_eq x (by omega) 200 (by omega), Option.bind_some, if_pos (by omega), eight_eq n hn 200 (by omega), Option.bind_some, if_pos (by omega), eight_eq z hz 200 (by omega), Option.bind_some, if_pos (by omega), hR]
  | false =>
    have e := print_eq [134695760, (x : Int), (n : Int), (z : Int)] [4, 4, 4, 4] rfl (by simp; omega) (by decide) (by decide)
    have e1 := fours_eq [(x : Int), (n : Int) % 4294967296, (z : Int) % 4294967296] (by simp) (by simp; omega)
    obtain ⟨D, hD⟩ : ∃ D, strN (rowB [134695760, (x : Int), (n : Int), (z : Int)] [4, 4, 4, 4]) = D := ⟨_, rfl⟩
    obtain ⟨T, hT⟩ : ∃ T, strN ([(x : Int), (n : Int) % 4294967296, (z : Int) % 4294967296].flatMap fun x => ofN 4 x.toNat) = T := ⟨_, rfl⟩
    have m1 : ofN 4 ((n : Int) % 4294967296).toNat = ofN 4 n := by rw [show ((n : Int) % 4294967296).toNat = n % 256 ^ 4 by omega]; exact ofN_mod 4 n
    have m2 : ofN 4 ((z : Int) % 4294967296).toNat = ofN 4 z := by rw [show ((z : Int) % 4294967296).toNat = z % 256 ^ 4 by omega]; exact ofN_mod 4 z
    have hR : (⟨#[80, 75, 7, 8]⟩ : ByteArray) ++ T = D := by
      rw [hm, ← hT, strN_app, ← hD]
      simp only [List.flatMap_cons, List.flatMap_nil, m1, m2]
      simp [rowB]
    have s0 : D.size = 16 := by rw [← hD, strN_size]; simp [rowB, ofN_length]
    have s1 : T.size = 12 := by rw [← hT, strN_size]; simp [ofN_length]
    rw [hD] at e
    rw [hT] at e1
    refine ⟨D, _, _, rfl, rfl, by rw [w64 _ h0]; exact e, ?_, s0⟩
    unfold header_PrintDescriptor.f
    rw [if_neg (by decide), e1, Option.bind_some, if_pos (by omega), hR]
theorem awake_true : portmanteaulaw17_awake.f 200 = some true := by
  obtain ⟨Q, l, _, _, hq, h1⟩ := local_eq 0 0 0 0 0 0 0 ⟨#[]⟩ ⟨#[]⟩ (by decide) (by decide) (by decide) (by decide) (by decide) (by decide) (by decide) (by decide) (by decide)
  obtain ⟨R, l2, _, _, hr, h2⟩ := central_eq 0 0 0 0 0 0 0 0 0 0 0 0 ⟨#[]⟩ ⟨#[]⟩ ⟨#[]⟩ (by decide) (by decide) (by decide) (by decide) (by decide) (by decide) (by decide) (by decide) (by decide) (by decide) (by decide) (by decide) (by decide) (by decide) (by decide)
  obtain ⟨D, _, _, _, _, _, h3, hd⟩ := desc_eq 0 0 0 (by decide) (by decide) (by decide) false
  obtain ⟨E, _, _, _, _, _, h4, he⟩ := desc_eq 0 0 0 (by decide) (by decide) (by decide) true
  have hz : (⟨#[]⟩ : ByteArray).size = 0 := rfl
  have hd' : D.size = 16 := hd
  have he' : E.size = 24 := he
  unfold portmanteaulaw17_awake.f
  rw [h1, Option.bind_some, h2, Option.bind_some]
  dsimp only
  rw [if_pos rfl, if_pos rfl, if_pos (by rw [ByteArray.size_append, ByteArray.size_append]; omega), if_pos (by rw [ByteArray.size_append, ByteArray.size_append, ByteArray.size_append]; omega)]
  rw [show header_PrintDescriptor.f 200 0 0 0 false = some D from h3, Option.bind_some, if_pos (by omega), show header_PrintDescriptor.f 200 0 0 0 true = some E from h4, Option.bind_some]
  simp [he']
end Go.Proofs.Ytnjfddmajiihjaa.D17
namespace Go.Proofs.Ytnjfddmajiihjaa.Hp
set_option linter.unusedVariables false
set_option linter.unusedSimpArgs false
open Go Go.RowKit Go.Proofs.Ytnjfddmajiihjaa.P Go.Proofs.Ytnjfddmajiihjaa.B Go.Proofs.Ytnjfddmajiihjaa.Num Go.Proofs.Ytnjfddmajiihjaa.Cur Go.Proofs.YtnjfddmajiihjaaW.PrintWords Go.Proofs.YtnjfddmajiihjaaW.PrintLast Go.Proofs.YtnjfddmajiihjaaW.PrintMore
def flat : List Nat → List Int → List UInt8
  | w :: ws, v :: vs => ofN w v.toNat ++ flat ws vs
  | _, _ => []
def Fit : List Nat → List Int → Prop
  | w :: ws, v :: vs => 0 ≤ v ∧ v < ((256 ^ w : Nat) : Int) ∧ Fit ws vs
  | [], [] => True
  | _, _ => False
theorem pw2 : ((256 ^ 2 : Nat) : Int) = 65536 := by decide
theorem pw4 : ((256 ^ 4 : Nat) : Int) = 4294967296 := by decide
theorem pw8 : ((256 ^ 8 : Nat) : Int) = 18446744073709551616 := by decide
theorem fit2 {v : Int} {ws : List Nat} {vs : List Int} (h : 0 ≤ v ∧ v ≤ 65535) (k : Fit ws vs) : Fit (2 :: ws) (v :: vs) := ⟨h.1, by rw [pw2]; omega, k⟩
theorem fit4 {v : Int} {ws : List Nat} {vs : List Int} (h : 0 ≤ v ∧ v ≤ 4294967295) (k : Fit ws vs) : Fit (4 :: ws) (v :: vs) := ⟨h.1, by rw [pw4]; omega, k⟩
theorem fit8 {v : Int} {ws : List Nat} {vs : List Int} (h : 0 ≤ v ∧ v ≤ 18446744073709551615) (k : Fit ws vs) : Fit (8 :: ws) (v :: vs) := ⟨h.1, by rw [pw8]; omega, k⟩
theorem fit0 : Fit [] [] := trivial
theorem flat_len : ∀ (ws : List Nat) (vs : List Int), Fit ws vs → (flat ws vs).length = ws.sum
  | [], [], _ => rfl
  | w :: ws, v :: vs, h => by rw [flat, List.length_append, ofN_length, flat_len ws vs h.2.2, List.sum_cons]
  | [], _ :: _, h => h.elim
  | _ :: _, [], h => h.elim
theorem nums_flat : ∀ (ws : List Nat) (vs : List Int) (R : List UInt8), Fit ws vs → numsL ws (flat ws vs ++ R) = vs
  | [], [], R, _ => rfl
  | w :: ws, v :: vs, R, h => by
    have hl : (ofN w v.toNat).length = w := ofN_length _ _
    rw [flat, List.append_assoc, numsL, List.take_append_of_le_length (by omega), List.take_of_length_le (by omega), List.drop_append_of_le_length (by omega), List.drop_of_length_le (by omega), List.nil_append, nums_flat ws vs R h.2.2, leN_ofN]
    have h0 := h.1
    have h1 := h.2.1
    rw [Nat.mod_eq_of_lt (by omega)]
    congr 1
    omega
  | [], _ :: _, R, h => h.elim
  | _ :: _, [], R, h => h.elim
theorem ofN_leN : ∀ (l : List UInt8), ofN l.length (leN l) = l
  | [] => rfl
  | x :: l => by
    have hx := x.toNat_lt
    rw [List.length_cons, ofN, leN, show (x.toNat + 256 * leN l) % 256 = x.toNat by omega, show (x.toNat + 256 * leN l) / 256 = leN l by omega, ofN_leN l]
    simp
theorem unrow : ∀ (ws : List Nat) (R : List UInt8), ws.sum ≤ R.length → R = flat ws (numsL ws R) ++ R.drop ws.sum
  | [], R, _ => by simp [flat]
  | w :: ws, R, h => by
    rw [List.sum_cons] at h
    have ih := unrow ws (R.drop w) (by rw [List.length_drop]; omega)
    have hl : (R.take w).length = w := by rw [List.length_take]; omega
    have e := ofN_leN (R.take w)
    rw [hl] at e
    rw [numsL, flat, Int.toNat_natCast, e, List.append_assoc, List.sum_cons]
    rw [List.drop_drop] at ih
    rw [← ih, List.take_append_drop]
def cat (xs : List ByteArray) : List UInt8 := xs.flatMap fun x => x.data.toList
theorem texts_cat : ∀ (xs : List ByteArray) (R : List UInt8), textsL (xs.map fun x => x.size) (cat xs ++ R) = xs
  | [], R => rfl
  | x :: xs, R => by
    have hl : x.data.toList.length = x.size := toList_length x
    rw [List.map_cons, textsL, show cat (x :: xs) ++ R = x.data.toList ++ (cat xs ++ R) by simp [cat], List.take_append_of_le_length (by omega), List.take_of_length_le (by omega), List.drop_append_of_le_length (by omega), List.drop_of_length_le (by omega), List.nil_append, texts_cat xs R]
    congr 1
theorem untexts : ∀ (ns : List Nat) (R : List UInt8), ns.sum ≤ R.length → R = cat (textsL ns R) ++ R.drop ns.sum
  | [], R, _ => by simp [cat, textsL]
  | n :: ns, R, h => by
    rw [List.sum_cons] at h
    have ih := untexts ns (R.drop n) (by rw [List.length_drop]; omega)
    rw [List.drop_drop] at ih
    rw [textsL, show cat (strN (R.take n) :: textsL ns (R.drop n)) = R.take n ++ cat (textsL ns (R.drop n)) by simp [cat, strN], List.append_assoc, List.sum_cons, ← ih, List.take_append_drop]
theorem take_list (s : ByteArray) (n : Nat) : (s.extract 0 n).data.toList = s.data.toList.take n := by rw [extract_list]; simp
theorem local_fit (a0 a1 a2 a3 a4 a5 a6 : Int) (a7 a8 : ByteArray) (h_a0 : 0 ≤ a0 ∧ a0 ≤ 65535) (h_a1 : 0 ≤ a1 ∧ a1 ≤ 65535) (h_a2 : 0 ≤ a2 ∧ a2 ≤ 65535) (h_a3 : 0 ≤ a3 ∧ a3 ≤ 4294967295) (h_a4 : 0 ≤ a4 ∧ a4 ≤ 4294967295) (h_a5 : 0 ≤ a5 ∧ a5 ≤ 4294967295) (h_a6 : 0 ≤ a6 ∧ a6 ≤ 4294967295) (z_a7 : a7.size ≤ 3000) (z_a8 : a8.size ≤ 3000) : Fit [2, 2, 2, 4, 4, 4, 4, 2, 2] [a0, a1, a2, a3, a4, a5, a6, (a7.size : Int), (a8.size : Int)] := (fit2 h_a0 (fit2 h_a1 (fit2 h_a2 (fit4 h_a3 (fit4 h_a4 (fit4 h_a5 (fit4 h_a6 (fit2 ⟨by omega, by omega⟩ (fit2 ⟨by omega, by omega⟩ fit0)))))))))
theorem local_print (a0 a1 a2 a3 a4 a5 a6 : Int) (a7 a8 : ByteArray) (h_a0 : 0 ≤ a0 ∧ a0 ≤ 65535) (h_a1 : 0 ≤ a1 ∧ a1 ≤ 65535) (h_a2 : 0 ≤ a2 ∧ a2 ≤ 65535) (h_a3 : 0 ≤ a3 ∧ a3 ≤ 4294967295) (h_a4 : 0 ≤ a4 ∧ a4 ≤ 4294967295) (h_a5 : 0 ≤ a5 ∧ a5 ≤ 4294967295) (h_a6 : 0 ≤ a6 ∧ a6 ≤ 4294967295) (z_a7 : a7.size ≤ 3000) (z_a8 : a8.size ≤ 3000) : ∃ x : ByteArray, header_PrintLocal.f 200 a0 a1 a2 a3 a4 a5 a6 a7 a8 = some (x, 0) ∧ x.data.toList = [80, 75, 3, 4] ++ (flat [2, 2, 2, 4, 4, 4, 4, 2, 2] [a0, a1, a2, a3, a4, a5, a6, (a7.size : Int), (a8.size : Int)] ++ cat [a7, a8]) := by
  obtain ⟨Q, l, h1, h2, h3, h4⟩ := D17.local_eq a0 a1 a2 a3 a4 a5 a6 a7 a8 z_a7 z_a8 h_a0 h_a1 h_a2 h_a3 h_a4 h_a5 h_a6
  have hl : l = [67324752, a0, a1, a2, a3, a4, a5, a6, (a7.size : Int), (a8.size : Int)] := by
    rw [← Option.some.inj h1]
    rw [D17.w64 a0 (by omega), D17.w64 a1 (by omega), D17.w64 a2 (by omega), D17.w64 a3 h_a3, D17.w64 a4 h_a4, D17.w64 a5 h_a5, D17.w64 a6 h_a6, D17.w64s a7 z_a7, D17.w64s a8 z_a8]
  have hp := D17.print_eq [67324752, a0, a1, a2, a3, a4, a5, a6, (a7.size : Int), (a8.size : Int)] [4, 2, 2, 2, 4, 4, 4, 4, 2, 2] rfl (by simp; omega) (by decide) (by decide)
  rw [hl, hp] at h2
  have hQ := Option.some.inj h2
  refine ⟨_, h4, ?_⟩
  rw [← hQ]
  simp only [ByteArray.data_append, Array.toList_append, strN_data]
  simp [D17.rowB, flat, cat, show ofN 4 67324752 = [80, 75, 3, 4] by decide]
theorem local_again (a0 a1 a2 a3 a4 a5 a6 : Int) (a7 a8 : ByteArray) (h_a0 : 0 ≤ a0 ∧ a0 ≤ 65535) (h_a1 : 0 ≤ a1 ∧ a1 ≤ 65535) (h_a2 : 0 ≤ a2 ∧ a2 ≤ 65535) (h_a3 : 0 ≤ a3 ∧ a3 ≤ 4294967295) (h_a4 : 0 ≤ a4 ∧ a4 ≤ 4294967295) (h_a5 : 0 ≤ a5 ∧ a5 ≤ 4294967295) (h_a6 : 0 ≤ a6 ∧ a6 ≤ 4294967295) (z_a7 : a7.size ≤ 3000) (z_a8 : a8.size ≤ 3000) (s : ByteArray) (hs : s.size ≤ 100000) (R : List UInt8) (h : s.data.toList = [80, 75, 3, 4] ++ (flat [2, 2, 2, 4, 4, 4, 4, 2, 2] [a0, a1, a2, a3, a4, a5, a6, (a7.size : Int), (a8.size : Int)] ++ (cat [a7, a8] ++ R))) : header_ParseLocal.f s = some (a0, a1, a2, a3, a4, a5, a6, a7, a8, ((30 + (a7.size + a8.size) : Nat) : Int), 0) := by
  have hfit := local_fit a0 a1 a2 a3 a4 a5 a6 a7 a8 h_a0 h_a1 h_a2 h_a3 h_a4 h_a5 h_a6 z_a7 z_a8
  have hfl := flat_len _ _ hfit
  rw [show ([2, 2, 2, 4, 4, 4, 4, 2, 2] : List Nat).sum = 26 from by decide] at hfl
  have hm : s.data.toList.take 4 = [80, 75, 3, 4] := by rw [h]; rfl
  have hd : s.data.toList.drop 4 = flat [2, 2, 2, 4, 4, 4, 4, 2, 2] [a0, a1, a2, a3, a4, a5, a6, (a7.size : Int), (a8.size : Int)] ++ (cat [a7, a8] ++ R) := by rw [h]; rfl
  have hl := congrArg List.length h
  rw [toList_length, List.length_append, List.length_append, hfl] at hl
  simp only [List.length_cons, List.length_nil] at hl
  rw [List.length_append, show (cat [a7, a8]).length = a7.size + a8.size by simp [cat]] at hl
  have hn : numsL [2, 2, 2, 4, 4, 4, 4, 2, 2] (s.data.toList.drop 4) = [a0, a1, a2, a3, a4, a5, a6, (a7.size : Int), (a8.size : Int)] := by rw [hd]; exact nums_flat _ _ _ hfit
  have hx : textsL [a7.size, a8.size] (s.data.toList.drop 30) = [a7, a8] := by
    rw [show s.data.toList.drop 30 = cat [a7, a8] ++ R by rw [show 30 = 4 + 26 from rfl, ← List.drop_drop, hd, List.drop_append_of_le_length (by omega), List.drop_of_length_le (by omega), List.nil_append]]
    exact texts_cat [a7, a8] R
  exact local_good s hs hm (by omega) a0 a1 a2 a3 a4 a5 a6 ((a7.size : Int)) ((a8.size : Int)) hn a7.size rfl a8.size rfl a7 a8 hx (by omega)
theorem local_size (a0 a1 a2 a3 a4 a5 a6 : Int) (a7 a8 : ByteArray) (h_a0 : 0 ≤ a0 ∧ a0 ≤ 65535) (h_a1 : 0 ≤ a1 ∧ a1 ≤ 65535) (h_a2 : 0 ≤ a2 ∧ a2 ≤ 65535) (h_a3 : 0 ≤ a3 ∧ a3 ≤ 4294967295) (h_a4 : 0 ≤ a4 ∧ a4 ≤ 4294967295) (h_a5 : 0 ≤ a5 ∧ a5 ≤ 4294967295) (h_a6 : 0 ≤ a6 ∧ a6 ≤ 4294967295) (z_a7 : a7.size ≤ 3000) (z_a8 : a8.size ≤ 3000) (x : ByteArray) (hx : x.data.toList = [80, 75, 3, 4] ++ (flat [2, 2, 2, 4, 4, 4, 4, 2, 2] [a0, a1, a2, a3, a4, a5, a6, (a7.size : Int), (a8.size : Int)] ++ cat [a7, a8])) : x.size = 30 + (a7.size + a8.size) := by
  have hfl := flat_len _ _ (local_fit a0 a1 a2 a3 a4 a5 a6 a7 a8 h_a0 h_a1 h_a2 h_a3 h_a4 h_a5 h_a6 z_a7 z_a8)
  rw [show ([2, 2, 2, 4, 4, 4, 4, 2, 2] : List Nat).sum = 26 from by decide] at hfl
  have hl := congrArg List.length hx
  rw [toList_length, List.length_append, List.length_append, hfl] at hl
  simp only [List.length_cons, List.length_nil] at hl
  rw [show (cat [a7, a8]).length = a7.size + a8.size by simp [cat]] at hl
  omega
theorem local_cut (a0 a1 a2 a3 a4 a5 a6 : Int) (a7 a8 : ByteArray) (h_a0 : 0 ≤ a0 ∧ a0 ≤ 65535) (h_a1 : 0 ≤ a1 ∧ a1 ≤ 65535) (h_a2 : 0 ≤ a2 ∧ a2 ≤ 65535) (h_a3 : 0 ≤ a3 ∧ a3 ≤ 4294967295) (h_a4 : 0 ≤ a4 ∧ a4 ≤ 4294967295) (h_a5 : 0 ≤ a5 ∧ a5 ≤ 4294967295) (h_a6 : 0 ≤ a6 ∧ a6 ≤ 4294967295) (z_a7 : a7.size ≤ 3000) (z_a8 : a8.size ≤ 3000) (x s : ByteArray) (hx : x.data.toList = [80, 75, 3, 4] ++ (flat [2, 2, 2, 4, 4, 4, 4, 2, 2] [a0, a1, a2, a3, a4, a5, a6, (a7.size : Int), (a8.size : Int)] ++ cat [a7, a8])) (c : Nat) (hc : c < x.size) (h : s.data.toList = x.data.toList.take c) : header_ParseLocal.f s = some (0, 0, 0, 0, 0, 0, 0, (⟨#[]⟩ : ByteArray), (⟨#[]⟩ : ByteArray), 0, 3) := by
  have hfit := local_fit a0 a1 a2 a3 a4 a5 a6 a7 a8 h_a0 h_a1 h_a2 h_a3 h_a4 h_a5 h_a6 z_a7 z_a8
  have hfl := flat_len _ _ hfit
  rw [show ([2, 2, 2, 4, 4, 4, 4, 2, 2] : List Nat).sum = 26 from by decide] at hfl
  have hl := congrArg List.length hx
  rw [toList_length, List.length_append, List.length_append, hfl, show (cat [a7, a8]).length = a7.size + a8.size by simp [cat]] at hl
  simp only [List.length_cons, List.length_nil] at hl
  have hsz : s.size = c := by have := congrArg List.length h; rw [toList_length, List.length_take, toList_length] at this; omega
  have hs : s.size ≤ 100000 := by omega
  by_cases h4 : c < 4
  · exact local_short s hs (by omega)
  have hm : s.data.toList.take 4 = [80, 75, 3, 4] := by rw [h, List.take_take, Nat.min_eq_left (by omega), hx]; rfl
  by_cases h30 : c < 30
  · exact local_fix s hs (by omega) hm (by omega)
  have hd : s.data.toList.drop 4 = flat [2, 2, 2, 4, 4, 4, 4, 2, 2] [a0, a1, a2, a3, a4, a5, a6, (a7.size : Int), (a8.size : Int)] ++ (cat [a7, a8]).take (c - 30) := by
    rw [h, hx, List.drop_take, show List.drop 4 ([80, 75, 3, 4] ++ (flat [2, 2, 2, 4, 4, 4, 4, 2, 2] [a0, a1, a2, a3, a4, a5, a6, (a7.size : Int), (a8.size : Int)] ++ cat [a7, a8]) : List UInt8) = flat [2, 2, 2, 4, 4, 4, 4, 2, 2] [a0, a1, a2, a3, a4, a5, a6, (a7.size : Int), (a8.size : Int)] ++ cat [a7, a8] from rfl, List.take_append, List.take_of_length_le (l := flat [2, 2, 2, 4, 4, 4, 4, 2, 2] [a0, a1, a2, a3, a4, a5, a6, (a7.size : Int), (a8.size : Int)]) (i := c - 4) (by rw [hfl]; omega), hfl, show c - 4 - 26 = c - 30 by omega]
  have hn : numsL [2, 2, 2, 4, 4, 4, 4, 2, 2] (s.data.toList.drop 4) = [a0, a1, a2, a3, a4, a5, a6, (a7.size : Int), (a8.size : Int)] := by rw [hd]; exact nums_flat _ _ _ hfit
  exact local_txt s hs hm (by omega) a0 a1 a2 a3 a4 a5 a6 (a7.size : Int) (a8.size : Int) hn a7.size rfl a8.size rfl (by omega)
theorem local_reprint (s : ByteArray) (hs : s.size ≤ 3000) : (∃ e : Int, e ≠ 0 ∧ header_ParseLocal.f s = some (0, 0, 0, 0, 0, 0, 0, (⟨#[]⟩ : ByteArray), (⟨#[]⟩ : ByteArray), 0, e)) ∨ ∃ (v1 v2 v3 v4 v5 v6 v7 : Int) (x1 x2 : ByteArray) (n : Nat), s.data.toList.take 4 = [80, 75, 3, 4] ∧ header_ParseLocal.f s = some (v1, v2, v3, v4, v5, v6, v7, x1, x2, (n : Int), 0) ∧ n ≤ s.size ∧ header_PrintLocal.f 200 v1 v2 v3 v4 v5 v6 v7 x1 x2 = some (s.extract 0 n, 0) := by
  by_cases h4 : s.size < 4
  · exact .inl ⟨3, by decide, local_short s (by omega) h4⟩
  by_cases hm : s.data.toList.take 4 = [80, 75, 3, 4]
  case neg => exact .inl ⟨4, by decide, local_no4 s (by omega) (by omega) hm⟩
  by_cases hf : s.size < 4 + 26
  · exact .inl ⟨3, by decide, local_fix s (by omega) (by omega) hm hf⟩
  obtain ⟨v1, v2, v3, v4, v5, v6, v7, v8, v9, hn, b1, b2, b3, b4, b5, b6, b7, b8, b9⟩ := local_nums (s.data.toList.drop 4)
  by_cases hk : s.size < 30 + (v8.toNat + v9.toNat)
  · exact .inl ⟨3, by decide, local_txt s (by omega) hm (by omega) v1 v2 v3 v4 v5 v6 v7 v8 v9 hn v8.toNat (by omega) v9.toNat (by omega) hk⟩
  obtain ⟨x1, x2, hx, z1, z2⟩ : ∃ x1 x2 : ByteArray, textsL [v8.toNat, v9.toNat] (s.data.toList.drop 30) = [x1, x2] ∧ x1.size = v8.toNat ∧ x2.size = v9.toNat := by
    refine ⟨_, _, rfl, ?_, ?_⟩
    all_goals (rw [strN_size]; simp only [List.length_take, List.length_drop, toList_length]; omega)
  have hgd := local_good s (by omega) hm (by omega) v1 v2 v3 v4 v5 v6 v7 v8 v9 hn v8.toNat (by omega) v9.toNat (by omega) x1 x2 hx (by omega)
  obtain ⟨y, hy, hyl⟩ := local_print v1 v2 v3 v4 v5 v6 v7 x1 x2 (by omega) (by omega) (by omega) (by omega) (by omega) (by omega) (by omega) (by omega) (by omega)
  refine .inr ⟨v1, v2, v3, v4, v5, v6, v7, x1, x2, _, hm, hgd, by omega, ?_⟩
  rw [hy]
  congr 2
  apply ext_list
  rw [take_list, hyl]
  have e1 := unrow [2, 2, 2, 4, 4, 4, 4, 2, 2] (s.data.toList.drop 4) (by rw [List.length_drop, toList_length]; simp; omega)
  rw [hn, List.drop_drop] at e1
  have e2 := untexts [v8.toNat, v9.toNat] (s.data.toList.drop 30) (by rw [List.length_drop, toList_length]; simp; omega)
  rw [hx] at e2
  have e3 : ([v1, v2, v3, v4, v5, v6, v7, (x1.size : Int), (x2.size : Int)] : List Int) = [v1, v2, v3, v4, v5, v6, v7, v8, v9] := by
    rw [show (x1.size : Int) = v8 by omega, show (x2.size : Int) = v9 by omega]
  rw [e3]
  have hs4 : s.data.toList = s.data.toList.take 4 ++ s.data.toList.drop 4 := (List.take_append_drop 4 _).symm
  rw [hm, e1, show 4 + ([2, 2, 2, 4, 4, 4, 4, 2, 2] : List Nat).sum = 30 from by decide, e2] at hs4
  rw [hs4]
  have hfl := flat_len [2, 2, 2, 4, 4, 4, 4, 2, 2] [v1, v2, v3, v4, v5, v6, v7, v8, v9] (fit2 ⟨by omega, by omega⟩ (fit2 ⟨by omega, by omega⟩ (fit2 ⟨by omega, by omega⟩ (fit4 ⟨by omega, by omega⟩ (fit4 ⟨by omega, by omega⟩ (fit4 ⟨by omega, by omega⟩ (fit4 ⟨by omega, by omega⟩ (fit2 ⟨by omega, by omega⟩ (fit2 ⟨by omega, by omega⟩ fit0)))))))))
  rw [show ([2, 2, 2, 4, 4, 4, 4, 2, 2] : List Nat).sum = 26 from by decide] at hfl
  have hcl : (cat [x1, x2]).length = v8.toNat + v9.toNat := by simp [cat, z1, z2]
  simp only [← List.append_assoc]
  rw [List.take_append_of_le_length (by simp only [List.length_append, List.length_cons, List.length_nil, hfl, hcl]; omega), List.take_of_length_le (by simp only [List.length_append, List.length_cons, List.length_nil, hfl, hcl]; omega)]
theorem central_fit (b0 b1 b2 b3 b4 b5 b6 b7 b8 b9 b10 b11 : Int) (b12 b13 b14 : ByteArray) (h_b0 : 0 ≤ b0 ∧ b0 ≤ 65535) (h_b1 : 0 ≤ b1 ∧ b1 ≤ 65535) (h_b2 : 0 ≤ b2 ∧ b2 ≤ 65535) (h_b3 : 0 ≤ b3 ∧ b3 ≤ 65535) (h_b4 : 0 ≤ b4 ∧ b4 ≤ 4294967295) (h_b5 : 0 ≤ b5 ∧ b5 ≤ 4294967295) (h_b6 : 0 ≤ b6 ∧ b6 ≤ 4294967295) (h_b7 : 0 ≤ b7 ∧ b7 ≤ 4294967295) (h_b8 : 0 ≤ b8 ∧ b8 ≤ 65535) (h_b9 : 0 ≤ b9 ∧ b9 ≤ 65535) (h_b10 : 0 ≤ b10 ∧ b10 ≤ 4294967295) (h_b11 : 0 ≤ b11 ∧ b11 ≤ 4294967295) (z_b12 : b12.size ≤ 3000) (z_b13 : b13.size ≤ 3000) (z_b14 : b14.size ≤ 3000) : Fit [2, 2, 2, 2, 4, 4, 4, 4, 2, 2, 2, 2, 2, 4, 4] [b0, b1, b2, b3, b4, b5, b6, b7, (b12.size : Int), (b13.size : Int), (b14.size : Int), b8, b9, b10, b11] := (fit2 h_b0 (fit2 h_b1 (fit2 h_b2 (fit2 h_b3 (fit4 h_b4 (fit4 h_b5 (fit4 h_b6 (fit4 h_b7 (fit2 ⟨by omega, by omega⟩ (fit2 ⟨by omega, by omega⟩ (fit2 ⟨by omega, by omega⟩ (fit2 h_b8 (fit2 h_b9 (fit4 h_b10 (fit4 h_b11 fit0)))))))))))))))
theorem central_print (b0 b1 b2 b3 b4 b5 b6 b7 b8 b9 b10 b11 : Int) (b12 b13 b14 : ByteArray) (h_b0 : 0 ≤ b0 ∧ b0 ≤ 65535) (h_b1 : 0 ≤ b1 ∧ b1 ≤ 65535) (h_b2 : 0 ≤ b2 ∧ b2 ≤ 65535) (h_b3 : 0 ≤ b3 ∧ b3 ≤ 65535) (h_b4 : 0 ≤ b4 ∧ b4 ≤ 4294967295) (h_b5 : 0 ≤ b5 ∧ b5 ≤ 4294967295) (h_b6 : 0 ≤ b6 ∧ b6 ≤ 4294967295) (h_b7 : 0 ≤ b7 ∧ b7 ≤ 4294967295) (h_b8 : 0 ≤ b8 ∧ b8 ≤ 65535) (h_b9 : 0 ≤ b9 ∧ b9 ≤ 65535) (h_b10 : 0 ≤ b10 ∧ b10 ≤ 4294967295) (h_b11 : 0 ≤ b11 ∧ b11 ≤ 4294967295) (z_b12 : b12.size ≤ 3000) (z_b13 : b13.size ≤ 3000) (z_b14 : b14.size ≤ 3000) : ∃ x : ByteArray, header_PrintCentral.f 200 b0 b1 b2 b3 b4 b5 b6 b7 b8 b9 b10 b11 b12 b13 b14 = some (x, 0) ∧ x.data.toList = [80, 75, 1, 2] ++ (flat [2, 2, 2, 2, 4, 4, 4, 4, 2, 2, 2, 2, 2, 4, 4] [b0, b1, b2, b3, b4, b5, b6, b7, (b12.size : Int), (b13.size : Int), (b14.size : Int), b8, b9, b10, b11] ++ cat [b12, b13, b14]) := by
  obtain ⟨Q, l, h1, h2, h3, h4⟩ := D17.central_eq b0 b1 b2 b3 b4 b5 b6 b7 b8 b9 b10 b11 b12 b13 b14 z_b12 z_b13 z_b14 h_b0 h_b1 h_b2 h_b3 h_b4 h_b5 h_b6 h_b7 h_b8 h_b9 h_b10 h_b11
  have hl : l = [33639248, b0, b1, b2, b3, b4, b5, b6, b7, (b12.size : Int), (b13.size : Int), (b14.size : Int), b8, b9, b10, b11] := by
    rw [← Option.some.inj h1]
    rw [D17.w64 b0 (by omega), D17.w64 b1 (by omega), D17.w64 b2 (by omega), D17.w64 b3 (by omega), D17.w64 b4 (by omega), D17.w64 b5 (by omega), D17.w64 b6 (by omega), D17.w64 b7 (by omega), D17.w64 b8 (by omega), D17.w64 b9 (by omega), D17.w64 b10 (by omega), D17.w64 b11 (by omega), D17.w64s b12 z_b12, D17.w64s b13 z_b13, D17.w64s b14 z_b14]
  have hp := D17.print_eq [33639248, b0, b1, b2, b3, b4, b5, b6, b7, (b12.size : Int), (b13.size : Int), (b14.size : Int), b8, b9, b10, b11] [4, 2, 2, 2, 2, 4, 4, 4, 4, 2, 2, 2, 2, 2, 4, 4] rfl (by simp; omega) (by decide) (by decide)
  rw [hl, hp] at h2
  have hQ := Option.some.inj h2
  refine ⟨_, h4, ?_⟩
  rw [← hQ]
  simp only [ByteArray.data_append, Array.toList_append, strN_data]
  simp [D17.rowB, flat, cat, show ofN 4 33639248 = [80, 75, 1, 2] by decide]
theorem central_again (b0 b1 b2 b3 b4 b5 b6 b7 b8 b9 b10 b11 : Int) (b12 b13 b14 : ByteArray) (h_b0 : 0 ≤ b0 ∧ b0 ≤ 65535) (h_b1 : 0 ≤ b1 ∧ b1 ≤ 65535) (h_b2 : 0 ≤ b2 ∧ b2 ≤ 65535) (h_b3 : 0 ≤ b3 ∧ b3 ≤ 65535) (h_b4 : 0 ≤ b4 ∧ b4 ≤ 4294967295) (h_b5 : 0 ≤ b5 ∧ b5 ≤ 4294967295) (h_b6 : 0 ≤ b6 ∧ b6 ≤ 4294967295) (h_b7 : 0 ≤ b7 ∧ b7 ≤ 4294967295) (h_b8 : 0 ≤ b8 ∧ b8 ≤ 65535) (h_b9 : 0 ≤ b9 ∧ b9 ≤ 65535) (h_b10 : 0 ≤ b10 ∧ b10 ≤ 4294967295) (h_b11 : 0 ≤ b11 ∧ b11 ≤ 4294967295) (z_b12 : b12.size ≤ 3000) (z_b13 : b13.size ≤ 3000) (z_b14 : b14.size ≤ 3000) (s : ByteArray) (hs : s.size ≤ 100000) (R : List UInt8) (h : s.data.toList = [80, 75, 1, 2] ++ (flat [2, 2, 2, 2, 4, 4, 4, 4, 2, 2, 2, 2, 2, 4, 4] [b0, b1, b2, b3, b4, b5, b6, b7, (b12.size : Int), (b13.size : Int), (b14.size : Int), b8, b9, b10, b11] ++ (cat [b12, b13, b14] ++ R))) : header_ParseCentral.f s = some (b0, b1, b2, b3, b4, b5, b6, b7, b8, b9, b10, b11, b12, b13, b14, ((46 + (b12.size + b13.size + b14.size) : Nat) : Int), 0) := by
  have hfit := central_fit b0 b1 b2 b3 b4 b5 b6 b7 b8 b9 b10 b11 b12 b13 b14 h_b0 h_b1 h_b2 h_b3 h_b4 h_b5 h_b6 h_b7 h_b8 h_b9 h_b10 h_b11 z_b12 z_b13 z_b14
  have hfl := flat_len _ _ hfit
  rw [show ([2, 2, 2, 2, 4, 4, 4, 4, 2, 2, 2, 2, 2, 4, 4] : List Nat).sum = 42 from by decide] at hfl
  have hm : s.data.toList.take 4 = [80, 75, 1, 2] := by rw [h]; rfl
  have hd : s.data.toList.drop 4 = flat [2, 2, 2, 2, 4, 4, 4, 4, 2, 2, 2, 2, 2, 4, 4] [b0, b1, b2, b3, b4, b5, b6, b7, (b12.size : Int), (b13.size : Int), (b14.size : Int), b8, b9, b10, b11] ++ (cat [b12, b13, b14] ++ R) := by rw [h]; rfl
  have hl := congrArg List.length h
  rw [toList_length, List.length_append, List.length_append, hfl] at hl
  simp only [List.length_cons, List.length_nil] at hl
  rw [List.length_append, show (cat [b12, b13, b14]).length = b12.size + b13.size + b14.size by simp [cat]; omega] at hl
  have hn : numsL [2, 2, 2, 2, 4, 4, 4, 4, 2, 2, 2, 2, 2, 4, 4] (s.data.toList.drop 4) = [b0, b1, b2, b3, b4, b5, b6, b7, (b12.size : Int), (b13.size : Int), (b14.size : Int), b8, b9, b10, b11] := by rw [hd]; exact nums_flat _ _ _ hfit
  have hx : textsL [b12.size, b13.size, b14.size] (s.data.toList.drop 46) = [b12, b13, b14] := by
    rw [show s.data.toList.drop 46 = cat [b12, b13, b14] ++ R by rw [show 46 = 4 + 42 from rfl, ← List.drop_drop, hd, List.drop_append_of_le_length (by omega), List.drop_of_length_le (by omega), List.nil_append]]
    exact texts_cat [b12, b13, b14] R
  exact central_good s hs hm (by omega) b0 b1 b2 b3 b4 b5 b6 b7 ((b12.size : Int)) ((b13.size : Int)) ((b14.size : Int)) b8 b9 b10 b11 hn b12.size rfl b13.size rfl b14.size rfl b12 b13 b14 hx (by omega)
theorem central_size (b0 b1 b2 b3 b4 b5 b6 b7 b8 b9 b10 b11 : Int) (b12 b13 b14 : ByteArray) (h_b0 : 0 ≤ b0 ∧ b0 ≤ 65535) (h_b1 : 0 ≤ b1 ∧ b1 ≤ 65535) (h_b2 : 0 ≤ b2 ∧ b2 ≤ 65535) (h_b3 : 0 ≤ b3 ∧ b3 ≤ 65535) (h_b4 : 0 ≤ b4 ∧ b4 ≤ 4294967295) (h_b5 : 0 ≤ b5 ∧ b5 ≤ 4294967295) (h_b6 : 0 ≤ b6 ∧ b6 ≤ 4294967295) (h_b7 : 0 ≤ b7 ∧ b7 ≤ 4294967295) (h_b8 : 0 ≤ b8 ∧ b8 ≤ 65535) (h_b9 : 0 ≤ b9 ∧ b9 ≤ 65535) (h_b10 : 0 ≤ b10 ∧ b10 ≤ 4294967295) (h_b11 : 0 ≤ b11 ∧ b11 ≤ 4294967295) (z_b12 : b12.size ≤ 3000) (z_b13 : b13.size ≤ 3000) (z_b14 : b14.size ≤ 3000) (x : ByteArray) (hx : x.data.toList = [80, 75, 1, 2] ++ (flat [2, 2, 2, 2, 4, 4, 4, 4, 2, 2, 2, 2, 2, 4, 4] [b0, b1, b2, b3, b4, b5, b6, b7, (b12.size : Int), (b13.size : Int), (b14.size : Int), b8, b9, b10, b11] ++ cat [b12, b13, b14])) : x.size = 46 + (b12.size + b13.size + b14.size) := by
  have hfl := flat_len _ _ (central_fit b0 b1 b2 b3 b4 b5 b6 b7 b8 b9 b10 b11 b12 b13 b14 h_b0 h_b1 h_b2 h_b3 h_b4 h_b5 h_b6 h_b7 h_b8 h_b9 h_b10 h_b11 z_b12 z_b13 z_b14)
  rw [show ([2, 2, 2, 2, 4, 4, 4, 4, 2, 2, 2, 2, 2, 4, 4] : List Nat).sum = 42 from by decide] at hfl
  have hl := congrArg List.length hx
  rw [toList_length, List.length_append, List.length_append, hfl] at hl
  simp only [List.length_cons, List.length_nil] at hl
  rw [show (cat [b12, b13, b14]).length = b12.size + b13.size + b14.size by simp [cat]; omega] at hl
  omega
theorem central_reprint (s : ByteArray) (hs : s.size ≤ 3000) : (∃ e : Int, e ≠ 0 ∧ header_ParseCentral.f s = some (0, 0, 0, 0, 0, 0, 0, 0, 0, 0, 0, 0, (⟨#[]⟩ : ByteArray), (⟨#[]⟩ : ByteArray), (⟨#[]⟩ : ByteArray), 0, e)) ∨ ∃ (v1 v2 v3 v4 v5 v6 v7 v8 v12 v13 v14 v15 : Int) (x1 x2 x3 : ByteArray) (n : Nat), s.data.toList.take 4 = [80, 75, 1, 2] ∧ header_ParseCentral.f s = some (v1, v2, v3, v4, v5, v6, v7, v8, v12, v13, v14, v15, x1, x2, x3, (n : Int), 0) ∧ n ≤ s.size ∧ header_PrintCentral.f 200 v1 v2 v3 v4 v5 v6 v7 v8 v12 v13 v14 v15 x1 x2 x3 = some (s.extract 0 n, 0) := by
  by_cases h4 : s.size < 4
  · exact .inl ⟨3, by decide, central_short s (by omega) h4⟩
  by_cases hm : s.data.toList.take 4 = [80, 75, 1, 2]
  case neg => exact .inl ⟨4, by decide, central_no4 s (by omega) (by omega) hm⟩
  by_cases hf : s.size < 4 + 42
  · exact .inl ⟨3, by decide, central_fix s (by omega) (by omega) hm hf⟩
  obtain ⟨v1, v2, v3, v4, v5, v6, v7, v8, v9, v10, v11, v12, v13, v14, v15, hn, b1, b2, b3, b4, b5, b6, b7, b8, b9, b10, b11, b12, b13, b14, b15⟩ := central_nums (s.data.toList.drop 4)
  by_cases hk : s.size < 46 + (v9.toNat + v10.toNat + v11.toNat)
  · exact .inl ⟨3, by decide, central_txt s (by omega) hm (by omega) v1 v2 v3 v4 v5 v6 v7 v8 v9 v10 v11 v12 v13 v14 v15 hn v9.toNat (by omega) v10.toNat (by omega) v11.toNat (by omega) hk⟩
  obtain ⟨x1, x2, x3, hx, z1, z2, z3⟩ : ∃ x1 x2 x3 : ByteArray, textsL [v9.toNat, v10.toNat, v11.toNat] (s.data.toList.drop 46) = [x1, x2, x3] ∧ x1.size = v9.toNat ∧ x2.size = v10.toNat ∧ x3.size = v11.toNat := by
    refine ⟨_, _, _, rfl, ?_, ?_, ?_⟩
    all_goals (rw [strN_size]; simp only [List.length_take, List.length_drop, toList_length]; omega)
  have hgd := central_good s (by omega) hm (by omega) v1 v2 v3 v4 v5 v6 v7 v8 v9 v10 v11 v12 v13 v14 v15 hn v9.toNat (by omega) v10.toNat (by omega) v11.toNat (by omega) x1 x2 x3 hx (by omega)
  obtain ⟨y, hy, hyl⟩ := central_print v1 v2 v3 v4 v5 v6 v7 v8 v12 v13 v14 v15 x1 x2 x3 (by omega) (by omega) (by omega) (by omega) (by omega) (by omega) (by omega) (by omega) (by omega) (by omega) (by omega) (by omega) (by omega) (by omega) (by omega)
  refine .inr ⟨v1, v2, v3, v4, v5, v6, v7, v8, v12, v13, v14, v15, x1, x2, x3, _, hm, hgd, by omega, ?_⟩
  rw [hy]
  congr 2
  apply ext_list
  rw [take_list, hyl]
  have e1 := unrow [2, 2, 2, 2, 4, 4, 4, 4, 2, 2, 2, 2, 2, 4, 4] (s.data.toList.drop 4) (by rw [List.length_drop, toList_length]; simp; omega)
  rw [hn, List.drop_drop] at e1
  have e2 := untexts [v9.toNat, v10.toNat, v11.toNat] (s.data.toList.drop 46) (by rw [List.length_drop, toList_length]; simp; omega)
  rw [hx] at e2
  have e3 : ([v1, v2, v3, v4, v5, v6, v7, v8, (x1.size : Int), (x2.size : Int), (x3.size : Int), v12, v13, v14, v15] : List Int) = [v1, v2, v3, v4, v5, v6, v7, v8, v9, v10, v11, v12, v13, v14, v15] := by
    rw [show (x1.size : Int) = v9 by omega, show (x2.size : Int) = v10 by omega, show (x3.size : Int) = v11 by omega]
  rw [e3]
  have hs4 : s.data.toList = s.data.toList.take 4 ++ s.data.toList.drop 4 := (List.take_append_drop 4 _).symm
  rw [hm, e1, show 4 + ([2, 2, 2, 2, 4, 4, 4, 4, 2, 2, 2, 2, 2, 4, 4] : List Nat).sum = 46 from by decide, e2] at hs4
  rw [hs4]
  have hfl := flat_len [2, 2, 2, 2, 4, 4, 4, 4, 2, 2, 2, 2, 2, 4, 4] [v1, v2, v3, v4, v5, v6, v7, v8, v9, v10, v11, v12, v13, v14, v15] (fit2 ⟨by omega, by omega⟩ (fit2 ⟨by omega, by omega⟩ (fit2 ⟨by omega, by omega⟩ (fit2 ⟨by omega, by omega⟩ (fit4 ⟨by omega, by omega⟩ (fit4 ⟨by omega, by omega⟩ (fit4 ⟨by omega, by omega⟩ (fit4 ⟨by omega, by omega⟩ (fit2 ⟨by omega, by omega⟩ (fit2 ⟨by omega, by omega⟩ (fit2 ⟨by omega, by omega⟩ (fit2 ⟨by omega, by omega⟩ (fit2 ⟨by omega, by omega⟩ (fit4 ⟨by omega, by omega⟩ (fit4 ⟨by omega, by omega⟩ fit0)))))))))))))))
  rw [show ([2, 2, 2, 2, 4, 4, 4, 4, 2, 2, 2, 2, 2, 4, 4] : List Nat).sum = 42 from by decide] at hfl
  have hcl : (cat [x1, x2, x3]).length = v9.toNat + v10.toNat + v11.toNat := by simp [cat, z1, z2, z3]; omega
  simp only [← List.append_assoc]
  rw [List.take_append_of_le_length (by simp only [List.length_append, List.length_cons, List.length_nil, hfl, hcl]; omega), List.take_of_length_le (by simp only [List.length_append, List.length_cons, List.length_nil, hfl, hcl]; omega)]
theorem desc_fit (d0 d1 d2 : Int) (h_d0 : 0 ≤ d0 ∧ d0 ≤ 4294967295) (h_d1 : 0 ≤ d1 ∧ d1 ≤ 18446744073709551615) (h_d2 : 0 ≤ d2 ∧ d2 ≤ 18446744073709551615)  : Fit [4, 8, 8] [d0, d1, d2] := (fit4 h_d0 (fit8 h_d1 (fit8 h_d2 fit0)))
theorem desc_print (d0 d1 d2 : Int) (h_d0 : 0 ≤ d0 ∧ d0 ≤ 4294967295) (h_d1 : 0 ≤ d1 ∧ d1 ≤ 18446744073709551615) (h_d2 : 0 ≤ d2 ∧ d2 ≤ 18446744073709551615) : ∃ x : ByteArray, header_PrintDescriptor.f 200 d0 d1 d2 true = some x ∧ x.data.toList = [80, 75, 7, 8] ++ (flat [4, 8, 8] [d0, d1, d2] ++ []) := by
  obtain ⟨n, rfl⟩ : ∃ n : Nat, d1 = (n : Int) := ⟨d1.toNat, by omega⟩
  obtain ⟨z, rfl⟩ : ∃ n : Nat, d2 = (n : Int) := ⟨d2.toNat, by omega⟩
  obtain ⟨Q, l, ws, h1, hw, h2, h4, h3⟩ := D17.desc_eq d0 n z h_d0 (by omega) (by omega) true
  have hws : ws = [4, 4, 8, 8] := (Option.some.inj hw).symm
  have hl : l = [134695760, d0, (n : Int), (z : Int)] := by
    rw [← Option.some.inj h1]
    rw [D17.w64 d0 h_d0]
  have hp := D17.print_eq [134695760, d0, (n : Int), (z : Int)] [4, 4, 8, 8] rfl (by simp; omega) (by decide) (by decide)
  rw [hl, hws, hp] at h2
  have hQ := Option.some.inj h2
  refine ⟨_, h4, ?_⟩
  rw [← hQ]
  simp only [strN_data]
  simp [D17.rowB, flat, show ofN 4 134695760 = [80, 75, 7, 8] by decide]
theorem desc_again (d0 d1 d2 : Int) (h_d0 : 0 ≤ d0 ∧ d0 ≤ 4294967295) (h_d1 : 0 ≤ d1 ∧ d1 ≤ 18446744073709551615) (h_d2 : 0 ≤ d2 ∧ d2 ≤ 18446744073709551615)  (s : ByteArray) (hs : s.size ≤ 100000) (R : List UInt8) (h : s.data.toList = [80, 75, 7, 8] ++ (flat [4, 8, 8] [d0, d1, d2] ++ (R))) : header_ParseDescriptor.f s true = some (d0, d1, d2, ((24 : Nat) : Int), 0) := by
  have hfit := desc_fit d0 d1 d2 h_d0 h_d1 h_d2
  have hfl := flat_len _ _ hfit
  rw [show ([4, 8, 8] : List Nat).sum = 20 from by decide] at hfl
  have hm : s.data.toList.take 4 = [80, 75, 7, 8] := by rw [h]; rfl
  have hd : s.data.toList.drop 4 = flat [4, 8, 8] [d0, d1, d2] ++ (R) := by rw [h]; rfl
  have hl := congrArg List.length h
  rw [toList_length, List.length_append, List.length_append, hfl] at hl
  simp only [List.length_cons, List.length_nil] at hl
  have hn : numsL [4, 8, 8] (s.data.toList.drop 4) = [d0, d1, d2] := by rw [hd]; exact nums_flat _ _ _ hfit
  exact descw_good s hs hm (by omega) d0 d1 d2 hn
theorem desc_size (d0 d1 d2 : Int) (h_d0 : 0 ≤ d0 ∧ d0 ≤ 4294967295) (h_d1 : 0 ≤ d1 ∧ d1 ≤ 18446744073709551615) (h_d2 : 0 ≤ d2 ∧ d2 ≤ 18446744073709551615)  (x : ByteArray) (hx : x.data.toList = [80, 75, 7, 8] ++ (flat [4, 8, 8] [d0, d1, d2] ++ [])) : x.size = 24 := by
  have hfl := flat_len _ _ (desc_fit d0 d1 d2 h_d0 h_d1 h_d2 )
  rw [show ([4, 8, 8] : List Nat).sum = 20 from by decide] at hfl
  have hl := congrArg List.length hx
  rw [toList_length, List.length_append, List.length_append, hfl] at hl
  simp only [List.length_cons, List.length_nil] at hl
  omega
end Go.Proofs.Ytnjfddmajiihjaa.Hp
namespace Go.Proofs.Ytnjfddmajiihjaa.Hp
set_option linter.unusedVariables false
set_option linter.unusedSimpArgs false
open Go Go.RowKit Go.Proofs.Ytnjfddmajiihjaa.P Go.Proofs.Ytnjfddmajiihjaa.B Go.Proofs.Ytnjfddmajiihjaa.D17 Go.Proofs.YtnjfddmajiihjaaW.PrintWords Go.Proofs.YtnjfddmajiihjaaW.PrintLast Go.Proofs.YtnjfddmajiihjaaW.PrintMore
attribute [local go_sem] max2_int Go.Proofs.Ytnjfddmajiihjaa.Mx.max_seven
set_option maxHeartbeats 8000000 in
set_option maxRecDepth 100000 in
theorem back_big (a0 : Int) (a1 : Int) (a2 : Int) (a3 : Int) (a4 : Int) (a5 : Int) (a6 : Int) (a7 : ByteArray) (a8 : ByteArray) (b0 : Int) (b1 : Int) (b2 : Int) (b3 : Int) (b4 : Int) (b5 : Int) (b6 : Int) (b7 : Int) (b8 : Int) (b9 : Int) (b10 : Int) (b11 : Int) (b12 : ByteArray) (b13 : ByteArray) (b14 : ByteArray) (d0 : Int) (d1 : Int) (d2 : Int) (behind s : ByteArray) (cut : Int) (w : World) (hsz : ¬ (a7.size ≤ 3000 ∧ a8.size ≤ 3000 ∧ b12.size ≤ 3000 ∧ b13.size ≤ 3000 ∧ b14.size ≤ 3000 ∧ behind.size ≤ 3000 ∧ s.size ≤ 3000)) :
    Calls Try.prog 5 #[.agg #[.int .u16 a0, .int .u16 a1, .int .u16 a2, .int .u32 a3, .int .u32 a4, .int .u32 a5, .int .u32 a6, .string a7, .string a8], .agg #[.int .u16 b0, .int .u16 b1, .int .u16 b2, .int .u16 b3, .int .u32 b4, .int .u32 b5, .int .u32 b6, .int .u32 b7, .int .u16 b8, .int .u16 b9, .int .u32 b10, .int .u32 b11, .string b12, .string b13, .string b14], .agg #[.int .u32 d0, .int .u64 d1, .int .u64 d2], .string behind, .string s, .int .i64 cut] w fun e w' => e = .returned (.bool true) ∧ Below w.heap.size w w' := by
  have HSZ := Aside0.mk hsz
  clear hsz
  obtain ⟨j8, hj8⟩ : ∃ j_ : Int, (if (a7.size : Int) < (a8.size : Int) then (a8.size : Int) else (a7.size : Int)) = j_ := ⟨_, rfl⟩
  have hj8n : (if a7.size < a8.size then (a8.size : Int) else (a7.size : Int)) = j8 := by
    rw [← hj8]
    by_cases q : a7.size < a8.size
    · rw [if_pos q, if_pos (by omega)]
    · rw [if_neg q, if_neg (by omega)]
  obtain ⟨j9, hj9⟩ : ∃ j_ : Int, (if j8 < (b12.size : Int) then (b12.size : Int) else j8) = j_ := ⟨_, rfl⟩
  obtain ⟨j10, hj10⟩ : ∃ j_ : Int, (if j9 < (b13.size : Int) then (b13.size : Int) else j9) = j_ := ⟨_, rfl⟩
  obtain ⟨j11, hj11⟩ : ∃ j_ : Int, (if j10 < (b14.size : Int) then (b14.size : Int) else j10) = j_ := ⟨_, rfl⟩
  obtain ⟨j12, hj12⟩ : ∃ j_ : Int, (if j11 < (behind.size : Int) then (behind.size : Int) else j11) = j_ := ⟨_, rfl⟩
  obtain ⟨j13, hj13⟩ : ∃ j_ : Int, (if j12 < (s.size : Int) then (s.size : Int) else j12) = j_ := ⟨_, rfl⟩
  have HA0 := Aside0.mk (blk_alloc (blk_alloc (heap_alloc_new w (.cells #[.int .u16 a0, .int .u16 a1, .int .u16 a2, .int .u32 a3, .int .u32 a4, .int .u32 a5, .int .u32 a6, .string a7, .string a8] 25)) (.cells #[.int .u16 b0, .int .u16 b1, .int .u16 b2, .int .u16 b3, .int .u32 b4, .int .u32 b5, .int .u32 b6, .int .u32 b7, .int .u16 b8, .int .u16 b9, .int .u32 b10, .int .u32 b11, .string b12, .string b13, .string b14] 27)) (.cells #[.int .u32 d0, .int .u64 d1, .int .u64 d2] 30))
  have HB0 := Aside0.mk (blk_alloc (heap_alloc_new (w.alloc (.cells #[.int .u16 a0, .int .u16 a1, .int .u16 a2, .int .u32 a3, .int .u32 a4, .int .u32 a5, .int .u32 a6, .string a7, .string a8] 25)) (.cells #[.int .u16 b0, .int .u16 b1, .int .u16 b2, .int .u16 b3, .int .u32 b4, .int .u32 b5, .int .u32 b6, .int .u32 b7, .int .u16 b8, .int .u16 b9, .int .u32 b10, .int .u32 b11, .string b12, .string b13, .string b14] 27)) (.cells #[.int .u32 d0, .int .u64 d1, .int .u64 d2] 30))
  have HD0 := Aside0.mk (heap_alloc_new ((w.alloc (.cells #[.int .u16 a0, .int .u16 a1, .int .u16 a2, .int .u32 a3, .int .u32 a4, .int .u32 a5, .int .u32 a6, .string a7, .string a8] 25)).alloc (.cells #[.int .u16 b0, .int .u16 b1, .int .u16 b2, .int .u16 b3, .int .u32 b4, .int .u32 b5, .int .u32 b6, .int .u32 b7, .int .u16 b8, .int .u16 b9, .int .u32 b10, .int .u32 b11, .string b12, .string b13, .string b14] 27)) (.cells #[.int .u32 d0, .int .u64 d1, .int .u64 d2] 30))
  have HW0 := Aside0.mk (below_alloc (below_alloc (below_alloc (Below.refl w.heap.size w) (.cells #[.int .u16 a0, .int .u16 a1, .int .u16 a2, .int .u32 a3, .int .u32 a4, .int .u32 a5, .int .u32 a6, .string a7, .string a8] 25)) (.cells #[.int .u16 b0, .int .u16 b1, .int .u16 b2, .int .u16 b3, .int .u32 b4, .int .u32 b5, .int .u32 b6, .int .u32 b7, .int .u16 b8, .int .u16 b9, .int .u32 b10, .int .u32 b11, .string b12, .string b13, .string b14] 27)) (.cells #[.int .u32 d0, .int .u64 d1, .int .u64 d2] 30))
  have hs1 : (w.alloc (.cells #[.int .u16 a0, .int .u16 a1, .int .u16 a2, .int .u32 a3, .int .u32 a4, .int .u32 a5, .int .u32 a6, .string a7, .string a8] 25)).heap.size = w.heap.size + 1 := by simp
  have hs2 : ((w.alloc (.cells #[.int .u16 a0, .int .u16 a1, .int .u16 a2, .int .u32 a3, .int .u32 a4, .int .u32 a5, .int .u32 a6, .string a7, .string a8] 25)).alloc (.cells #[.int .u16 b0, .int .u16 b1, .int .u16 b2, .int .u16 b3, .int .u32 b4, .int .u32 b5, .int .u32 b6, .int .u32 b7, .int .u16 b8, .int .u16 b9, .int .u32 b10, .int .u32 b11, .string b12, .string b13, .string b14] 27)).heap.size = w.heap.size + 1 + 1 := by simp
  rw [hs1] at HB0
  rw [hs2] at HD0
  clear hs1 hs2
  go_enter Try.func5, Try.ntmps5
  go_upto_region 1 with (fail)
  generalize hW : ((w.alloc (.cells #[.int .u16 a0, .int .u16 a1, .int .u16 a2, .int .u32 a3, .int .u32 a4, .int .u32 a5, .int .u32 a6, .string a7, .string a8] 25)).alloc (.cells #[.int .u16 b0, .int .u16 b1, .int .u16 b2, .int .u16 b3, .int .u32 b4, .int .u32 b5, .int .u32 b6, .int .u32 b7, .int .u16 b8, .int .u16 b9, .int .u32 b10, .int .u32 b11, .string b12, .string b13, .string b14] 27)).alloc (.cells #[.int .u32 d0, .int .u64 d1, .int .u64 d2] 30) = wa at HA0 HB0 HD0 HW0 ⊢
  obtain ⟨gA, hgA⟩ : ∃ g, w.heap.size = g := ⟨_, rfl⟩
  obtain ⟨gB, hgB⟩ : ∃ g, w.heap.size + 1 = g := ⟨_, rfl⟩
  obtain ⟨gD, hgD⟩ : ∃ g, w.heap.size + 1 + 1 = g := ⟨_, rfl⟩
  rw [hgD] at HD0 ⊢
  rw [hgB] at HB0 ⊢
  rw [hgA] at HA0 ⊢
  clear hW hgA hgB hgD
  go_upto_region 3 with (go_at_call 6; refine (portmanteaulaw17_awake.calls 200 _ _ awake_true).mono ?_; rintro e w1 ⟨rfl, hb⟩; have HA1 := Aside0.mk (blk_below HA0.out hb); have HB1 := Aside0.mk (blk_below HB0.out hb); have HD1 := Aside0.mk (blk_below HD0.out hb); have HW1 := Aside0.mk (below_step HW0.out hb); clear hb)
  clear HA0 HB0 HD0 HW0
  have m0 := blk_cell HA1.out 7
  have m1 := blk_cell HA1.out 8
  have m2 := blk_cell HB1.out 12
  have m3 := blk_cell HB1.out 13
  have m4 := blk_cell HB1.out 14
  have hdb : decide (3000 < j13) = true := decide_eq_true (by
    have := HSZ.out
    rw [← hj13, ← hj12, ← hj11, ← hj10, ← hj9, ← hj8]
    (repeat' split) <;> omega)
  go_wp2
  go_ret
  exact ⟨rfl, HW1.out⟩
end Go.Proofs.Ytnjfddmajiihjaa.Hp
namespace Go.Proofs.Ytnjfddmajiihjaa.Hp
set_option linter.unusedVariables false
set_option linter.unusedSimpArgs false
open Go Go.RowKit Go.Proofs.Ytnjfddmajiihjaa.P Go.Proofs.Ytnjfddmajiihjaa.B Go.Proofs.Ytnjfddmajiihjaa.D17 Go.Proofs.YtnjfddmajiihjaaW.PrintWords Go.Proofs.YtnjfddmajiihjaaW.PrintLast Go.Proofs.YtnjfddmajiihjaaW.PrintMore
attribute [local go_sem] max2_int Go.Proofs.Ytnjfddmajiihjaa.Mx.max_seven
set_option maxHeartbeats 16000000 in
set_option maxRecDepth 100000 in
theorem back_w0 (a0 : Int) (a1 : Int) (a2 : Int) (a3 : Int) (a4 : Int) (a5 : Int) (a6 : Int) (a7 : ByteArray) (a8 : ByteArray) (b0 : Int) (b1 : Int) (b2 : Int) (b3 : Int) (b4 : Int) (b5 : Int) (b6 : Int) (b7 : Int) (b8 : Int) (b9 : Int) (b10 : Int) (b11 : Int) (b12 : ByteArray) (b13 : ByteArray) (b14 : ByteArray) (d0 : Int) (d1 : Int) (d2 : Int) (behind s : ByteArray) (cut : Int) (w : World) (x y z : ByteArray) (c : Nat)
    (hsz : a7.size ≤ 3000 ∧ a8.size ≤ 3000 ∧ b12.size ≤ 3000 ∧ b13.size ≤ 3000 ∧ b14.size ≤ 3000 ∧ behind.size ≤ 3000 ∧ s.size ≤ 3000) (hxs : 30 ≤ x.size ∧ x.size ≤ 20000) (hys : y.size ≤ 20000) (hzs : z.size ≤ 20000)
    (fx : header_PrintLocal.f 200 a0 a1 a2 a3 a4 a5 a6 a7 a8 = some (x, 0)) (fy : header_PrintCentral.f 200 b0 b1 b2 b3 b4 b5 b6 b7 b8 b9 b10 b11 b12 b13 b14 = some (y, 0)) (fz : header_PrintDescriptor.f 200 d0 d1 d2 true = some z)
    (p1 : header_ParseLocal.f (x ++ behind) = some (a0, a1, a2, a3, a4, a5, a6, a7, a8, (x.size : Int), 0)) (p2 : header_ParseCentral.f (y ++ behind) = some (b0, b1, b2, b3, b4, b5, b6, b7, b8, b9, b10, b11, b12, b13, b14, (y.size : Int), 0)) (p3 : header_ParseDescriptor.f (z ++ behind) true = some (d0, d1, d2, (z.size : Int), 0))
    (hc : c < x.size) (hcut : Int.tmod (IntKind.u64.wrap cut) (x.size : Int) = (c : Int)) (p4 : header_ParseLocal.f (x.extract 0 c) = some (0, 0, 0, 0, 0, 0, 0, (⟨#[]⟩ : ByteArray), (⟨#[]⟩ : ByteArray), 0, 3))
    (e5 : Int) (he5 : e5 ≠ 0) (p5 : header_ParseLocal.f s = some (0, 0, 0, 0, 0, 0, 0, (⟨#[]⟩ : ByteArray), (⟨#[]⟩ : ByteArray), 0, e5))
    (e6 : Int) (he6 : e6 ≠ 0) (p6 : header_ParseCentral.f s = some (0, 0, 0, 0, 0, 0, 0, 0, 0, 0, 0, 0, (⟨#[]⟩ : ByteArray), (⟨#[]⟩ : ByteArray), (⟨#[]⟩ : ByteArray), 0, e6)) :
    Calls Try.prog 5 #[.agg #[.int .u16 a0, .int .u16 a1, .int .u16 a2, .int .u32 a3, .int .u32 a4, .int .u32 a5, .int .u32 a6, .string a7, .string a8], .agg #[.int .u16 b0, .int .u16 b1, .int .u16 b2, .int .u16 b3, .int .u32 b4, .int .u32 b5, .int .u32 b6, .int .u32 b7, .int .u16 b8, .int .u16 b9, .int .u32 b10, .int .u32 b11, .string b12, .string b13, .string b14], .agg #[.int .u32 d0, .int .u64 d1, .int .u64 d2], .string behind, .string s, .int .i64 cut] w fun e w' => e = .returned (.bool true) ∧ Below w.heap.size w w' := by
  have Ffx := Aside0.mk fx
  have Ffy := Aside0.mk fy
  have Ffz := Aside0.mk fz
  have Fp1 := Aside0.mk p1
  have Fp2 := Aside0.mk p2
  have Fp3 := Aside0.mk p3
  have Fp4 := Aside0.mk p4
  have Fp5 := Aside0.mk p5
  have Fp6 := Aside0.mk p6
  have HCUT := Aside0.mk hcut
  have k5a : (e5 == 0) = false := by simp [he5]
  have k6a : (e6 == 0) = false := by simp [he6]
  have HSZ := Aside0.mk hsz
  have hu1 := Try.underlying25
  have hu2 := Try.underlying27
  have hu3 := Try.underlying30
  clear fx fy fz p1 p2 p3 p4 p5 p6 hcut hsz he5 he6
  obtain ⟨j8, hj8⟩ : ∃ j_ : Int, (if (a7.size : Int) < (a8.size : Int) then (a8.size : Int) else (a7.size : Int)) = j_ := ⟨_, rfl⟩
  have hj8n : (if a7.size < a8.size then (a8.size : Int) else (a7.size : Int)) = j8 := by
    rw [← hj8]
    by_cases q : a7.size < a8.size
    · rw [if_pos q, if_pos (by omega)]
    · rw [if_neg q, if_neg (by omega)]
  obtain ⟨j9, hj9⟩ : ∃ j_ : Int, (if j8 < (b12.size : Int) then (b12.size : Int) else j8) = j_ := ⟨_, rfl⟩
  obtain ⟨j10, hj10⟩ : ∃ j_ : Int, (if j9 < (b13.size : Int) then (b13.size : Int) else j9) = j_ := ⟨_, rfl⟩
  obtain ⟨j11, hj11⟩ : ∃ j_ : Int, (if j10 < (b14.size : Int) then (b14.size : Int) else j10) = j_ := ⟨_, rfl⟩
  obtain ⟨j12, hj12⟩ : ∃ j_ : Int, (if j11 < (behind.size : Int) then (behind.size : Int) else j11) = j_ := ⟨_, rfl⟩
  obtain ⟨j13, hj13⟩ : ∃ j_ : Int, (if j12 < (s.size : Int) then (s.size : Int) else j12) = j_ := ⟨_, rfl⟩
  have HA0 := Aside0.mk (blk_alloc (blk_alloc (heap_alloc_new w (.cells #[.int .u16 a0, .int .u16 a1, .int .u16 a2, .int .u32 a3, .int .u32 a4, .int .u32 a5, .int .u32 a6, .string a7, .string a8] 25)) (.cells #[.int .u16 b0, .int .u16 b1, .int .u16 b2, .int .u16 b3, .int .u32 b4, .int .u32 b5, .int .u32 b6, .int .u32 b7, .int .u16 b8, .int .u16 b9, .int .u32 b10, .int .u32 b11, .string b12, .string b13, .string b14] 27)) (.cells #[.int .u32 d0, .int .u64 d1, .int .u64 d2] 30))
  have HB0 := Aside0.mk (blk_alloc (heap_alloc_new (w.alloc (.cells #[.int .u16 a0, .int .u16 a1, .int .u16 a2, .int .u32 a3, .int .u32 a4, .int .u32 a5, .int .u32 a6, .string a7, .string a8] 25)) (.cells #[.int .u16 b0, .int .u16 b1, .int .u16 b2, .int .u16 b3, .int .u32 b4, .int .u32 b5, .int .u32 b6, .int .u32 b7, .int .u16 b8, .int .u16 b9, .int .u32 b10, .int .u32 b11, .string b12, .string b13, .string b14] 27)) (.cells #[.int .u32 d0, .int .u64 d1, .int .u64 d2] 30))
  have HD0 := Aside0.mk (heap_alloc_new ((w.alloc (.cells #[.int .u16 a0, .int .u16 a1, .int .u16 a2, .int .u32 a3, .int .u32 a4, .int .u32 a5, .int .u32 a6, .string a7, .string a8] 25)).alloc (.cells #[.int .u16 b0, .int .u16 b1, .int .u16 b2, .int .u16 b3, .int .u32 b4, .int .u32 b5, .int .u32 b6, .int .u32 b7, .int .u16 b8, .int .u16 b9, .int .u32 b10, .int .u32 b11, .string b12, .string b13, .string b14] 27)) (.cells #[.int .u32 d0, .int .u64 d1, .int .u64 d2] 30))
  have HW0 := Aside0.mk (below_alloc (below_alloc (below_alloc (Below.refl w.heap.size w) (.cells #[.int .u16 a0, .int .u16 a1, .int .u16 a2, .int .u32 a3, .int .u32 a4, .int .u32 a5, .int .u32 a6, .string a7, .string a8] 25)) (.cells #[.int .u16 b0, .int .u16 b1, .int .u16 b2, .int .u16 b3, .int .u32 b4, .int .u32 b5, .int .u32 b6, .int .u32 b7, .int .u16 b8, .int .u16 b9, .int .u32 b10, .int .u32 b11, .string b12, .string b13, .string b14] 27)) (.cells #[.int .u32 d0, .int .u64 d1, .int .u64 d2] 30))
  have hs1 : (w.alloc (.cells #[.int .u16 a0, .int .u16 a1, .int .u16 a2, .int .u32 a3, .int .u32 a4, .int .u32 a5, .int .u32 a6, .string a7, .string a8] 25)).heap.size = w.heap.size + 1 := by simp
  have hs2 : ((w.alloc (.cells #[.int .u16 a0, .int .u16 a1, .int .u16 a2, .int .u32 a3, .int .u32 a4, .int .u32 a5, .int .u32 a6, .string a7, .string a8] 25)).alloc (.cells #[.int .u16 b0, .int .u16 b1, .int .u16 b2, .int .u16 b3, .int .u32 b4, .int .u32 b5, .int .u32 b6, .int .u32 b7, .int .u16 b8, .int .u16 b9, .int .u32 b10, .int .u32 b11, .string b12, .string b13, .string b14] 27)).heap.size = w.heap.size + 1 + 1 := by simp
  rw [hs1] at HB0
  rw [hs2] at HD0
  clear hs1 hs2
  go_enter Try.func5, Try.ntmps5
  go_upto_region 1 with (fail)
  generalize hW : ((w.alloc (.cells #[.int .u16 a0, .int .u16 a1, .int .u16 a2, .int .u32 a3, .int .u32 a4, .int .u32 a5, .int .u32 a6, .string a7, .string a8] 25)).alloc (.cells #[.int .u16 b0, .int .u16 b1, .int .u16 b2, .int .u16 b3, .int .u32 b4, .int .u32 b5, .int .u32 b6, .int .u32 b7, .int .u16 b8, .int .u16 b9, .int .u32 b10, .int .u32 b11, .string b12, .string b13, .string b14] 27)).alloc (.cells #[.int .u32 d0, .int .u64 d1, .int .u64 d2] 30) = wa at HA0 HB0 HD0 HW0 ⊢
  obtain ⟨gA, hgA⟩ : ∃ g, w.heap.size = g := ⟨_, rfl⟩
  obtain ⟨gB, hgB⟩ : ∃ g, w.heap.size + 1 = g := ⟨_, rfl⟩
  obtain ⟨gD, hgD⟩ : ∃ g, w.heap.size + 1 + 1 = g := ⟨_, rfl⟩
  rw [hgD] at HD0 ⊢
  rw [hgB] at HB0 ⊢
  rw [hgA] at HA0 ⊢
  clear hW hgA hgB hgD
  go_upto_region 3 with (go_at_call 6; refine (portmanteaulaw17_awake.calls 200 _ _ awake_true).mono ?_; rintro e w1 ⟨rfl, hb⟩; have HA1 := Aside0.mk (blk_below HA0.out hb); have HB1 := Aside0.mk (blk_below HB0.out hb); have HD1 := Aside0.mk (blk_below HD0.out hb); have HW1 := Aside0.mk (below_step HW0.out hb); clear hb)
  clear HA0 HB0 HD0 HW0
  have m0 := blk_cell HA1.out 7
  have m1 := blk_cell HA1.out 8
  have m2 := blk_cell HB1.out 12
  have m3 := blk_cell HB1.out 13
  have m4 := blk_cell HB1.out 14
  have hdb : decide (3000 < j13) = false := decide_eq_false (by
    have := HSZ.out
    rw [← hj13, ← hj12, ← hj11, ← hj10, ← hj9, ← hj8]
    (repeat' split) <;> omega)
  go_upto_region 5 with (fail)
  clear hdb hj8 hj8n hj9 hj10 hj11 hj12 hj13 m0 m1 m2 m3 m4
  have oxa := eq_true (show x.size + behind.size ≤ 9223372036854775807 by have := HSZ.out; omega)
  have oxb : (9223372036854775807 < x.size + behind.size) = False := eq_false (by have := HSZ.out; omega)
  have oya := eq_true (show y.size + behind.size ≤ 9223372036854775807 by have := HSZ.out; omega)
  have oyb : (9223372036854775807 < y.size + behind.size) = False := eq_false (by have := HSZ.out; omega)
  have oza := eq_true (show z.size + behind.size ≤ 9223372036854775807 by have := HSZ.out; omega)
  have ozb : (9223372036854775807 < z.size + behind.size) = False := eq_false (by have := HSZ.out; omega)
  have qA0 := blk_cell HA1.out 0
  have qA1 := blk_cell HA1.out 1
  have qA2 := blk_cell HA1.out 2
  have qA3 := blk_cell HA1.out 3
  have qA4 := blk_cell HA1.out 4
  have qA5 := blk_cell HA1.out 5
  have qA6 := blk_cell HA1.out 6
  have qA7 := blk_cell HA1.out 7
  have qA8 := blk_cell HA1.out 8
  simp only [List.getElem?_toArray, List.getElem?_cons_zero, List.getElem?_cons_succ] at qA0 qA1 qA2 qA3 qA4 qA5 qA6 qA7 qA8
  go_upto_region 6 with (go_at_call 7; (with_reducible refine (header_PrintLocal.calls 200 a0 a1 a2 a3 a4 a5 a6 a7 a8 x 0 _ Ffx.out).mono ?_); rintro e w2 ⟨rfl, hb⟩; have HA2 := Aside0.mk (blk_below HA1.out hb); have HB2 := Aside0.mk (blk_below HB1.out hb); have HD2 := Aside0.mk (blk_below HD1.out hb); have HW2 := Aside0.mk (below_step HW1.out hb); clear hb)
  clear HA1 HB1 HD1 HW1 qA0 qA1 qA2 qA3 qA4 qA5 qA6 qA7 qA8
  have qB0 := blk_cell HB2.out 0
  have qB1 := blk_cell HB2.out 1
  have qB2 := blk_cell HB2.out 2
  have qB3 := blk_cell HB2.out 3
  have qB4 := blk_cell HB2.out 4
  have qB5 := blk_cell HB2.out 5
  have qB6 := blk_cell HB2.out 6
  have qB7 := blk_cell HB2.out 7
  have qB8 := blk_cell HB2.out 8
  have qB9 := blk_cell HB2.out 9
  have qB10 := blk_cell HB2.out 10
  have qB11 := blk_cell HB2.out 11
  have qB12 := blk_cell HB2.out 12
  have qB13 := blk_cell HB2.out 13
  have qB14 := blk_cell HB2.out 14
  simp only [List.getElem?_toArray, List.getElem?_cons_zero, List.getElem?_cons_succ] at qB0 qB1 qB2 qB3 qB4 qB5 qB6 qB7 qB8 qB9 qB10 qB11 qB12 qB13 qB14
  go_upto_region 7 with (go_at_call 8; (with_reducible refine (header_PrintCentral.calls 200 b0 b1 b2 b3 b4 b5 b6 b7 b8 b9 b10 b11 b12 b13 b14 y 0 _ Ffy.out).mono ?_); rintro e w3 ⟨rfl, hb⟩; have HA3 := Aside0.mk (blk_below HA2.out hb); have HB3 := Aside0.mk (blk_below HB2.out hb); have HD3 := Aside0.mk (blk_below HD2.out hb); have HW3 := Aside0.mk (below_step HW2.out hb); clear hb)
  clear HA2 HB2 HD2 HW2 qB0 qB1 qB2 qB3 qB4 qB5 qB6 qB7 qB8 qB9 qB10 qB11 qB12 qB13 qB14
  have qD0 := blk_cell HD3.out 0
  have qD1 := blk_cell HD3.out 1
  have qD2 := blk_cell HD3.out 2
  simp only [List.getElem?_toArray, List.getElem?_cons_zero, List.getElem?_cons_succ] at qD0 qD1 qD2
  go_upto_region 8 with (go_at_call 14; (with_reducible refine (header_PrintDescriptor.calls 200 d0 d1 d2 true z _ Ffz.out).mono ?_); rintro e w4 ⟨rfl, hb⟩; have HA4 := Aside0.mk (blk_below HA3.out hb); have HB4 := Aside0.mk (blk_below HB3.out hb); have HD4 := Aside0.mk (blk_below HD3.out hb); have HW4 := Aside0.mk (below_step HW3.out hb); clear hb)
  clear HA3 HB3 HD3 HW3 qD0 qD1 qD2
  go_upto_region 9 with (go_at_call 17; (with_reducible refine (header_ParseLocal.calls (x ++ behind) a0 a1 a2 a3 a4 a5 a6 a7 a8 (x.size : Int) 0 _ Fp1.out).mono ?_); rintro e w5 ⟨rfl, hb⟩; have HA5 := Aside0.mk (blk_below HA4.out hb); have HB5 := Aside0.mk (blk_below HB4.out hb); have HD5 := Aside0.mk (blk_below HD4.out hb); have HW5 := Aside0.mk (below_step HW4.out hb); clear hb)
  clear HA4 HB4 HD4 HW4
  have HA6 := Aside0.mk (blk_alloc HA5.out (.cells #[.int .u16 a0, .int .u16 a1, .int .u16 a2, .int .u32 a3, .int .u32 a4, .int .u32 a5, .int .u32 a6, .string a7, .string a8] 25))
  have HB6 := Aside0.mk (blk_alloc HB5.out (.cells #[.int .u16 a0, .int .u16 a1, .int .u16 a2, .int .u32 a3, .int .u32 a4, .int .u32 a5, .int .u32 a6, .string a7, .string a8] 25))
  have HD6 := Aside0.mk (blk_alloc HD5.out (.cells #[.int .u16 a0, .int .u16 a1, .int .u16 a2, .int .u32 a3, .int .u32 a4, .int .u32 a5, .int .u32 a6, .string a7, .string a8] 25))
  have HK6 := Aside0.mk (heap_alloc_new w5 (.cells #[.int .u16 a0, .int .u16 a1, .int .u16 a2, .int .u32 a3, .int .u32 a4, .int .u32 a5, .int .u32 a6, .string a7, .string a8] 25))
  have HW6 := Aside0.mk (below_alloc HW5.out (.cells #[.int .u16 a0, .int .u16 a1, .int .u16 a2, .int .u32 a3, .int .u32 a4, .int .u32 a5, .int .u32 a6, .string a7, .string a8] 25))
  generalize w5.alloc (.cells #[.int .u16 a0, .int .u16 a1, .int .u16 a2, .int .u32 a3, .int .u32 a4, .int .u32 a5, .int .u32 a6, .string a7, .string a8] 25) = w6 at HA6 HB6 HD6 HK6 HW6 ⊢
  generalize w5.heap.size = gK at HK6 ⊢
  clear HA5 HB5 HD5 HW5
  go_upto_region 10 with (go_at_call 20; (with_reducible refine (header_ParseCentral.calls (y ++ behind) b0 b1 b2 b3 b4 b5 b6 b7 b8 b9 b10 b11 b12 b13 b14 (y.size : Int) 0 _ Fp2.out).mono ?_); rintro e w7 ⟨rfl, hb⟩; have HA7 := Aside0.mk (blk_below HA6.out hb); have HB7 := Aside0.mk (blk_below HB6.out hb); have HD7 := Aside0.mk (blk_below HD6.out hb); have HK7 := Aside0.mk (blk_below HK6.out hb); have HW7 := Aside0.mk (below_step HW6.out hb); clear hb)
  clear HA6 HB6 HD6 HK6 HW6
  have HA8 := Aside0.mk (blk_alloc HA7.out (.cells #[.int .u16 b0, .int .u16 b1, .int .u16 b2, .int .u16 b3, .int .u32 b4, .int .u32 b5, .int .u32 b6, .int .u32 b7, .int .u16 b8, .int .u16 b9, .int .u32 b10, .int .u32 b11, .string b12, .string b13, .string b14] 27))
  have HB8 := Aside0.mk (blk_alloc HB7.out (.cells #[.int .u16 b0, .int .u16 b1, .int .u16 b2, .int .u16 b3, .int .u32 b4, .int .u32 b5, .int .u32 b6, .int .u32 b7, .int .u16 b8, .int .u16 b9, .int .u32 b10, .int .u32 b11, .string b12, .string b13, .string b14] 27))
  have HD8 := Aside0.mk (blk_alloc HD7.out (.cells #[.int .u16 b0, .int .u16 b1, .int .u16 b2, .int .u16 b3, .int .u32 b4, .int .u32 b5, .int .u32 b6, .int .u32 b7, .int .u16 b8, .int .u16 b9, .int .u32 b10, .int .u32 b11, .string b12, .string b13, .string b14] 27))
  have HK8 := Aside0.mk (blk_alloc HK7.out (.cells #[.int .u16 b0, .int .u16 b1, .int .u16 b2, .int .u16 b3, .int .u32 b4, .int .u32 b5, .int .u32 b6, .int .u32 b7, .int .u16 b8, .int .u16 b9, .int .u32 b10, .int .u32 b11, .string b12, .string b13, .string b14] 27))
  have HL8 := Aside0.mk (heap_alloc_new w7 (.cells #[.int .u16 b0, .int .u16 b1, .int .u16 b2, .int .u16 b3, .int .u32 b4, .int .u32 b5, .int .u32 b6, .int .u32 b7, .int .u16 b8, .int .u16 b9, .int .u32 b10, .int .u32 b11, .string b12, .string b13, .string b14] 27))
  have HW8 := Aside0.mk (below_alloc HW7.out (.cells #[.int .u16 b0, .int .u16 b1, .int .u16 b2, .int .u16 b3, .int .u32 b4, .int .u32 b5, .int .u32 b6, .int .u32 b7, .int .u16 b8, .int .u16 b9, .int .u32 b10, .int .u32 b11, .string b12, .string b13, .string b14] 27))
  generalize w7.alloc (.cells #[.int .u16 b0, .int .u16 b1, .int .u16 b2, .int .u16 b3, .int .u32 b4, .int .u32 b5, .int .u32 b6, .int .u32 b7, .int .u16 b8, .int .u16 b9, .int .u32 b10, .int .u32 b11, .string b12, .string b13, .string b14] 27) = w8 at HA8 HB8 HD8 HK8 HL8 HW8 ⊢
  generalize w7.heap.size = gL at HL8 ⊢
  clear HA7 HB7 HD7 HK7 HW7
  go_upto_region 11 with (go_at_call 21; (with_reducible refine (header_ParseDescriptor.calls (z ++ behind) true d0 d1 d2 (z.size : Int) 0 _ Fp3.out).mono ?_); rintro e w9 ⟨rfl, hb⟩; have HA9 := Aside0.mk (blk_below HA8.out hb); have HB9 := Aside0.mk (blk_below HB8.out hb); have HD9 := Aside0.mk (blk_below HD8.out hb); have HK9 := Aside0.mk (blk_below HK8.out hb); have HL9 := Aside0.mk (blk_below HL8.out hb); have HW9 := Aside0.mk (below_step HW8.out hb); clear hb)
  clear HA8 HB8 HD8 HK8 HL8 HW8
  have HA10 := Aside0.mk (blk_alloc HA9.out (.cells #[.int .u32 d0, .int .u64 d1, .int .u64 d2] 30))
  have HB10 := Aside0.mk (blk_alloc HB9.out (.cells #[.int .u32 d0, .int .u64 d1, .int .u64 d2] 30))
  have HD10 := Aside0.mk (blk_alloc HD9.out (.cells #[.int .u32 d0, .int .u64 d1, .int .u64 d2] 30))
  have HK10 := Aside0.mk (blk_alloc HK9.out (.cells #[.int .u32 d0, .int .u64 d1, .int .u64 d2] 30))
  have HL10 := Aside0.mk (blk_alloc HL9.out (.cells #[.int .u32 d0, .int .u64 d1, .int .u64 d2] 30))
  have HG10 := Aside0.mk (heap_alloc_new w9 (.cells #[.int .u32 d0, .int .u64 d1, .int .u64 d2] 30))
  have HW10 := Aside0.mk (below_alloc HW9.out (.cells #[.int .u32 d0, .int .u64 d1, .int .u64 d2] 30))
  generalize w9.alloc (.cells #[.int .u32 d0, .int .u64 d1, .int .u64 d2] 30) = w10 at HA10 HB10 HD10 HK10 HL10 HG10 HW10 ⊢
  generalize w9.heap.size = gG at HG10 ⊢
  clear HA9 HB9 HD9 HK9 HL9 HW9
  have qA0 := blk_cell HA10.out 0
  have qA1 := blk_cell HA10.out 1
  have qA2 := blk_cell HA10.out 2
  have qA3 := blk_cell HA10.out 3
  have qA4 := blk_cell HA10.out 4
  have qA5 := blk_cell HA10.out 5
  have qA6 := blk_cell HA10.out 6
  have qA7 := blk_cell HA10.out 7
  have qA8 := blk_cell HA10.out 8
  have qB0 := blk_cell HB10.out 0
  have qB1 := blk_cell HB10.out 1
  have qB2 := blk_cell HB10.out 2
  have qB3 := blk_cell HB10.out 3
  have qB4 := blk_cell HB10.out 4
  have qB5 := blk_cell HB10.out 5
  have qB6 := blk_cell HB10.out 6
  have qB7 := blk_cell HB10.out 7
  have qB8 := blk_cell HB10.out 8
  have qB9 := blk_cell HB10.out 9
  have qB10 := blk_cell HB10.out 10
  have qB11 := blk_cell HB10.out 11
  have qB12 := blk_cell HB10.out 12
  have qB13 := blk_cell HB10.out 13
  have qB14 := blk_cell HB10.out 14
  have qD0 := blk_cell HD10.out 0
  have qD1 := blk_cell HD10.out 1
  have qD2 := blk_cell HD10.out 2
  have qK0 := blk_cell HK10.out 0
  have qK1 := blk_cell HK10.out 1
  have qK2 := blk_cell HK10.out 2
  have qK3 := blk_cell HK10.out 3
  have qK4 := blk_cell HK10.out 4
  have qK5 := blk_cell HK10.out 5
  have qK6 := blk_cell HK10.out 6
  have qK7 := blk_cell HK10.out 7
  have qK8 := blk_cell HK10.out 8
  have qL0 := blk_cell HL10.out 0
  have qL1 := blk_cell HL10.out 1
  have qL2 := blk_cell HL10.out 2
  have qL3 := blk_cell HL10.out 3
  have qL4 := blk_cell HL10.out 4
  have qL5 := blk_cell HL10.out 5
  have qL6 := blk_cell HL10.out 6
  have qL7 := blk_cell HL10.out 7
  have qL8 := blk_cell HL10.out 8
  have qL9 := blk_cell HL10.out 9
  have qL10 := blk_cell HL10.out 10
  have qL11 := blk_cell HL10.out 11
  have qL12 := blk_cell HL10.out 12
  have qL13 := blk_cell HL10.out 13
  have qL14 := blk_cell HL10.out 14
  have qG0 := blk_cell HG10.out 0
  have qG1 := blk_cell HG10.out 1
  have qG2 := blk_cell HG10.out 2
  simp only [List.getElem?_toArray, List.getElem?_cons_zero, List.getElem?_cons_succ] at qA0 qA1 qA2 qA3 qA4 qA5 qA6 qA7 qA8 qB0 qB1 qB2 qB3 qB4 qB5 qB6 qB7 qB8 qB9 qB10 qB11 qB12 qB13 qB14 qD0 qD1 qD2 qK0 qK1 qK2 qK3 qK4 qK5 qK6 qK7 qK8 qL0 qL1 qL2 qL3 qL4 qL5 qL6 qL7 qL8 qL9 qL10 qL11 qL12 qL13 qL14 qG0 qG1 qG2
  go_upto_region 13 with (fail)
  clear qA0 qA1 qA2 qA3 qA4 qA5 qA6 qA7 qA8 qB0 qB1 qB2 qB3 qB4 qB5 qB6 qB7 qB8 qB9 qB10 qB11 qB12 qB13 qB14 qD0 qD1 qD2 qK0 qK1 qK2 qK3 qK4 qK5 qK6 qK7 qK8 qL0 qL1 qL2 qL3 qL4 qL5 qL6 qL7 qL8 qL9 qL10 qL11 qL12 qL13 qL14 qG0 qG1 qG2 oxa oxb oya oyb oza ozb HA10 HB10 HD10 HK10 HL10 HG10
  have c0 : (0 : Int) ≤ (c : Int) := by omega
  have c1 : (c : Int) ≤ (x.size : Int) := by omega
  have xz : ((x.size : Int) == 0) = false := beq_eq_false_iff_ne.mpr (by omega)
  have xw : IntKind.u64.wrap (x.size : Int) = (x.size : Int) := u64_id (by omega) (by omega)
  have hcut := HCUT.out
  go_upto_region 14 with (go_at_call 17; (with_reducible refine (header_ParseLocal.calls (x.extract 0 c) 0 0 0 0 0 0 0 (⟨#[]⟩ : ByteArray) (⟨#[]⟩ : ByteArray) 0 3 _ Fp4.out).mono ?_); rintro e w11 ⟨rfl, hb⟩; have HW11 := Aside0.mk (below_step HW10.out hb); clear hb)
  clear HW10
  have HW12 := Aside0.mk (below_alloc HW11.out (.cells #[.int .u16 0, .int .u16 0, .int .u16 0, .int .u32 0, .int .u32 0, .int .u32 0, .int .u32 0, .string (⟨#[]⟩ : ByteArray), .string (⟨#[]⟩ : ByteArray)] 25))
  have HV12 := Aside0.mk (heap_alloc_new w11 (.cells #[.int .u16 0, .int .u16 0, .int .u16 0, .int .u32 0, .int .u32 0, .int .u32 0, .int .u32 0, .string (⟨#[]⟩ : ByteArray), .string (⟨#[]⟩ : ByteArray)] 25))
  generalize w11.alloc (.cells #[.int .u16 0, .int .u16 0, .int .u16 0, .int .u32 0, .int .u32 0, .int .u32 0, .int .u32 0, .string (⟨#[]⟩ : ByteArray), .string (⟨#[]⟩ : ByteArray)] 25) = w12 at HW12 HV12 ⊢
  generalize w11.heap.size = g12 at HV12 ⊢
  clear HW11
  clear HV12 c0 c1 xz xw hcut
  go_upto_region 17 with (go_at_call 17; (with_reducible refine (header_ParseLocal.calls s 0 0 0 0 0 0 0 (⟨#[]⟩ : ByteArray) (⟨#[]⟩ : ByteArray) 0 e5 _ Fp5.out).mono ?_); rintro e w13 ⟨rfl, hb⟩; have HW13 := Aside0.mk (below_step HW12.out hb); clear hb)
  clear HW12
  have HW14 := Aside0.mk (below_alloc HW13.out (.cells #[.int .u16 0, .int .u16 0, .int .u16 0, .int .u32 0, .int .u32 0, .int .u32 0, .int .u32 0, .string (⟨#[]⟩ : ByteArray), .string (⟨#[]⟩ : ByteArray)] 25))
  have HV14 := Aside0.mk (heap_alloc_new w13 (.cells #[.int .u16 0, .int .u16 0, .int .u16 0, .int .u32 0, .int .u32 0, .int .u32 0, .int .u32 0, .string (⟨#[]⟩ : ByteArray), .string (⟨#[]⟩ : ByteArray)] 25))
  generalize w13.alloc (.cells #[.int .u16 0, .int .u16 0, .int .u16 0, .int .u32 0, .int .u32 0, .int .u32 0, .int .u32 0, .string (⟨#[]⟩ : ByteArray), .string (⟨#[]⟩ : ByteArray)] 25) = w14 at HW14 HV14 ⊢
  generalize w13.heap.size = g14 at HV14 ⊢
  clear HW13
  clear HV14
  go_upto_region 21 with (fail)
  go_upto_region 22 with (go_at_call 20; (with_reducible refine (header_ParseCentral.calls s 0 0 0 0 0 0 0 0 0 0 0 0 (⟨#[]⟩ : ByteArray) (⟨#[]⟩ : ByteArray) (⟨#[]⟩ : ByteArray) 0 e6 _ Fp6.out).mono ?_); rintro e w15 ⟨rfl, hb⟩; have HW15 := Aside0.mk (below_step HW14.out hb); clear hb)
  clear HW14
  have HW16 := Aside0.mk (below_alloc HW15.out (.cells #[.int .u16 0, .int .u16 0, .int .u16 0, .int .u16 0, .int .u32 0, .int .u32 0, .int .u32 0, .int .u32 0, .int .u16 0, .int .u16 0, .int .u32 0, .int .u32 0, .string (⟨#[]⟩ : ByteArray), .string (⟨#[]⟩ : ByteArray), .string (⟨#[]⟩ : ByteArray)] 27))
  have HV16 := Aside0.mk (heap_alloc_new w15 (.cells #[.int .u16 0, .int .u16 0, .int .u16 0, .int .u16 0, .int .u32 0, .int .u32 0, .int .u32 0, .int .u32 0, .int .u16 0, .int .u16 0, .int .u32 0, .int .u32 0, .string (⟨#[]⟩ : ByteArray), .string (⟨#[]⟩ : ByteArray), .string (⟨#[]⟩ : ByteArray)] 27))
  generalize w15.alloc (.cells #[.int .u16 0, .int .u16 0, .int .u16 0, .int .u16 0, .int .u32 0, .int .u32 0, .int .u32 0, .int .u32 0, .int .u16 0, .int .u16 0, .int .u32 0, .int .u32 0, .string (⟨#[]⟩ : ByteArray), .string (⟨#[]⟩ : ByteArray), .string (⟨#[]⟩ : ByteArray)] 27) = w16 at HW16 HV16 ⊢
  generalize w15.heap.size = g16 at HV16 ⊢
  clear HW15
  clear HV16
  go_wp2
  go_ret
  exact ⟨rfl, HW16.out⟩
end Go.Proofs.Ytnjfddmajiihjaa.Hp
namespace Go.Proofs.Ytnjfddmajiihjaa.Hp
set_option linter.unusedVariables false
set_option linter.unusedSimpArgs false
open Go Go.RowKit Go.Proofs.Ytnjfddmajiihjaa.P Go.Proofs.Ytnjfddmajiihjaa.B Go.Proofs.Ytnjfddmajiihjaa.D17 Go.Proofs.YtnjfddmajiihjaaW.PrintWords Go.Proofs.YtnjfddmajiihjaaW.PrintLast Go.Proofs.YtnjfddmajiihjaaW.PrintMore
attribute [local go_sem] max2_int Go.Proofs.Ytnjfddmajiihjaa.Mx.max_seven
set_option maxHeartbeats 16000000 in
set_option maxRecDepth 100000 in
theorem back_w1 (a0 : Int) (a1 : Int) (a2 : Int) (a3 : Int) (a4 : Int) (a5 : Int) (a6 : Int) (a7 : ByteArray) (a8 : ByteArray) (b0 : Int) (b1 : Int) (b2 : Int) (b3 : Int) (b4 : Int) (b5 : Int) (b6 : Int) (b7 : Int) (b8 : Int) (b9 : Int) (b10 : Int) (b11 : Int) (b12 : ByteArray) (b13 : ByteArray) (b14 : ByteArray) (d0 : Int) (d1 : Int) (d2 : Int) (behind s : ByteArray) (cut : Int) (w : World) (x y z : ByteArray) (c : Nat)
    (hsz : a7.size ≤ 3000 ∧ a8.size ≤ 3000 ∧ b12.size ≤ 3000 ∧ b13.size ≤ 3000 ∧ b14.size ≤ 3000 ∧ behind.size ≤ 3000 ∧ s.size ≤ 3000) (hxs : 30 ≤ x.size ∧ x.size ≤ 20000) (hys : y.size ≤ 20000) (hzs : z.size ≤ 20000)
    (fx : header_PrintLocal.f 200 a0 a1 a2 a3 a4 a5 a6 a7 a8 = some (x, 0)) (fy : header_PrintCentral.f 200 b0 b1 b2 b3 b4 b5 b6 b7 b8 b9 b10 b11 b12 b13 b14 = some (y, 0)) (fz : header_PrintDescriptor.f 200 d0 d1 d2 true = some z)
    (p1 : header_ParseLocal.f (x ++ behind) = some (a0, a1, a2, a3, a4, a5, a6, a7, a8, (x.size : Int), 0)) (p2 : header_ParseCentral.f (y ++ behind) = some (b0, b1, b2, b3, b4, b5, b6, b7, b8, b9, b10, b11, b12, b13, b14, (y.size : Int), 0)) (p3 : header_ParseDescriptor.f (z ++ behind) true = some (d0, d1, d2, (z.size : Int), 0))
    (hc : c < x.size) (hcut : Int.tmod (IntKind.u64.wrap cut) (x.size : Int) = (c : Int)) (p4 : header_ParseLocal.f (x.extract 0 c) = some (0, 0, 0, 0, 0, 0, 0, (⟨#[]⟩ : ByteArray), (⟨#[]⟩ : ByteArray), 0, 3))
    (u0 : Int) (u1 : Int) (u2 : Int) (u3 : Int) (u4 : Int) (u5 : Int) (u6 : Int) (u7 : ByteArray) (u8 : ByteArray) (n : Nat) (p5 : header_ParseLocal.f s = some (u0, u1, u2, u3, u4, u5, u6, u7, u8, (n : Int), 0)) (hn : n ≤ s.size) (r5 : header_PrintLocal.f 200 u0 u1 u2 u3 u4 u5 u6 u7 u8 = some (s.extract 0 n, 0))
    (e6 : Int) (he6 : e6 ≠ 0) (p6 : header_ParseCentral.f s = some (0, 0, 0, 0, 0, 0, 0, 0, 0, 0, 0, 0, (⟨#[]⟩ : ByteArray), (⟨#[]⟩ : ByteArray), (⟨#[]⟩ : ByteArray), 0, e6)) :
    Calls Try.prog 5 #[.agg #[.int .u16 a0, .int .u16 a1, .int .u16 a2, .int .u32 a3, .int .u32 a4, .int .u32 a5, .int .u32 a6, .string a7, .string a8], .agg #[.int .u16 b0, .int .u16 b1, .int .u16 b2, .int .u16 b3, .int .u32 b4, .int .u32 b5, .int .u32 b6, .int .u32 b7, .int .u16 b8, .int .u16 b9, .int .u32 b10, .int .u32 b11, .string b12, .string b13, .string b14], .agg #[.int .u32 d0, .int .u64 d1, .int .u64 d2], .string behind, .string s, .int .i64 cut] w fun e w' => e = .returned (.bool true) ∧ Below w.heap.size w w' := by
  have Ffx := Aside0.mk fx
  have Ffy := Aside0.mk fy
  have Ffz := Aside0.mk fz
  have Fp1 := Aside0.mk p1
  have Fp2 := Aside0.mk p2
  have Fp3 := Aside0.mk p3
  have Fp4 := Aside0.mk p4
  have Fp5 := Aside0.mk p5
  have Fp6 := Aside0.mk p6
  have Fr5 := Aside0.mk r5
  have HCUT := Aside0.mk hcut
  have k6a : (e6 == 0) = false := by simp [he6]
  have HSZ := Aside0.mk hsz
  have hu1 := Try.underlying25
  have hu2 := Try.underlying27
  have hu3 := Try.underlying30
  clear fx fy fz p1 p2 p3 p4 p5 p6 r5 hcut hsz he6
  obtain ⟨j8, hj8⟩ : ∃ j_ : Int, (if (a7.size : Int) < (a8.size : Int) then (a8.size : Int) else (a7.size : Int)) = j_ := ⟨_, rfl⟩
  have hj8n : (if a7.size < a8.size then (a8.size : Int) else (a7.size : Int)) = j8 := by
    rw [← hj8]
    by_cases q : a7.size < a8.size
    · rw [if_pos q, if_pos (by omega)]
    · rw [if_neg q, if_neg (by omega)]
  obtain ⟨j9, hj9⟩ : ∃ j_ : Int, (if j8 < (b12.size : Int) then (b12.size : Int) else j8) = j_ := ⟨_, rfl⟩
  obtain ⟨j10, hj10⟩ : ∃ j_ : Int, (if j9 < (b13.size : Int) then (b13.size : Int) else j9) = j_ := ⟨_, rfl⟩
  obtain ⟨j11, hj11⟩ : ∃ j_ : Int, (if j10 < (b14.size : Int) then (b14.size : Int) else j10) = j_ := ⟨_, rfl⟩
  obtain ⟨j12, hj12⟩ : ∃ j_ : Int, (if j11 < (behind.size : Int) then (behind.size : Int) else j11) = j_ := ⟨_, rfl⟩
  obtain ⟨j13, hj13⟩ : ∃ j_ : Int, (if j12 < (s.size : Int) then (s.size : Int) else j12) = j_ := ⟨_, rfl⟩
  have HA0 := Aside0.mk (blk_alloc (blk_alloc (heap_alloc_new w (.cells #[.int .u16 a0, .int .u16 a1, .int .u16 a2, .int .u32 a3, .int .u32 a4, .int .u32 a5, .int .u32 a6, .string a7, .string a8] 25)) (.cells #[.int .u16 b0, .int .u16 b1, .int .u16 b2, .int .u16 b3, .int .u32 b4, .int .u32 b5, .int .u32 b6, .int .u32 b7, .int .u16 b8, .int .u16 b9, .int .u32 b10, .int .u32 b11, .string b12, .string b13, .string b14] 27)) (.cells #[.int .u32 d0, .int .u64 d1, .int .u64 d2] 30))
  have HB0 := Aside0.mk (blk_alloc (heap_alloc_new (w.alloc (.cells #[.int .u16 a0, .int .u16 a1, .int .u16 a2, .int .u32 a3, .int .u32 a4, .int .u32 a5, .int .u32 a6, .string a7, .string a8] 25)) (.cells #[.int .u16 b0, .int .u16 b1, .int .u16 b2, .int .u16 b3, .int .u32 b4, .int .u32 b5, .int .u32 b6, .int .u32 b7, .int .u16 b8, .int .u16 b9, .int .u32 b10, .int .u32 b11, .string b12, .string b13, .string b14] 27)) (.cells #[.int .u32 d0, .int .u64 d1, .int .u64 d2] 30))
  have HD0 := Aside0.mk (heap_alloc_new ((w.alloc (.cells #[.int .u16 a0, .int .u16 a1, .int .u16 a2, .int .u32 a3, .int .u32 a4, .int .u32 a5, .int .u32 a6, .string a7, .string a8] 25)).alloc (.cells #[.int .u16 b0, .int .u16 b1, .int .u16 b2, .int .u16 b3, .int .u32 b4, .int .u32 b5, .int .u32 b6, .int .u32 b7, .int .u16 b8, .int .u16 b9, .int .u32 b10, .int .u32 b11, .string b12, .string b13, .string b14] 27)) (.cells #[.int .u32 d0, .int .u64 d1, .int .u64 d2] 30))
  have HW0 := Aside0.mk (below_alloc (below_alloc (below_alloc (Below.refl w.heap.size w) (.cells #[.int .u16 a0, .int .u16 a1, .int .u16 a2, .int .u32 a3, .int .u32 a4, .int .u32 a5, .int .u32 a6, .string a7, .string a8] 25)) (.cells #[.int .u16 b0, .int .u16 b1, .int .u16 b2, .int .u16 b3, .int .u32 b4, .int .u32 b5, .int .u32 b6, .int .u32 b7, .int .u16 b8, .int .u16 b9, .int .u32 b10, .int .u32 b11, .string b12, .string b13, .string b14] 27)) (.cells #[.int .u32 d0, .int .u64 d1, .int .u64 d2] 30))
  have hs1 : (w.alloc (.cells #[.int .u16 a0, .int .u16 a1, .int .u16 a2, .int .u32 a3, .int .u32 a4, .int .u32 a5, .int .u32 a6, .string a7, .string a8] 25)).heap.size = w.heap.size + 1 := by simp
  have hs2 : ((w.alloc (.cells #[.int .u16 a0, .int .u16 a1, .int .u16 a2, .int .u32 a3, .int .u32 a4, .int .u32 a5, .int .u32 a6, .string a7, .string a8] 25)).alloc (.cells #[.int .u16 b0, .int .u16 b1, .int .u16 b2, .int .u16 b3, .int .u32 b4, .int .u32 b5, .int .u32 b6, .int .u32 b7, .int .u16 b8, .int .u16 b9, .int .u32 b10, .int .u32 b11, .string b12, .string b13, .string b14] 27)).heap.size = w.heap.size + 1 + 1 := by simp
  rw [hs1] at HB0
  rw [hs2] at HD0
  clear hs1 hs2
  go_enter Try.func5, Try.ntmps5
  go_upto_region 1 with (fail)
  generalize hW : ((w.alloc (.cells #[.int .u16 a0, .int .u16 a1, .int .u16 a2, .int .u32 a3, .int .u32 a4, .int .u32 a5, .int .u32 a6, .string a7, .string a8] 25)).alloc (.cells #[.int .u16 b0, .int .u16 b1, .int .u16 b2, .int .u16 b3, .int .u32 b4, .int .u32 b5, .int .u32 b6, .int .u32 b7, .int .u16 b8, .int .u16 b9, .int .u32 b10, .int .u32 b11, .string b12, .string b13, .string b14] 27)).alloc (.cells #[.int .u32 d0, .int .u64 d1, .int .u64 d2] 30) = wa at HA0 HB0 HD0 HW0 ⊢
  obtain ⟨gA, hgA⟩ : ∃ g, w.heap.size = g := ⟨_, rfl⟩
  obtain ⟨gB, hgB⟩ : ∃ g, w.heap.size + 1 = g := ⟨_, rfl⟩
  obtain ⟨gD, hgD⟩ : ∃ g, w.heap.size + 1 + 1 = g := ⟨_, rfl⟩
  rw [hgD] at HD0 ⊢
  rw [hgB] at HB0 ⊢
  rw [hgA] at HA0 ⊢
  clear hW hgA hgB hgD
  go_upto_region 3 with (go_at_call 6; refine (portmanteaulaw17_awake.calls 200 _ _ awake_true).mono ?_; rintro e w1 ⟨rfl, hb⟩; have HA1 := Aside0.mk (blk_below HA0.out hb); have HB1 := Aside0.mk (blk_below HB0.out hb); have HD1 := Aside0.mk (blk_below HD0.out hb); have HW1 := Aside0.mk (below_step HW0.out hb); clear hb)
  clear HA0 HB0 HD0 HW0
  have m0 := blk_cell HA1.out 7
  have m1 := blk_cell HA1.out 8
  have m2 := blk_cell HB1.out 12
  have m3 := blk_cell HB1.out 13
  have m4 := blk_cell HB1.out 14
  have hdb : decide (3000 < j13) = false := decide_eq_false (by
    have := HSZ.out
    rw [← hj13, ← hj12, ← hj11, ← hj10, ← hj9, ← hj8]
    (repeat' split) <;> omega)
  go_upto_region 5 with (fail)
  clear hdb hj8 hj8n hj9 hj10 hj11 hj12 hj13 m0 m1 m2 m3 m4
  have oxa := eq_true (show x.size + behind.size ≤ 9223372036854775807 by have := HSZ.out; omega)
  have oxb : (9223372036854775807 < x.size + behind.size) = False := eq_false (by have := HSZ.out; omega)
  have oya := eq_true (show y.size + behind.size ≤ 9223372036854775807 by have := HSZ.out; omega)
  have oyb : (9223372036854775807 < y.size + behind.size) = False := eq_false (by have := HSZ.out; omega)
  have oza := eq_true (show z.size + behind.size ≤ 9223372036854775807 by have := HSZ.out; omega)
  have ozb : (9223372036854775807 < z.size + behind.size) = False := eq_false (by have := HSZ.out; omega)
  have qA0 := blk_cell HA1.out 0
  have qA1 := blk_cell HA1.out 1
  have qA2 := blk_cell HA1.out 2
  have qA3 := blk_cell HA1.out 3
  have qA4 := blk_cell HA1.out 4
  have qA5 := blk_cell HA1.out 5
  have qA6 := blk_cell HA1.out 6
  have qA7 := blk_cell HA1.out 7
  have qA8 := blk_cell HA1.out 8
  simp only [List.getElem?_toArray, List.getElem?_cons_zero, List.getElem?_cons_succ] at qA0 qA1 qA2 qA3 qA4 qA5 qA6 qA7 qA8
  go_upto_region 6 with (go_at_call 7; (with_reducible refine (header_PrintLocal.calls 200 a0 a1 a2 a3 a4 a5 a6 a7 a8 x 0 _ Ffx.out).mono ?_); rintro e w2 ⟨rfl, hb⟩; have HA2 := Aside0.mk (blk_below HA1.out hb); have HB2 := Aside0.mk (blk_below HB1.out hb); have HD2 := Aside0.mk (blk_below HD1.out hb); have HW2 := Aside0.mk (below_step HW1.out hb); clear hb)
  clear HA1 HB1 HD1 HW1 qA0 qA1 qA2 qA3 qA4 qA5 qA6 qA7 qA8
  have qB0 := blk_cell HB2.out 0
  have qB1 := blk_cell HB2.out 1
  have qB2 := blk_cell HB2.out 2
  have qB3 := blk_cell HB2.out 3
  have qB4 := blk_cell HB2.out 4
  have qB5 := blk_cell HB2.out 5
  have qB6 := blk_cell HB2.out 6
  have qB7 := blk_cell HB2.out 7
  have qB8 := blk_cell HB2.out 8
  have qB9 := blk_cell HB2.out 9
  have qB10 := blk_cell HB2.out 10
  have qB11 := blk_cell HB2.out 11
  have qB12 := blk_cell HB2.out 12
  have qB13 := blk_cell HB2.out 13
  have qB14 := blk_cell HB2.out 14
  simp only [List.getElem?_toArray, List.getElem?_cons_zero, List.getElem?_cons_succ] at qB0 qB1 qB2 qB3 qB4 qB5 qB6 qB7 qB8 qB9 qB10 qB11 qB12 qB13 qB14
  go_upto_region 7 with (go_at_call 8; (with_reducible refine (header_PrintCentral.calls 200 b0 b1 b2 b3 b4 b5 b6 b7 b8 b9 b10 b11 b12 b13 b14 y 0 _ Ffy.out).mono ?_); rintro e w3 ⟨rfl, hb⟩; have HA3 := Aside0.mk (blk_below HA2.out hb); have HB3 := Aside0.mk (blk_below HB2.out hb); have HD3 := Aside0.mk (blk_below HD2.out hb); have HW3 := Aside0.mk (below_step HW2.out hb); clear hb)
  clear HA2 HB2 HD2 HW2 qB0 qB1 qB2 qB3 qB4 qB5 qB6 qB7 qB8 qB9 qB10 qB11 qB12 qB13 qB14
  have qD0 := blk_cell HD3.out 0
  have qD1 := blk_cell HD3.out 1
  have qD2 := blk_cell HD3.out 2
  simp only [List.getElem?_toArray, List.getElem?_cons_zero, List.getElem?_cons_succ] at qD0 qD1 qD2
  go_upto_region 8 with (go_at_call 14; (with_reducible refine (header_PrintDescriptor.calls 200 d0 d1 d2 true z _ Ffz.out).mono ?_); rintro e w4 ⟨rfl, hb⟩; have HA4 := Aside0.mk (blk_below HA3.out hb); have HB4 := Aside0.mk (blk_below HB3.out hb); have HD4 := Aside0.mk (blk_below HD3.out hb); have HW4 := Aside0.mk (below_step HW3.out hb); clear hb)
  clear HA3 HB3 HD3 HW3 qD0 qD1 qD2
  go_upto_region 9 with (go_at_call 17; (with_reducible refine (header_ParseLocal.calls (x ++ behind) a0 a1 a2 a3 a4 a5 a6 a7 a8 (x.size : Int) 0 _ Fp1.out).mono ?_); rintro e w5 ⟨rfl, hb⟩; have HA5 := Aside0.mk (blk_below HA4.out hb); have HB5 := Aside0.mk (blk_below HB4.out hb); have HD5 := Aside0.mk (blk_below HD4.out hb); have HW5 := Aside0.mk (below_step HW4.out hb); clear hb)
  clear HA4 HB4 HD4 HW4
  have HA6 := Aside0.mk (blk_alloc HA5.out (.cells #[.int .u16 a0, .int .u16 a1, .int .u16 a2, .int .u32 a3, .int .u32 a4, .int .u32 a5, .int .u32 a6, .string a7, .string a8] 25))
  have HB6 := Aside0.mk (blk_alloc HB5.out (.cells #[.int .u16 a0, .int .u16 a1, .int .u16 a2, .int .u32 a3, .int .u32 a4, .int .u32 a5, .int .u32 a6, .string a7, .string a8] 25))
  have HD6 := Aside0.mk (blk_alloc HD5.out (.cells #[.int .u16 a0, .int .u16 a1, .int .u16 a2, .int .u32 a3, .int .u32 a4, .int .u32 a5, .int .u32 a6, .string a7, .string a8] 25))
  have HK6 := Aside0.mk (heap_alloc_new w5 (.cells #[.int .u16 a0, .int .u16 a1, .int .u16 a2, .int .u32 a3, .int .u32 a4, .int .u32 a5, .int .u32 a6, .string a7, .string a8] 25))
  have HW6 := Aside0.mk (below_alloc HW5.out (.cells #[.int .u16 a0, .int .u16 a1, .int .u16 a2, .int .u32 a3, .int .u32 a4, .int .u32 a5, .int .u32 a6, .string a7, .string a8] 25))
  generalize w5.alloc (.cells #[.int .u16 a0, .int .u16 a1, .int .u16 a2, .int .u32 a3, .int .u32 a4, .int .u32 a5, .int .u32 a6, .string a7, .string a8] 25) = w6 at HA6 HB6 HD6 HK6 HW6 ⊢
  generalize w5.heap.size = gK at HK6 ⊢
  clear HA5 HB5 HD5 HW5
  go_upto_region 10 with (go_at_call 20; (with_reducible refine (header_ParseCentral.calls (y ++ behind) b0 b1 b2 b3 b4 b5 b6 b7 b8 b9 b10 b11 b12 b13 b14 (y.size : Int) 0 _ Fp2.out).mono ?_); rintro e w7 ⟨rfl, hb⟩; have HA7 := Aside0.mk (blk_below HA6.out hb); have HB7 := Aside0.mk (blk_below HB6.out hb); have HD7 := Aside0.mk (blk_below HD6.out hb); have HK7 := Aside0.mk (blk_below HK6.out hb); have HW7 := Aside0.mk (below_step HW6.out hb); clear hb)
  clear HA6 HB6 HD6 HK6 HW6
  have HA8 := Aside0.mk (blk_alloc HA7.out (.cells #[.int .u16 b0, .int .u16 b1, .int .u16 b2, .int .u16 b3, .int .u32 b4, .int .u32 b5, .int .u32 b6, .int .u32 b7, .int .u16 b8, .int .u16 b9, .int .u32 b10, .int .u32 b11, .string b12, .string b13, .string b14] 27))
  have HB8 := Aside0.mk (blk_alloc HB7.out (.cells #[.int .u16 b0, .int .u16 b1, .int .u16 b2, .int .u16 b3, .int .u32 b4, .int .u32 b5, .int .u32 b6, .int .u32 b7, .int .u16 b8, .int .u16 b9, .int .u32 b10, .int .u32 b11, .string b12, .string b13, .string b14] 27))
  have HD8 := Aside0.mk (blk_alloc HD7.out (.cells #[.int .u16 b0, .int .u16 b1, .int .u16 b2, .int .u16 b3, .int .u32 b4, .int .u32 b5, .int .u32 b6, .int .u32 b7, .int .u16 b8, .int .u16 b9, .int .u32 b10, .int .u32 b11, .string b12, .string b13, .string b14] 27))
  have HK8 := Aside0.mk (blk_alloc HK7.out (.cells #[.int .u16 b0, .int .u16 b1, .int .u16 b2, .int .u16 b3, .int .u32 b4, .int .u32 b5, .int .u32 b6, .int .u32 b7, .int .u16 b8, .int .u16 b9, .int .u32 b10, .int .u32 b11, .string b12, .string b13, .string b14] 27))
  have HL8 := Aside0.mk (heap_alloc_new w7 (.cells #[.int .u16 b0, .int .u16 b1, .int .u16 b2, .int .u16 b3, .int .u32 b4, .int .u32 b5, .int .u32 b6, .int .u32 b7, .int .u16 b8, .int .u16 b9, .int .u32 b10, .int .u32 b11, .string b12, .string b13, .string b14] 27))
  have HW8 := Aside0.mk (below_alloc HW7.out (.cells #[.int .u16 b0, .int .u16 b1, .int .u16 b2, .int .u16 b3, .int .u32 b4, .int .u32 b5, .int .u32 b6, .int .u32 b7, .int .u16 b8, .int .u16 b9, .int .u32 b10, .int .u32 b11, .string b12, .string b13, .string b14] 27))
  generalize w7.alloc (.cells #[.int .u16 b0, .int .u16 b1, .int .u16 b2, .int .u16 b3, .int .u32 b4, .int .u32 b5, .int .u32 b6, .int .u32 b7, .int .u16 b8, .int .u16 b9, .int .u32 b10, .int .u32 b11, .string b12, .string b13, .string b14] 27) = w8 at HA8 HB8 HD8 HK8 HL8 HW8 ⊢
  generalize w7.heap.size = gL at HL8 ⊢
  clear HA7 HB7 HD7 HK7 HW7
  go_upto_region 11 with (go_at_call 21; (with_reducible refine (header_ParseDescriptor.calls (z ++ behind) true d0 d1 d2 (z.size : Int) 0 _ Fp3.out).mono ?_); rintro e w9 ⟨rfl, hb⟩; have HA9 := Aside0.mk (blk_below HA8.out hb); have HB9 := Aside0.mk (blk_below HB8.out hb); have HD9 := Aside0.mk (blk_below HD8.out hb); have HK9 := Aside0.mk (blk_below HK8.out hb); have HL9 := Aside0.mk (blk_below HL8.out hb); have HW9 := Aside0.mk (below_step HW8.out hb); clear hb)
  clear HA8 HB8 HD8 HK8 HL8 HW8
  have HA10 := Aside0.mk (blk_alloc HA9.out (.cells #[.int .u32 d0, .int .u64 d1, .int .u64 d2] 30))
  have HB10 := Aside0.mk (blk_alloc HB9.out (.cells #[.int .u32 d0, .int .u64 d1, .int .u64 d2] 30))
  have HD10 := Aside0.mk (blk_alloc HD9.out (.cells #[.int .u32 d0, .int .u64 d1, .int .u64 d2] 30))
  have HK10 := Aside0.mk (blk_alloc HK9.out (.cells #[.int .u32 d0, .int .u64 d1, .int .u64 d2] 30))
  have HL10 := Aside0.mk (blk_alloc HL9.out (.cells #[.int .u32 d0, .int .u64 d1, .int .u64 d2] 30))
  have HG10 := Aside0.mk (heap_alloc_new w9 (.cells #[.int .u32 d0, .int .u64 d1, .int .u64 d2] 30))
  have HW10 := Aside0.mk (below_alloc HW9.out (.cells #[.int .u32 d0, .int .u64 d1, .int .u64 d2] 30))
  generalize w9.alloc (.cells #[.int .u32 d0, .int .u64 d1, .int .u64 d2] 30) = w10 at HA10 HB10 HD10 HK10 HL10 HG10 HW10 ⊢
  generalize w9.heap.size = gG at HG10 ⊢
  clear HA9 HB9 HD9 HK9 HL9 HW9
  have qA0 := blk_cell HA10.out 0
  have qA1 := blk_cell HA10.out 1
  have qA2 := blk_cell HA10.out 2
  have qA3 := blk_cell HA10.out 3
  have qA4 := blk_cell HA10.out 4
  have qA5 := blk_cell HA10.out 5
  have qA6 := blk_cell HA10.out 6
  have qA7 := blk_cell HA10.out 7
  have qA8 := blk_cell HA10.out 8
  have qB0 := blk_cell HB10.out 0
  have qB1 := blk_cell HB10.out 1
  have qB2 := blk_cell HB10.out 2
  have qB3 := blk_cell HB10.out 3
  have qB4 := blk_cell HB10.out 4
  have qB5 := blk_cell HB10.out 5
  have qB6 := blk_cell HB10.out 6
  have qB7 := blk_cell HB10.out 7
  have qB8 := blk_cell HB10.out 8
  have qB9 := blk_cell HB10.out 9
  have qB10 := blk_cell HB10.out 10
  have qB11 := blk_cell HB10.out 11
  have qB12 := blk_cell HB10.out 12
  have qB13 := blk_cell HB10.out 13
  have qB14 := blk_cell HB10.out 14
  have qD0 := blk_cell HD10.out 0
  have qD1 := blk_cell HD10.out 1
  have qD2 := blk_cell HD10.out 2
  have qK0 := blk_cell HK10.out 0
  have qK1 := blk_cell HK10.out 1
  have qK2 := blk_cell HK10.out 2
  have qK3 := blk_cell HK10.out 3
  have qK4 := blk_cell HK10.out 4
  have qK5 := blk_cell HK10.out 5
  have qK6 := blk_cell HK10.out 6
  have qK7 := blk_cell HK10.out 7
  have qK8 := blk_cell HK10.out 8
  have qL0 := blk_cell HL10.out 0
  have qL1 := blk_cell HL10.out 1
  have qL2 := blk_cell HL10.out 2
  have qL3 := blk_cell HL10.out 3
  have qL4 := blk_cell HL10.out 4
  have qL5 := blk_cell HL10.out 5
  have qL6 := blk_cell HL10.out 6
  have qL7 := blk_cell HL10.out 7
  have qL8 := blk_cell HL10.out 8
  have qL9 := blk_cell HL10.out 9
  have qL10 := blk_cell HL10.out 10
  have qL11 := blk_cell HL10.out 11
  have qL12 := blk_cell HL10.out 12
  have qL13 := blk_cell HL10.out 13
  have qL14 := blk_cell HL10.out 14
  have qG0 := blk_cell HG10.out 0
  have qG1 := blk_cell HG10.out 1
  have qG2 := blk_cell HG10.out 2
  simp only [List.getElem?_toArray, List.getElem?_cons_zero, List.getElem?_cons_succ] at qA0 qA1 qA2 qA3 qA4 qA5 qA6 qA7 qA8 qB0 qB1 qB2 qB3 qB4 qB5 qB6 qB7 qB8 qB9 qB10 qB11 qB12 qB13 qB14 qD0 qD1 qD2 qK0 qK1 qK2 qK3 qK4 qK5 qK6 qK7 qK8 qL0 qL1 qL2 qL3 qL4 qL5 qL6 qL7 qL8 qL9 qL10 qL11 qL12 qL13 qL14 qG0 qG1 qG2
  go_upto_region 13 with (fail)
  clear qA0 qA1 qA2 qA3 qA4 qA5 qA6 qA7 qA8 qB0 qB1 qB2 qB3 qB4 qB5 qB6 qB7 qB8 qB9 qB10 qB11 qB12 qB13 qB14 qD0 qD1 qD2 qK0 qK1 qK2 qK3 qK4 qK5 qK6 qK7 qK8 qL0 qL1 qL2 qL3 qL4 qL5 qL6 qL7 qL8 qL9 qL10 qL11 qL12 qL13 qL14 qG0 qG1 qG2 oxa oxb oya oyb oza ozb HA10 HB10 HD10 HK10 HL10 HG10
  have c0 : (0 : Int) ≤ (c : Int) := by omega
  have c1 : (c : Int) ≤ (x.size : Int) := by omega
  have xz : ((x.size : Int) == 0) = false := beq_eq_false_iff_ne.mpr (by omega)
  have xw : IntKind.u64.wrap (x.size : Int) = (x.size : Int) := u64_id (by omega) (by omega)
  have hcut := HCUT.out
  go_upto_region 14 with (go_at_call 17; (with_reducible refine (header_ParseLocal.calls (x.extract 0 c) 0 0 0 0 0 0 0 (⟨#[]⟩ : ByteArray) (⟨#[]⟩ : ByteArray) 0 3 _ Fp4.out).mono ?_); rintro e w11 ⟨rfl, hb⟩; have HW11 := Aside0.mk (below_step HW10.out hb); clear hb)
  clear HW10
  have HW12 := Aside0.mk (below_alloc HW11.out (.cells #[.int .u16 0, .int .u16 0, .int .u16 0, .int .u32 0, .int .u32 0, .int .u32 0, .int .u32 0, .string (⟨#[]⟩ : ByteArray), .string (⟨#[]⟩ : ByteArray)] 25))
  have HV12 := Aside0.mk (heap_alloc_new w11 (.cells #[.int .u16 0, .int .u16 0, .int .u16 0, .int .u32 0, .int .u32 0, .int .u32 0, .int .u32 0, .string (⟨#[]⟩ : ByteArray), .string (⟨#[]⟩ : ByteArray)] 25))
  generalize w11.alloc (.cells #[.int .u16 0, .int .u16 0, .int .u16 0, .int .u32 0, .int .u32 0, .int .u32 0, .int .u32 0, .string (⟨#[]⟩ : ByteArray), .string (⟨#[]⟩ : ByteArray)] 25) = w12 at HW12 HV12 ⊢
  generalize w11.heap.size = g12 at HV12 ⊢
  clear HW11
  clear HV12 c0 c1 xz xw hcut
  go_upto_region 17 with (go_at_call 17; (with_reducible refine (header_ParseLocal.calls s u0 u1 u2 u3 u4 u5 u6 u7 u8 (n : Int) 0 _ Fp5.out).mono ?_); rintro e w13 ⟨rfl, hb⟩; have HW13 := Aside0.mk (below_step HW12.out hb); clear hb)
  clear HW12
  have HW14 := Aside0.mk (below_alloc HW13.out (.cells #[.int .u16 u0, .int .u16 u1, .int .u16 u2, .int .u32 u3, .int .u32 u4, .int .u32 u5, .int .u32 u6, .string u7, .string u8] 25))
  have HV14 := Aside0.mk (heap_alloc_new w13 (.cells #[.int .u16 u0, .int .u16 u1, .int .u16 u2, .int .u32 u3, .int .u32 u4, .int .u32 u5, .int .u32 u6, .string u7, .string u8] 25))
  generalize w13.alloc (.cells #[.int .u16 u0, .int .u16 u1, .int .u16 u2, .int .u32 u3, .int .u32 u4, .int .u32 u5, .int .u32 u6, .string u7, .string u8] 25) = w14 at HW14 HV14 ⊢
  generalize w13.heap.size = g14 at HV14 ⊢
  clear HW13
  have y0 := blk_cell HV14.out 0
  have y1 := blk_cell HV14.out 1
  have y2 := blk_cell HV14.out 2
  have y3 := blk_cell HV14.out 3
  have y4 := blk_cell HV14.out 4
  have y5 := blk_cell HV14.out 5
  have y6 := blk_cell HV14.out 6
  have y7 := blk_cell HV14.out 7
  have y8 := blk_cell HV14.out 8
  simp only [List.getElem?_toArray, List.getElem?_cons_zero, List.getElem?_cons_succ] at y0 y1 y2 y3 y4 y5 y6 y7 y8
  go_upto_region 19 with (go_at_call 7; (with_reducible refine (header_PrintLocal.calls 200 u0 u1 u2 u3 u4 u5 u6 u7 u8 (s.extract 0 n) 0 _ Fr5.out).mono ?_); rintro e w15 ⟨rfl, hb⟩; have HW15 := Aside0.mk (below_step HW14.out hb); clear hb)
  clear HW14
  clear y0 y1 y2 y3 y4 y5 y6 y7 y8
  have n0 : (0 : Int) ≤ (n : Int) := by omega
  have n1 : (n : Int) ≤ (s.size : Int) := by omega
  go_upto_region 21 with (fail)
  clear n0 n1
  go_upto_region 22 with (go_at_call 20; (with_reducible refine (header_ParseCentral.calls s 0 0 0 0 0 0 0 0 0 0 0 0 (⟨#[]⟩ : ByteArray) (⟨#[]⟩ : ByteArray) (⟨#[]⟩ : ByteArray) 0 e6 _ Fp6.out).mono ?_); rintro e w16 ⟨rfl, hb⟩; have HW16 := Aside0.mk (below_step HW15.out hb); clear hb)
  clear HW15
  have HW17 := Aside0.mk (below_alloc HW16.out (.cells #[.int .u16 0, .int .u16 0, .int .u16 0, .int .u16 0, .int .u32 0, .int .u32 0, .int .u32 0, .int .u32 0, .int .u16 0, .int .u16 0, .int .u32 0, .int .u32 0, .string (⟨#[]⟩ : ByteArray), .string (⟨#[]⟩ : ByteArray), .string (⟨#[]⟩ : ByteArray)] 27))
  have HV17 := Aside0.mk (heap_alloc_new w16 (.cells #[.int .u16 0, .int .u16 0, .int .u16 0, .int .u16 0, .int .u32 0, .int .u32 0, .int .u32 0, .int .u32 0, .int .u16 0, .int .u16 0, .int .u32 0, .int .u32 0, .string (⟨#[]⟩ : ByteArray), .string (⟨#[]⟩ : ByteArray), .string (⟨#[]⟩ : ByteArray)] 27))
  generalize w16.alloc (.cells #[.int .u16 0, .int .u16 0, .int .u16 0, .int .u16 0, .int .u32 0, .int .u32 0, .int .u32 0, .int .u32 0, .int .u16 0, .int .u16 0, .int .u32 0, .int .u32 0, .string (⟨#[]⟩ : ByteArray), .string (⟨#[]⟩ : ByteArray), .string (⟨#[]⟩ : ByteArray)] 27) = w17 at HW17 HV17 ⊢
  generalize w16.heap.size = g17 at HV17 ⊢
  clear HW16
  clear HV17
  go_wp2
  go_ret
  exact ⟨rfl, HW17.out⟩
end Go.Proofs.Ytnjfddmajiihjaa.Hp
namespace Go.Proofs.Ytnjfddmajiihjaa.Hp
set_option linter.unusedVariables false
set_option linter.unusedSimpArgs false
open Go Go.RowKit Go.Proofs.Ytnjfddmajiihjaa.P Go.Proofs.Ytnjfddmajiihjaa.B Go.Proofs.Ytnjfddmajiihjaa.D17 Go.Proofs.YtnjfddmajiihjaaW.PrintWords Go.Proofs.YtnjfddmajiihjaaW.PrintLast Go.Proofs.YtnjfddmajiihjaaW.PrintMore
attribute [local go_sem] max2_int Go.Proofs.Ytnjfddmajiihjaa.Mx.max_seven
set_option maxHeartbeats 16000000 in
set_option maxRecDepth 100000 in
theorem back_w2 (a0 : Int) (a1 : Int) (a2 : Int) (a3 : Int) (a4 : Int) (a5 : Int) (a6 : Int) (a7 : ByteArray) (a8 : ByteArray) (b0 : Int) (b1 : Int) (b2 : Int) (b3 : Int) (b4 : Int) (b5 : Int) (b6 : Int) (b7 : Int) (b8 : Int) (b9 : Int) (b10 : Int) (b11 : Int) (b12 : ByteArray) (b13 : ByteArray) (b14 : ByteArray) (d0 : Int) (d1 : Int) (d2 : Int) (behind s : ByteArray) (cut : Int) (w : World) (x y z : ByteArray) (c : Nat)
    (hsz : a7.size ≤ 3000 ∧ a8.size ≤ 3000 ∧ b12.size ≤ 3000 ∧ b13.size ≤ 3000 ∧ b14.size ≤ 3000 ∧ behind.size ≤ 3000 ∧ s.size ≤ 3000) (hxs : 30 ≤ x.size ∧ x.size ≤ 20000) (hys : y.size ≤ 20000) (hzs : z.size ≤ 20000)
    (fx : header_PrintLocal.f 200 a0 a1 a2 a3 a4 a5 a6 a7 a8 = some (x, 0)) (fy : header_PrintCentral.f 200 b0 b1 b2 b3 b4 b5 b6 b7 b8 b9 b10 b11 b12 b13 b14 = some (y, 0)) (fz : header_PrintDescriptor.f 200 d0 d1 d2 true = some z)
    (p1 : header_ParseLocal.f (x ++ behind) = some (a0, a1, a2, a3, a4, a5, a6, a7, a8, (x.size : Int), 0)) (p2 : header_ParseCentral.f (y ++ behind) = some (b0, b1, b2, b3, b4, b5, b6, b7, b8, b9, b10, b11, b12, b13, b14, (y.size : Int), 0)) (p3 : header_ParseDescriptor.f (z ++ behind) true = some (d0, d1, d2, (z.size : Int), 0))
    (hc : c < x.size) (hcut : Int.tmod (IntKind.u64.wrap cut) (x.size : Int) = (c : Int)) (p4 : header_ParseLocal.f (x.extract 0 c) = some (0, 0, 0, 0, 0, 0, 0, (⟨#[]⟩ : ByteArray), (⟨#[]⟩ : ByteArray), 0, 3))
    (e5 : Int) (he5 : e5 ≠ 0) (p5 : header_ParseLocal.f s = some (0, 0, 0, 0, 0, 0, 0, (⟨#[]⟩ : ByteArray), (⟨#[]⟩ : ByteArray), 0, e5))
    (u0 : Int) (u1 : Int) (u2 : Int) (u3 : Int) (u4 : Int) (u5 : Int) (u6 : Int) (u7 : Int) (u8 : Int) (u9 : Int) (u10 : Int) (u11 : Int) (u12 : ByteArray) (u13 : ByteArray) (u14 : ByteArray) (n : Nat) (p6 : header_ParseCentral.f s = some (u0, u1, u2, u3, u4, u5, u6, u7, u8, u9, u10, u11, u12, u13, u14, (n : Int), 0)) (hn : n ≤ s.size) (r6 : header_PrintCentral.f 200 u0 u1 u2 u3 u4 u5 u6 u7 u8 u9 u10 u11 u12 u13 u14 = some (s.extract 0 n, 0)) :
    Calls Try.prog 5 #[.agg #[.int .u16 a0, .int .u16 a1, .int .u16 a2, .int .u32 a3, .int .u32 a4, .int .u32 a5, .int .u32 a6, .string a7, .string a8], .agg #[.int .u16 b0, .int .u16 b1, .int .u16 b2, .int .u16 b3, .int .u32 b4, .int .u32 b5, .int .u32 b6, .int .u32 b7, .int .u16 b8, .int .u16 b9, .int .u32 b10, .int .u32 b11, .string b12, .string b13, .string b14], .agg #[.int .u32 d0, .int .u64 d1, .int .u64 d2], .string behind, .string s, .int .i64 cut] w fun e w' => e = .returned (.bool true) ∧ Below w.heap.size w w' := by
  have Ffx := Aside0.mk fx
  have Ffy := Aside0.mk fy
  have Ffz := Aside0.mk fz
  have Fp1 := Aside0.mk p1
  have Fp2 := Aside0.mk p2
  have Fp3 := Aside0.mk p3
  have Fp4 := Aside0.mk p4
  have Fp5 := Aside0.mk p5
  have Fp6 := Aside0.mk p6
  have Fr6 := Aside0.mk r6
  have HCUT := Aside0.mk hcut
  have k5a : (e5 == 0) = false := by simp [he5]
  have HSZ := Aside0.mk hsz
  have hu1 := Try.underlying25
  have hu2 := Try.underlying27
  have hu3 := Try.underlying30
  clear fx fy fz p1 p2 p3 p4 p5 p6 r6 hcut hsz he5
  obtain ⟨j8, hj8⟩ : ∃ j_ : Int, (if (a7.size : Int) < (a8.size : Int) then (a8.size : Int) else (a7.size : Int)) = j_ := ⟨_, rfl⟩
  have hj8n : (if a7.size < a8.size then (a8.size : Int) else (a7.size : Int)) = j8 := by
    rw [← hj8]
    by_cases q : a7.size < a8.size
    · rw [if_pos q, if_pos (by omega)]
    · rw [if_neg q, if_neg (by omega)]
  obtain ⟨j9, hj9⟩ : ∃ j_ : Int, (if j8 < (b12.size : Int) then (b12.size : Int) else j8) = j_ := ⟨_, rfl⟩
  obtain ⟨j10, hj10⟩ : ∃ j_ : Int, (if j9 < (b13.size : Int) then (b13.size : Int) else j9) = j_ := ⟨_, rfl⟩
  obtain ⟨j11, hj11⟩ : ∃ j_ : Int, (if j10 < (b14.size : Int) then (b14.size : Int) else j10) = j_ := ⟨_, rfl⟩
  obtain ⟨j12, hj12⟩ : ∃ j_ : Int, (if j11 < (behind.size : Int) then (behind.size : Int) else j11) = j_ := ⟨_, rfl⟩
  obtain ⟨j13, hj13⟩ : ∃ j_ : Int, (if j12 < (s.size : Int) then (s.size : Int) else j12) = j_ := ⟨_, rfl⟩
  have HA0 := Aside0.mk (blk_alloc (blk_alloc (heap_alloc_new w (.cells #[.int .u16 a0, .int .u16 a1, .int .u16 a2, .int .u32 a3, .int .u32 a4, .int .u32 a5, .int .u32 a6, .string a7, .string a8] 25)) (.cells #[.int .u16 b0, .int .u16 b1, .int .u16 b2, .int .u16 b3, .int .u32 b4, .int .u32 b5, .int .u32 b6, .int .u32 b7, .int .u16 b8, .int .u16 b9, .int .u32 b10, .int .u32 b11, .string b12, .string b13, .string b14] 27)) (.cells #[.int .u32 d0, .int .u64 d1, .int .u64 d2] 30))
  have HB0 := Aside0.mk (blk_alloc (heap_alloc_new (w.alloc (.cells #[.int .u16 a0, .int .u16 a1, .int .u16 a2, .int .u32 a3, .int .u32 a4, .int .u32 a5, .int .u32 a6, .string a7, .string a8] 25)) (.cells #[.int .u16 b0, .int .u16 b1, .int .u16 b2, .int .u16 b3, .int .u32 b4, .int .u32 b5, .int .u32 b6, .int .u32 b7, .int .u16 b8, .int .u16 b9, .int .u32 b10, .int .u32 b11, .string b12, .string b13, .string b14] 27)) (.cells #[.int .u32 d0, .int .u64 d1, .int .u64 d2] 30))
  have HD0 := Aside0.mk (heap_alloc_new ((w.alloc (.cells #[.int .u16 a0, .int .u16 a1, .int .u16 a2, .int .u32 a3, .int .u32 a4, .int .u32 a5, .int .u32 a6, .string a7, .string a8] 25)).alloc (.cells #[.int .u16 b0, .int .u16 b1, .int .u16 b2, .int .u16 b3, .int .u32 b4, .int .u32 b5, .int .u32 b6, .int .u32 b7, .int .u16 b8, .int .u16 b9, .int .u32 b10, .int .u32 b11, .string b12, .string b13, .string b14] 27)) (.cells #[.int .u32 d0, .int .u64 d1, .int .u64 d2] 30))
  have HW0 := Aside0.mk (below_alloc (below_alloc (below_alloc (Below.refl w.heap.size w) (.cells #[.int .u16 a0, .int .u16 a1, .int .u16 a2, .int .u32 a3, .int .u32 a4, .int .u32 a5, .int .u32 a6, .string a7, .string a8] 25)) (.cells #[.int .u16 b0, .int .u16 b1, .int .u16 b2, .int .u16 b3, .int .u32 b4, .int .u32 b5, .int .u32 b6, .int .u32 b7, .int .u16 b8, .int .u16 b9, .int .u32 b10, .int .u32 b11, .string b12, .string b13, .string b14] 27)) (.cells #[.int .u32 d0, .int .u64 d1, .int .u64 d2] 30))
  have hs1 : (w.alloc (.cells #[.int .u16 a0, .int .u16 a1, .int .u16 a2, .int .u32 a3, .int .u32 a4, .int .u32 a5, .int .u32 a6, .string a7, .string a8] 25)).heap.size = w.heap.size + 1 := by simp
  have hs2 : ((w.alloc (.cells #[.int .u16 a0, .int .u16 a1, .int .u16 a2, .int .u32 a3, .int .u32 a4, .int .u32 a5, .int .u32 a6, .string a7, .string a8] 25)).alloc (.cells #[.int .u16 b0, .int .u16 b1, .int .u16 b2, .int .u16 b3, .int .u32 b4, .int .u32 b5, .int .u32 b6, .int .u32 b7, .int .u16 b8, .int .u16 b9, .int .u32 b10, .int .u32 b11, .string b12, .string b13, .string b14] 27)).heap.size = w.heap.size + 1 + 1 := by simp
  rw [hs1] at HB0
  rw [hs2] at HD0
  clear hs1 hs2
  go_enter Try.func5, Try.ntmps5
  go_upto_region 1 with (fail)
  generalize hW : ((w.alloc (.cells #[.int .u16 a0, .int .u16 a1, .int .u16 a2, .int .u32 a3, .int .u32 a4, .int .u32 a5, .int .u32 a6, .string a7, .string a8] 25)).alloc (.cells #[.int .u16 b0, .int .u16 b1, .int .u16 b2, .int .u16 b3, .int .u32 b4, .int .u32 b5, .int .u32 b6, .int .u32 b7, .int .u16 b8, .int .u16 b9, .int .u32 b10, .int .u32 b11, .string b12, .string b13, .string b14] 27)).alloc (.cells #[.int .u32 d0, .int .u64 d1, .int .u64 d2] 30) = wa at HA0 HB0 HD0 HW0 ⊢
  obtain ⟨gA, hgA⟩ : ∃ g, w.heap.size = g := ⟨_, rfl⟩
  obtain ⟨gB, hgB⟩ : ∃ g, w.heap.size + 1 = g := ⟨_, rfl⟩
  obtain ⟨gD, hgD⟩ : ∃ g, w.heap.size + 1 + 1 = g := ⟨_, rfl⟩
  rw [hgD] at HD0 ⊢
  rw [hgB] at HB0 ⊢
  rw [hgA] at HA0 ⊢
  clear hW hgA hgB hgD
  go_upto_region 3 with (go_at_call 6; refine (portmanteaulaw17_awake.calls 200 _ _ awake_true).mono ?_; rintro e w1 ⟨rfl, hb⟩; have HA1 := Aside0.mk (blk_below HA0.out hb); have HB1 := Aside0.mk (blk_below HB0.out hb); have HD1 := Aside0.mk (blk_below HD0.out hb); have HW1 := Aside0.mk (below_step HW0.out hb); clear hb)
  clear HA0 HB0 HD0 HW0
  have m0 := blk_cell HA1.out 7
  have m1 := blk_cell HA1.out 8
  have m2 := blk_cell HB1.out 12
  have m3 := blk_cell HB1.out 13
  have m4 := blk_cell HB1.out 14
  have hdb : decide (3000 < j13) = false := decide_eq_false (by
    have := HSZ.out
    rw [← hj13, ← hj12, ← hj11, ← hj10, ← hj9, ← hj8]
    (repeat' split) <;> omega)
  go_upto_region 5 with (fail)
  clear hdb hj8 hj8n hj9 hj10 hj11 hj12 hj13 m0 m1 m2 m3 m4
  have oxa := eq_true (show x.size + behind.size ≤ 9223372036854775807 by have := HSZ.out; omega)
  have oxb : (9223372036854775807 < x.size + behind.size) = False := eq_false (by have := HSZ.out; omega)
  have oya := eq_true (show y.size + behind.size ≤ 9223372036854775807 by have := HSZ.out; omega)
  have oyb : (9223372036854775807 < y.size + behind.size) = False := eq_false (by have := HSZ.out; omega)
  have oza := eq_true (show z.size + behind.size ≤ 9223372036854775807 by have := HSZ.out; omega)
  have ozb : (9223372036854775807 < z.size + behind.size) = False := eq_false (by have := HSZ.out; omega)
  have qA0 := blk_cell HA1.out 0
  have qA1 := blk_cell HA1.out 1
  have qA2 := blk_cell HA1.out 2
  have qA3 := blk_cell HA1.out 3
  have qA4 := blk_cell HA1.out 4
  have qA5 := blk_cell HA1.out 5
  have qA6 := blk_cell HA1.out 6
  have qA7 := blk_cell HA1.out 7
  have qA8 := blk_cell HA1.out 8
  simp only [List.getElem?_toArray, List.getElem?_cons_zero, List.getElem?_cons_succ] at qA0 qA1 qA2 qA3 qA4 qA5 qA6 qA7 qA8
  go_upto_region 6 with (go_at_call 7; (with_reducible refine (header_PrintLocal.calls 200 a0 a1 a2 a3 a4 a5 a6 a7 a8 x 0 _ Ffx.out).mono ?_); rintro e w2 ⟨rfl, hb⟩; have HA2 := Aside0.mk (blk_below HA1.out hb); have HB2 := Aside0.mk (blk_below HB1.out hb); have HD2 := Aside0.mk (blk_below HD1.out hb); have HW2 := Aside0.mk (below_step HW1.out hb); clear hb)
  clear HA1 HB1 HD1 HW1 qA0 qA1 qA2 qA3 qA4 qA5 qA6 qA7 qA8
  have qB0 := blk_cell HB2.out 0
  have qB1 := blk_cell HB2.out 1
  have qB2 := blk_cell HB2.out 2
  have qB3 := blk_cell HB2.out 3
  have qB4 := blk_cell HB2.out 4
  have qB5 := blk_cell HB2.out 5
  have qB6 := blk_cell HB2.out 6
  have qB7 := blk_cell HB2.out 7
  have qB8 := blk_cell HB2.out 8
  have qB9 := blk_cell HB2.out 9
  have qB10 := blk_cell HB2.out 10
  have qB11 := blk_cell HB2.out 11
  have qB12 := blk_cell HB2.out 12
  have qB13 := blk_cell HB2.out 13
  have qB14 := blk_cell HB2.out 14
  simp only [List.getElem?_toArray, List.getElem?_cons_zero, List.getElem?_cons_succ] at qB0 qB1 qB2 qB3 qB4 qB5 qB6 qB7 qB8 qB9 qB10 qB11 qB12 qB13 qB14
  go_upto_region 7 with (go_at_call 8; (with_reducible refine (header_PrintCentral.calls 200 b0 b1 b2 b3 b4 b5 b6 b7 b8 b9 b10 b11 b12 b13 b14 y 0 _ Ffy.out).mono ?_); rintro e w3 ⟨rfl, hb⟩; have HA3 := Aside0.mk (blk_below HA2.out hb); have HB3 := Aside0.mk (blk_below HB2.out hb); have HD3 := Aside0.mk (blk_below HD2.out hb); have HW3 := Aside0.mk (below_step HW2.out hb); clear hb)
  clear HA2 HB2 HD2 HW2 qB0 qB1 qB2 qB3 qB4 qB5 qB6 qB7 qB8 qB9 qB10 qB11 qB12 qB13 qB14
  have qD0 := blk_cell HD3.out 0
  have qD1 := blk_cell HD3.out 1
  have qD2 := blk_cell HD3.out 2
  simp only [List.getElem?_toArray, List.getElem?_cons_zero, List.getElem?_cons_succ] at qD0 qD1 qD2
  go_upto_region 8 with (go_at_call 14; (with_reducible refine (header_PrintDescriptor.calls 200 d0 d1 d2 true z _ Ffz.out).mono ?_); rintro e w4 ⟨rfl, hb⟩; have HA4 := Aside0.mk (blk_below HA3.out hb); have HB4 := Aside0.mk (blk_below HB3.out hb); have HD4 := Aside0.mk (blk_below HD3.out hb); have HW4 := Aside0.mk (below_step HW3.out hb); clear hb)
  clear HA3 HB3 HD3 HW3 qD0 qD1 qD2
  go_upto_region 9 with (go_at_call 17; (with_reducible refine (header_ParseLocal.calls (x ++ behind) a0 a1 a2 a3 a4 a5 a6 a7 a8 (x.size : Int) 0 _ Fp1.out).mono ?_); rintro e w5 ⟨rfl, hb⟩; have HA5 := Aside0.mk (blk_below HA4.out hb); have HB5 := Aside0.mk (blk_below HB4.out hb); have HD5 := Aside0.mk (blk_below HD4.out hb); have HW5 := Aside0.mk (below_step HW4.out hb); clear hb)
  clear HA4 HB4 HD4 HW4
  have HA6 := Aside0.mk (blk_alloc HA5.out (.cells #[.int .u16 a0, .int .u16 a1, .int .u16 a2, .int .u32 a3, .int .u32 a4, .int .u32 a5, .int .u32 a6, .string a7, .string a8] 25))
  have HB6 := Aside0.mk (blk_alloc HB5.out (.cells #[.int .u16 a0, .int .u16 a1, .int .u16 a2, .int .u32 a3, .int .u32 a4, .int .u32 a5, .int .u32 a6, .string a7, .string a8] 25))
  have HD6 := Aside0.mk (blk_alloc HD5.out (.cells #[.int .u16 a0, .int .u16 a1, .int .u16 a2, .int .u32 a3, .int .u32 a4, .int .u32 a5, .int .u32 a6, .string a7, .string a8] 25))
  have HK6 := Aside0.mk (heap_alloc_new w5 (.cells #[.int .u16 a0, .int .u16 a1, .int .u16 a2, .int .u32 a3, .int .u32 a4, .int .u32 a5, .int .u32 a6, .string a7, .string a8] 25))
  have HW6 := Aside0.mk (below_alloc HW5.out (.cells #[.int .u16 a0, .int .u16 a1, .int .u16 a2, .int .u32 a3, .int .u32 a4, .int .u32 a5, .int .u32 a6, .string a7, .string a8] 25))
  generalize w5.alloc (.cells #[.int .u16 a0, .int .u16 a1, .int .u16 a2, .int .u32 a3, .int .u32 a4, .int .u32 a5, .int .u32 a6, .string a7, .string a8] 25) = w6 at HA6 HB6 HD6 HK6 HW6 ⊢
  generalize w5.heap.size = gK at HK6 ⊢
  clear HA5 HB5 HD5 HW5
  go_upto_region 10 with (go_at_call 20; (with_reducible refine (header_ParseCentral.calls (y ++ behind) b0 b1 b2 b3 b4 b5 b6 b7 b8 b9 b10 b11 b12 b13 b14 (y.size : Int) 0 _ Fp2.out).mono ?_); rintro e w7 ⟨rfl, hb⟩; have HA7 := Aside0.mk (blk_below HA6.out hb); have HB7 := Aside0.mk (blk_below HB6.out hb); have HD7 := Aside0.mk (blk_below HD6.out hb); have HK7 := Aside0.mk (blk_below HK6.out hb); have HW7 := Aside0.mk (below_step HW6.out hb); clear hb)
  clear HA6 HB6 HD6 HK6 HW6
  have HA8 := Aside0.mk (blk_alloc HA7.out (.cells #[.int .u16 b0, .int .u16 b1, .int .u16 b2, .int .u16 b3, .int .u32 b4, .int .u32 b5, .int .u32 b6, .int .u32 b7, .int .u16 b8, .int .u16 b9, .int .u32 b10, .int .u32 b11, .string b12, .string b13, .string b14] 27))
  have HB8 := Aside0.mk (blk_alloc HB7.out (.cells #[.int .u16 b0, .int .u16 b1, .int .u16 b2, .int .u16 b3, .int .u32 b4, .int .u32 b5, .int .u32 b6, .int .u32 b7, .int .u16 b8, .int .u16 b9, .int .u32 b10, .int .u32 b11, .string b12, .string b13, .string b14] 27))
  have HD8 := Aside0.mk (blk_alloc HD7.out (.cells #[.int .u16 b0, .int .u16 b1, .int .u16 b2, .int .u16 b3, .int .u32 b4, .int .u32 b5, .int .u32 b6, .int .u32 b7, .int .u16 b8, .int .u16 b9, .int .u32 b10, .int .u32 b11, .string b12, .string b13, .string b14] 27))
  have HK8 := Aside0.mk (blk_alloc HK7.out (.cells #[.int .u16 b0, .int .u16 b1, .int .u16 b2, .int .u16 b3, .int .u32 b4, .int .u32 b5, .int .u32 b6, .int .u32 b7, .int .u16 b8, .int .u16 b9, .int .u32 b10, .int .u32 b11, .string b12, .string b13, .string b14] 27))
  have HL8 := Aside0.mk (heap_alloc_new w7 (.cells #[.int .u16 b0, .int .u16 b1, .int .u16 b2, .int .u16 b3, .int .u32 b4, .int .u32 b5, .int .u32 b6, .int .u32 b7, .int .u16 b8, .int .u16 b9, .int .u32 b10, .int .u32 b11, .string b12, .string b13, .string b14] 27))
  have HW8 := Aside0.mk (below_alloc HW7.out (.cells #[.int .u16 b0, .int .u16 b1, .int .u16 b2, .int .u16 b3, .int .u32 b4, .int .u32 b5, .int .u32 b6, .int .u32 b7, .int .u16 b8, .int .u16 b9, .int .u32 b10, .int .u32 b11, .string b12, .string b13, .string b14] 27))
  generalize w7.alloc (.cells #[.int .u16 b0, .int .u16 b1, .int .u16 b2, .int .u16 b3, .int .u32 b4, .int .u32 b5, .int .u32 b6, .int .u32 b7, .int .u16 b8, .int .u16 b9, .int .u32 b10, .int .u32 b11, .string b12, .string b13, .string b14] 27) = w8 at HA8 HB8 HD8 HK8 HL8 HW8 ⊢
  generalize w7.heap.size = gL at HL8 ⊢
  clear HA7 HB7 HD7 HK7 HW7
  go_upto_region 11 with (go_at_call 21; (with_reducible refine (header_ParseDescriptor.calls (z ++ behind) true d0 d1 d2 (z.size : Int) 0 _ Fp3.out).mono ?_); rintro e w9 ⟨rfl, hb⟩; have HA9 := Aside0.mk (blk_below HA8.out hb); have HB9 := Aside0.mk (blk_below HB8.out hb); have HD9 := Aside0.mk (blk_below HD8.out hb); have HK9 := Aside0.mk (blk_below HK8.out hb); have HL9 := Aside0.mk (blk_below HL8.out hb); have HW9 := Aside0.mk (below_step HW8.out hb); clear hb)
  clear HA8 HB8 HD8 HK8 HL8 HW8
  have HA10 := Aside0.mk (blk_alloc HA9.out (.cells #[.int .u32 d0, .int .u64 d1, .int .u64 d2] 30))
  have HB10 := Aside0.mk (blk_alloc HB9.out (.cells #[.int .u32 d0, .int .u64 d1, .int .u64 d2] 30))
  have HD10 := Aside0.mk (blk_alloc HD9.out (.cells #[.int .u32 d0, .int .u64 d1, .int .u64 d2] 30))
  have HK10 := Aside0.mk (blk_alloc HK9.out (.cells #[.int .u32 d0, .int .u64 d1, .int .u64 d2] 30))
  have HL10 := Aside0.mk (blk_alloc HL9.out (.cells #[.int .u32 d0, .int .u64 d1, .int .u64 d2] 30))
  have HG10 := Aside0.mk (heap_alloc_new w9 (.cells #[.int .u32 d0, .int .u64 d1, .int .u64 d2] 30))
  have HW10 := Aside0.mk (below_alloc HW9.out (.cells #[.int .u32 d0, .int .u64 d1, .int .u64 d2] 30))
  generalize w9.alloc (.cells #[.int .u32 d0, .int .u64 d1, .int .u64 d2] 30) = w10 at HA10 HB10 HD10 HK10 HL10 HG10 HW10 ⊢
  generalize w9.heap.size = gG at HG10 ⊢
  clear HA9 HB9 HD9 HK9 HL9 HW9
  have qA0 := blk_cell HA10.out 0
  have qA1 := blk_cell HA10.out 1
  have qA2 := blk_cell HA10.out 2
  have qA3 := blk_cell HA10.out 3
  have qA4 := blk_cell HA10.out 4
  have qA5 := blk_cell HA10.out 5
  have qA6 := blk_cell HA10.out 6
  have qA7 := blk_cell HA10.out 7
  have qA8 := blk_cell HA10.out 8
  have qB0 := blk_cell HB10.out 0
  have qB1 := blk_cell HB10.out 1
  have qB2 := blk_cell HB10.out 2
  have qB3 := blk_cell HB10.out 3
  have qB4 := blk_cell HB10.out 4
  have qB5 := blk_cell HB10.out 5
  have qB6 := blk_cell HB10.out 6
  have qB7 := blk_cell HB10.out 7
  have qB8 := blk_cell HB10.out 8
  have qB9 := blk_cell HB10.out 9
  have qB10 := blk_cell HB10.out 10
  have qB11 := blk_cell HB10.out 11
  have qB12 := blk_cell HB10.out 12
  have qB13 := blk_cell HB10.out 13
  have qB14 := blk_cell HB10.out 14
  have qD0 := blk_cell HD10.out 0
  have qD1 := blk_cell HD10.out 1
  have qD2 := blk_cell HD10.out 2
  have qK0 := blk_cell HK10.out 0
  have qK1 := blk_cell HK10.out 1
  have qK2 := blk_cell HK10.out 2
  have qK3 := blk_cell HK10.out 3
  have qK4 := blk_cell HK10.out 4
  have qK5 := blk_cell HK10.out 5
  have qK6 := blk_cell HK10.out 6
  have qK7 := blk_cell HK10.out 7
  have qK8 := blk_cell HK10.out 8
  have qL0 := blk_cell HL10.out 0
  have qL1 := blk_cell HL10.out 1
  have qL2 := blk_cell HL10.out 2
  have qL3 := blk_cell HL10.out 3
  have qL4 := blk_cell HL10.out 4
  have qL5 := blk_cell HL10.out 5
  have qL6 := blk_cell HL10.out 6
  have qL7 := blk_cell HL10.out 7
  have qL8 := blk_cell HL10.out 8
  have qL9 := blk_cell HL10.out 9
  have qL10 := blk_cell HL10.out 10
  have qL11 := blk_cell HL10.out 11
  have qL12 := blk_cell HL10.out 12
  have qL13 := blk_cell HL10.out 13
  have qL14 := blk_cell HL10.out 14
  have qG0 := blk_cell HG10.out 0
  have qG1 := blk_cell HG10.out 1
  have qG2 := blk_cell HG10.out 2
  simp only [List.getElem?_toArray, List.getElem?_cons_zero, List.getElem?_cons_succ] at qA0 qA1 qA2 qA3 qA4 qA5 qA6 qA7 qA8 qB0 qB1 qB2 qB3 qB4 qB5 qB6 qB7 qB8 qB9 qB10 qB11 qB12 qB13 qB14 qD0 qD1 qD2 qK0 qK1 qK2 qK3 qK4 qK5 qK6 qK7 qK8 qL0 qL1 qL2 qL3 qL4 qL5 qL6 qL7 qL8 qL9 qL10 qL11 qL12 qL13 qL14 qG0 qG1 qG2
  go_upto_region 13 with (fail)
  clear qA0 qA1 qA2 qA3 qA4 qA5 qA6 qA7 qA8 qB0 qB1 qB2 qB3 qB4 qB5 qB6 qB7 qB8 qB9 qB10 qB11 qB12 qB13 qB14 qD0 qD1 qD2 qK0 qK1 qK2 qK3 qK4 qK5 qK6 qK7 qK8 qL0 qL1 qL2 qL3 qL4 qL5 qL6 qL7 qL8 qL9 qL10 qL11 qL12 qL13 qL14 qG0 qG1 qG2 oxa oxb oya oyb oza ozb HA10 HB10 HD10 HK10 HL10 HG10
  have c0 : (0 : Int) ≤ (c : Int) := by omega
  have c1 : (c : Int) ≤ (x.size : Int) := by omega
  have xz : ((x.size : Int) == 0) = false := beq_eq_false_iff_ne.mpr (by omega)
  have xw : IntKind.u64.wrap (x.size : Int) = (x.size : Int) := u64_id (by omega) (by omega)
  have hcut := HCUT.out
  go_upto_region 14 with (go_at_call 17; (with_reducible refine (header_ParseLocal.calls (x.extract 0 c) 0 0 0 0 0 0 0 (⟨#[]⟩ : ByteArray) (⟨#[]⟩ : ByteArray) 0 3 _ Fp4.out).mono ?_); rintro e w11 ⟨rfl, hb⟩; have HW11 := Aside0.mk (below_step HW10.out hb); clear hb)
  clear HW10
  have HW12 := Aside0.mk (below_alloc HW11.out (.cells #[.int .u16 0, .int .u16 0, .int .u16 0, .int .u32 0, .int .u32 0, .int .u32 0, .int .u32 0, .string (⟨#[]⟩ : ByteArray), .string (⟨#[]⟩ : ByteArray)] 25))
  have HV12 := Aside0.mk (heap_alloc_new w11 (.cells #[.int .u16 0, .int .u16 0, .int .u16 0, .int .u32 0, .int .u32 0, .int .u32 0, .int .u32 0, .string (⟨#[]⟩ : ByteArray), .string (⟨#[]⟩ : ByteArray)] 25))
  generalize w11.alloc (.cells #[.int .u16 0, .int .u16 0, .int .u16 0, .int .u32 0, .int .u32 0, .int .u32 0, .int .u32 0, .string (⟨#[]⟩ : ByteArray), .string (⟨#[]⟩ : ByteArray)] 25) = w12 at HW12 HV12 ⊢
  generalize w11.heap.size = g12 at HV12 ⊢
  clear HW11
  clear HV12 c0 c1 xz xw hcut
  go_upto_region 17 with (go_at_call 17; (with_reducible refine (header_ParseLocal.calls s 0 0 0 0 0 0 0 (⟨#[]⟩ : ByteArray) (⟨#[]⟩ : ByteArray) 0 e5 _ Fp5.out).mono ?_); rintro e w13 ⟨rfl, hb⟩; have HW13 := Aside0.mk (below_step HW12.out hb); clear hb)
  clear HW12
  have HW14 := Aside0.mk (below_alloc HW13.out (.cells #[.int .u16 0, .int .u16 0, .int .u16 0, .int .u32 0, .int .u32 0, .int .u32 0, .int .u32 0, .string (⟨#[]⟩ : ByteArray), .string (⟨#[]⟩ : ByteArray)] 25))
  have HV14 := Aside0.mk (heap_alloc_new w13 (.cells #[.int .u16 0, .int .u16 0, .int .u16 0, .int .u32 0, .int .u32 0, .int .u32 0, .int .u32 0, .string (⟨#[]⟩ : ByteArray), .string (⟨#[]⟩ : ByteArray)] 25))
  generalize w13.alloc (.cells #[.int .u16 0, .int .u16 0, .int .u16 0, .int .u32 0, .int .u32 0, .int .u32 0, .int .u32 0, .string (⟨#[]⟩ : ByteArray), .string (⟨#[]⟩ : ByteArray)] 25) = w14 at HW14 HV14 ⊢
  generalize w13.heap.size = g14 at HV14 ⊢
  clear HW13
  clear HV14
  go_upto_region 21 with (fail)
  go_upto_region 22 with (go_at_call 20; (with_reducible refine (header_ParseCentral.calls s u0 u1 u2 u3 u4 u5 u6 u7 u8 u9 u10 u11 u12 u13 u14 (n : Int) 0 _ Fp6.out).mono ?_); rintro e w15 ⟨rfl, hb⟩; have HW15 := Aside0.mk (below_step HW14.out hb); clear hb)
  clear HW14
  have HW16 := Aside0.mk (below_alloc HW15.out (.cells #[.int .u16 u0, .int .u16 u1, .int .u16 u2, .int .u16 u3, .int .u32 u4, .int .u32 u5, .int .u32 u6, .int .u32 u7, .int .u16 u8, .int .u16 u9, .int .u32 u10, .int .u32 u11, .string u12, .string u13, .string u14] 27))
  have HV16 := Aside0.mk (heap_alloc_new w15 (.cells #[.int .u16 u0, .int .u16 u1, .int .u16 u2, .int .u16 u3, .int .u32 u4, .int .u32 u5, .int .u32 u6, .int .u32 u7, .int .u16 u8, .int .u16 u9, .int .u32 u10, .int .u32 u11, .string u12, .string u13, .string u14] 27))
  generalize w15.alloc (.cells #[.int .u16 u0, .int .u16 u1, .int .u16 u2, .int .u16 u3, .int .u32 u4, .int .u32 u5, .int .u32 u6, .int .u32 u7, .int .u16 u8, .int .u16 u9, .int .u32 u10, .int .u32 u11, .string u12, .string u13, .string u14] 27) = w16 at HW16 HV16 ⊢
  generalize w15.heap.size = g16 at HV16 ⊢
  clear HW15
  have y0 := blk_cell HV16.out 0
  have y1 := blk_cell HV16.out 1
  have y2 := blk_cell HV16.out 2
  have y3 := blk_cell HV16.out 3
  have y4 := blk_cell HV16.out 4
  have y5 := blk_cell HV16.out 5
  have y6 := blk_cell HV16.out 6
  have y7 := blk_cell HV16.out 7
  have y8 := blk_cell HV16.out 8
  have y9 := blk_cell HV16.out 9
  have y10 := blk_cell HV16.out 10
  have y11 := blk_cell HV16.out 11
  have y12 := blk_cell HV16.out 12
  have y13 := blk_cell HV16.out 13
  have y14 := blk_cell HV16.out 14
  simp only [List.getElem?_toArray, List.getElem?_cons_zero, List.getElem?_cons_succ] at y0 y1 y2 y3 y4 y5 y6 y7 y8 y9 y10 y11 y12 y13 y14
  go_upto_region 24 with (go_at_call 8; (with_reducible refine (header_PrintCentral.calls 200 u0 u1 u2 u3 u4 u5 u6 u7 u8 u9 u10 u11 u12 u13 u14 (s.extract 0 n) 0 _ Fr6.out).mono ?_); rintro e w17 ⟨rfl, hb⟩; have HW17 := Aside0.mk (below_step HW16.out hb); clear hb)
  clear HW16
  clear y0 y1 y2 y3 y4 y5 y6 y7 y8 y9 y10 y11 y12 y13 y14
  have n0 : (0 : Int) ≤ (n : Int) := by omega
  have n1 : (n : Int) ≤ (s.size : Int) := by omega
  go_wp2
  go_ret
  exact ⟨rfl, HW17.out⟩
end Go.Proofs.Ytnjfddmajiihjaa.Hp
namespace Go.Proofs.Ytnjfddmajiihjaa.Walk
set_option linter.unusedVariables false
set_option linter.unusedSimpArgs false
open Go Go.RowKit Go.Proofs.Ytnjfddmajiihjaa.P Go.Proofs.Ytnjfddmajiihjaa.B Go.Proofs.Ytnjfddmajiihjaa.D17 Go.Proofs.Ytnjfddmajiihjaa.Hp Go.Proofs.YtnjfddmajiihjaaW.PrintWords Go.Proofs.YtnjfddmajiihjaaW.PrintLast Go.Proofs.YtnjfddmajiihjaaW.PrintMore
theorem app_list (a b : ByteArray) : (a ++ b).data.toList = a.data.toList ++ b.data.toList := by simp
theorem HeaderBack (a : S25) (csa : Array Value) (b : S27) (csb : Array Value) (d : S30) (csd : Array Value) (behind s : ByteArray) (cut : Int) (w : World) (hKa : k25.K w a csa.toList)
    (ha : ((Lit.int .u16 a.f0).wf = true) ∧ ((Lit.int .u16 a.f1).wf = true) ∧ ((Lit.int .u16 a.f2).wf = true) ∧ ((Lit.int .u32 a.f3).wf = true) ∧ ((Lit.int .u32 a.f4).wf = true) ∧ ((Lit.int .u32 a.f5).wf = true) ∧ ((Lit.int .u32 a.f6).wf = true) ∧ (a.f7.size ≤ maxLen) ∧ (a.f8.size ≤ maxLen))
    (hKb : k27.K w b csb.toList)
    (hb : ((Lit.int .u16 b.f0).wf = true) ∧ ((Lit.int .u16 b.f1).wf = true) ∧ ((Lit.int .u16 b.f2).wf = true) ∧ ((Lit.int .u16 b.f3).wf = true) ∧ ((Lit.int .u32 b.f4).wf = true) ∧ ((Lit.int .u32 b.f5).wf = true) ∧ ((Lit.int .u32 b.f6).wf = true) ∧ ((Lit.int .u32 b.f7).wf = true) ∧ ((Lit.int .u16 b.f8).wf = true) ∧ ((Lit.int .u16 b.f9).wf = true) ∧ ((Lit.int .u32 b.f10).wf = true) ∧ ((Lit.int .u32 b.f11).wf = true) ∧ (b.f12.size ≤ maxLen) ∧ (b.f13.size ≤ maxLen) ∧ (b.f14.size ≤ maxLen))
    (hKd : k30.K w d csd.toList) (hd : ((Lit.int .u32 d.f0).wf = true) ∧ ((Lit.int .u64 d.f1).wf = true) ∧ ((Lit.int .u64 d.f2).wf = true)) (hbe : behind.size ≤ 140737488351232) (hs : s.size ≤ 140737488351232) (hcut : (Lit.int .i64 cut).wf = true) :
    Calls Try.prog 5 #[.agg csa, .agg csb, .agg csd, .string behind, .string s, .int .i64 cut] w fun e w' => e = .returned (.bool true) ∧ Below w.heap.size w w' := by
  have h1 := k25_open hKa
  have h2 := k27_open hKb
  have h3 := k30_open hKd
  have e1 := congrArg List.toArray h1
  simp only [Array.toArray_toList] at e1
  subst e1
  have e2 := congrArg List.toArray h2
  simp only [Array.toArray_toList] at e2
  subst e2
  have e3 := congrArg List.toArray h3
  simp only [Array.toArray_toList] at e3
  subst e3
  clear h1 h2 h3 hKa hKb hKd hbe hs hcut
  obtain ⟨a0, a1, a2, a3, a4, a5, a6, a7, a8⟩ := a
  obtain ⟨b0, b1, b2, b3, b4, b5, b6, b7, b8, b9, b10, b11, b12, b13, b14⟩ := b
  obtain ⟨d0, d1, d2⟩ := d
  dsimp only at *
  by_cases hsz : a7.size ≤ 3000 ∧ a8.size ≤ 3000 ∧ b12.size ≤ 3000 ∧ b13.size ≤ 3000 ∧ b14.size ≤ 3000 ∧ behind.size ≤ 3000 ∧ s.size ≤ 3000
  case neg => exact back_big a0 a1 a2 a3 a4 a5 a6 a7 a8 b0 b1 b2 b3 b4 b5 b6 b7 b8 b9 b10 b11 b12 b13 b14 d0 d1 d2 behind s cut w hsz
  have hsz' := hsz
  obtain ⟨za7, za8, zb12, zb13, zb14, zbe, zs⟩ := hsz'
  obtain ⟨q0, q1, q2, q3, q4, q5, q6, _, _⟩ := ha
  obtain ⟨p0, p1, p2, p3, p4, p5, p6, p7, p8, p9, p10, p11, _, _, _⟩ := hb
  obtain ⟨r0, r1, r2⟩ := hd
  replace q0 := wf_u16 q0; replace q1 := wf_u16 q1; replace q2 := wf_u16 q2; replace q3 := wf_u32 q3; replace q4 := wf_u32 q4; replace q5 := wf_u32 q5; replace q6 := wf_u32 q6
  replace p0 := wf_u16 p0; replace p1 := wf_u16 p1; replace p2 := wf_u16 p2; replace p3 := wf_u16 p3; replace p4 := wf_u32 p4; replace p5 := wf_u32 p5; replace p6 := wf_u32 p6; replace p7 := wf_u32 p7; replace p8 := wf_u16 p8; replace p9 := wf_u16 p9; replace p10 := wf_u32 p10; replace p11 := wf_u32 p11
  replace r0 := wf_u32 r0; replace r1 := wf_u64 r1; replace r2 := wf_u64 r2
  obtain ⟨x, fx, hx⟩ := local_print a0 a1 a2 a3 a4 a5 a6 a7 a8 q0 q1 q2 q3 q4 q5 q6 za7 za8
  obtain ⟨y, fy, hy⟩ := central_print b0 b1 b2 b3 b4 b5 b6 b7 b8 b9 b10 b11 b12 b13 b14 p0 p1 p2 p3 p4 p5 p6 p7 p8 p9 p10 p11 zb12 zb13 zb14
  obtain ⟨z, fz, hz⟩ := desc_print d0 d1 d2 r0 r1 r2
  have sx := local_size a0 a1 a2 a3 a4 a5 a6 a7 a8 q0 q1 q2 q3 q4 q5 q6 za7 za8 x hx
  have sy := central_size b0 b1 b2 b3 b4 b5 b6 b7 b8 b9 b10 b11 b12 b13 b14 p0 p1 p2 p3 p4 p5 p6 p7 p8 p9 p10 p11 zb12 zb13 zb14 y hy
  have sz := desc_size d0 d1 d2 r0 r1 r2 z hz
  have g1 := local_again a0 a1 a2 a3 a4 a5 a6 a7 a8 q0 q1 q2 q3 q4 q5 q6 za7 za8 (x ++ behind) (by rw [ByteArray.size_append]; omega) behind.data.toList (by rw [app_list, hx]; simp only [List.append_assoc])
  have g2 := central_again b0 b1 b2 b3 b4 b5 b6 b7 b8 b9 b10 b11 b12 b13 b14 p0 p1 p2 p3 p4 p5 p6 p7 p8 p9 p10 p11 zb12 zb13 zb14 (y ++ behind) (by rw [ByteArray.size_append]; omega) behind.data.toList (by rw [app_list, hy]; simp only [List.append_assoc])
  have g3 := desc_again d0 d1 d2 r0 r1 r2 (z ++ behind) (by rw [ByteArray.size_append]; omega) behind.data.toList (by rw [app_list, hz]; simp only [List.append_assoc, List.nil_append])
  rw [← sx] at g1
  rw [← sy] at g2
  rw [show ((24 : Nat) : Int) = (z.size : Int) by omega] at g3
  obtain ⟨u, hu⟩ : ∃ u : Nat, IntKind.u64.wrap cut = (u : Int) := ⟨(IntKind.u64.wrap cut).toNat, by rw [u64_mod]; omega⟩
  obtain ⟨c, hc⟩ : ∃ c : Nat, c = u % x.size := ⟨_, rfl⟩
  have hcx : c < x.size := by rw [hc]; exact Nat.mod_lt _ (by omega)
  have hcu : Int.tmod (IntKind.u64.wrap cut) (x.size : Int) = (c : Int) := by
    rw [hu, hc, Int.tmod_eq_emod_of_nonneg (by omega)]
    exact (Int.natCast_emod u x.size).symm
  have g4 := local_cut a0 a1 a2 a3 a4 a5 a6 a7 a8 q0 q1 q2 q3 q4 q5 q6 za7 za8 x (x.extract 0 c) hx c hcx (take_list x c)
  rcases local_reprint s zs with ⟨e5, he5, g5⟩ | ⟨v1, v2, v3, v4, v5, v6, v7, x1, x2, n, hm5, g5, hn5, k5⟩
  · rcases central_reprint s zs with ⟨e6, he6, g6⟩ | ⟨v1, v2, v3, v4, v5, v6, v7, v8, v12, v13, v14, v15, x1, x2, x3, n, hm6, g6, hn6, k6⟩
    · exact back_w0 _ _ _ _ _ _ _ _ _ _ _ _ _ _ _ _ _ _ _ _ _ _ _ _ _ _ _ behind s cut w x y z c hsz (by omega) (by omega) (by omega) fx fy fz g1 g2 g3 hcx hcu g4 e5 he5 g5 e6 he6 g6
    · exact back_w2 _ _ _ _ _ _ _ _ _ _ _ _ _ _ _ _ _ _ _ _ _ _ _ _ _ _ _ behind s cut w x y z c hsz (by omega) (by omega) (by omega) fx fy fz g1 g2 g3 hcx hcu g4 e5 he5 g5 _ _ _ _ _ _ _ _ _ _ _ _ _ _ _ n g6 hn6 k6
  · rcases central_reprint s zs with ⟨e6, he6, g6⟩ | ⟨_, _, _, _, _, _, _, _, _, _, _, _, _, _, _, _, hm6, _⟩
    · exact back_w1 _ _ _ _ _ _ _ _ _ _ _ _ _ _ _ _ _ _ _ _ _ _ _ _ _ _ _ behind s cut w x y z c hsz (by omega) (by omega) (by omega) fx fy fz g1 g2 g3 hcx hcu g4 _ _ _ _ _ _ _ _ _ n g5 hn5 k5 e6 he6 g6
    · rw [hm5] at hm6; exact absurd hm6 (by decide)
end Go.Proofs.Ytnjfddmajiihjaa.Walk
