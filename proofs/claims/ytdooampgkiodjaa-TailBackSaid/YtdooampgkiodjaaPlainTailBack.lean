/- TailBack: what is printed behind any bytes is found as it was: plain Lean. -/
import Derived.Test.YtdooampgkiodjaaTailFind
import Derived.Test.YtdooampgkiodjaaGivelastindex
import Derived.Lib.RabinKarp
import Derived.Test.YtdooampgkiodjaaPx10
namespace Go.Proofs.Ytdooampgkiodjaa.D18
set_option linter.unusedVariables false
set_option linter.unusedSimpArgs false
open Go Go.RowKit Go.Proofs.Ytdooampgkiodjaa.P Go.Proofs.Ytdooampgkiodjaa.B Go.Proofs.Ytdooampgkiodjaa.Num Go.Proofs.Ytdooampgkiodjaa.Cur Go.Proofs.YtdooampgkiodjaaW.PrintWords Go.Proofs.YtdooampgkiodjaaW.PrintLast Go.Proofs.YtdooampgkiodjaaW.PrintMore

theorem awake_up (k : Nat) (hk : 1000 < k) : portmanteaulaw18_awake.f k = some true := by
  have h0 : portmanteaulaw18_awake.f 30 = some true := by decide +kernel
  obtain ⟨d, rfl⟩ : ∃ d, k = 30 + d := ⟨k - 30, by omega⟩
  clear hk
  induction d with
  | zero => exact h0
  | succ d ih => exact portmanteaulaw18_awake.mono _ _ ih
theorem find_bare (s : ByteArray) (X c : List UInt8) (n z o : Nat) (h : s.data.toList = X ++ endB n z o c) (hn : n < 65535) (hz : z < 4294967295) (ho : o < 4294967295) (hX : X.length ≤ 1000000) (hc : c.length ≤ 65535)
    (hm : ∀ j, X.length < j → j ≤ X.length + c.length → (s.data.toList.drop j).take 4 ≠ [80, 75, 5, 6]) (k : Nat) (hk : c.length + 10 < k) :
    tail_Find.f (k + 1) s = some ((X.length : Int), (n : Int), (z : Int), (o : Int), strN c, false, 0) := by
  have hl := last_eq s X c n z o h (by omega) (by omega) (by omega) hX hc hm (k + 1) (by omega)
  have h1 : ¬ (n : Int) = 65535 := by omega
  have h2 : ¬ (z : Int) = 4294967295 := by omega
  have h3 : ((o : Int) == 4294967295) = false := by simp; omega
  have h4 : wrap64 (X.length : Int) = X.length := wrap_id (by omega) (by omega)
  unfold tail_Find.f
  rw [hl, Option.bind_some]
  dsimp only
  rw [if_pos rfl, if_pos rfl, if_pos rfl, show ((n : Int) != (n : Int)) = false by simp, tail_Find.j0, if_neg (by decide)]
  unfold tail_record_asks.f
  rw [if_neg h1, if_neg h1, if_neg h2, h3, Option.bind_some, if_neg (by decide), h4]
theorem w76 (a : Nat) (h : a ≤ 900000) : wrap64 ((a + 76 : Nat) : Int) = ((a + 76 : Nat) : Int) := wrap_id (by omega) (by omega)
theorem w56 (a : Nat) (h : a ≤ 900000) : wrap64 (((a + 76 : Nat) : Int) - 20) = ((a + 56 : Nat) : Int) := by rw [wrap_id (by omega) (by omega)]; omega
theorem wide_len (n z o : Nat) : (wideR n z o).length = 56 := by simp [wideR, ofN_length]
theorem loc_len (x : Nat) : (locB x).length = 20 := by simp [locB, ofN_length]
set_option maxHeartbeats 4000000 in
theorem find_wide (s : ByteArray) (A c E : List UInt8) (n z o : Nat) (hE : E = endB 65535 4294967295 4294967295 c) (h : s.data.toList = A ++ (wideR n z o ++ (locB A.length ++ E))) (hn : n < 18446744073709551616) (hz : z < 18446744073709551616) (ho : o < 18446744073709551616) (hX : A.length ≤ 900000) (hc : c.length ≤ 65535)
    (hm : ∀ j, A.length + 76 < j → j ≤ A.length + 76 + c.length → (s.data.toList.drop j).take 4 ≠ [80, 75, 5, 6]) (k : Nat) (hk : c.length + 20 < k) :
    tail_Find.f (k + 1) s = some ((A.length : Int), (n : Int), (z : Int), (o : Int), strN c, true, 0) := by
  have hEl : E.length = 22 + c.length := by rw [hE, endB_len]
  obtain ⟨X, hXd⟩ : ∃ X, A ++ (wideR n z o ++ locB A.length) = X := ⟨_, rfl⟩
  obtain ⟨Y, hYd⟩ : ∃ Y, A ++ wideR n z o = Y := ⟨_, rfl⟩
  have hXl : X.length = A.length + 76 := by rw [← hXd, List.length_append, List.length_append, wide_len, loc_len]
  have hYl : Y.length = A.length + 56 := by rw [← hYd, List.length_append, wide_len]
  have hX' : s.data.toList = X ++ E := by rw [h, ← hXd]; simp only [List.append_assoc]
  have hY' : s.data.toList = Y ++ (locB A.length ++ E) := by rw [h, ← hYd]; simp only [List.append_assoc]
  have hsz : s.size = A.length + 76 + (22 + c.length) := by rw [← toList_length s, hX', List.length_append, hEl, hXl]
  have hloc := located_eq s Y E A.length hY' (by omega) (by omega) k (by omega)
  rw [hYl, show A.length + 56 + 20 = A.length + 76 by omega] at hloc
  have hl := last_eq s X c 65535 4294967295 4294967295 (by rw [hX', hE]) (by decide) (by decide) (by decide) (by omega) hc (by rw [hXl]; exact hm) (k + 1) (by omega)
  rw [hXl] at hl
  obtain ⟨k, rfl⟩ : ∃ m, k = m + 1 := ⟨k - 1, by omega⟩
  have hwd := wide_eq s A (locB A.length ++ E) n z o h hn hz ho (by omega) k (by omega)
  have h4 := w76 A.length hX
  have h5 := w56 A.length hX
  have hc5 : ((65535 : Nat) : Int) = 65535 := rfl
  have hc6 : ((4294967295 : Nat) : Int) = 4294967295 := rfl
  unfold tail_Find.f
  rw [hl, Option.bind_some]
  dsimp only
  rw [if_pos rfl, if_pos rfl, if_pos rfl, bne_self_eq_false, tail_Find.j0, if_neg (by decide)]
  unfold tail_record_asks.f
  rw [if_pos hc5, Option.bind_some, if_pos rfl, h4, hloc, Option.bind_some]
  dsimp only
  rw [if_pos rfl, h5, hwd, Option.bind_some]
  dsimp only
  rw [if_pos rfl]
  unfold tail_agree.f
  rw [if_pos hc5, Option.bind_some, if_pos rfl, if_pos hc6, Option.bind_some, if_pos rfl, if_pos hc6, Option.bind_some, if_pos rfl]
theorem wideB_eq (n z o x : Nat) (hx : (o + z) % 18446744073709551616 = x) : wideB n z o = wideR n z o ++ locB x := by
  unfold wideB wideR locB
  rw [hx]
  simp only [List.append_assoc, List.append_nil]
/-- Behind the record's own mark there is none. -/
theorem no_more (A P E : List UInt8) (c : Nat) (hE : E.length = 22 + c) (hli : ¬ Lib.lastIndex (P ++ E) [80, 75, 5, 6] > ((P.length : Nat) : Int)) :
    ∀ j, A.length + P.length < j → j ≤ A.length + P.length + c → ((A ++ (P ++ E)).drop j).take 4 ≠ [80, 75, 5, 6] := by
  intro j h1 h2 he
  have hlen : (P ++ E).length = P.length + (22 + c) := by rw [List.length_append, hE]
  obtain ⟨i, rfl⟩ : ∃ i, j = A.length + i := ⟨j - A.length, by omega⟩
  rw [List.drop_append, List.drop_of_length_le (by omega), List.nil_append, show A.length + i - A.length = i by omega] at he
  have ho : Lib.occAt (P ++ E) [80, 75, 5, 6] i = true := by
    rw [Go.Lib.RK.occAt_win _ _ _ (by rw [hlen]; show i + 4 ≤ _; omega)]
    unfold Go.Lib.RK.win
    show (List.take 4 (List.drop i (P ++ E)) == [80, 75, 5, 6]) = true
    rw [he]; rfl
  apply hli
  unfold Lib.lastIndex
  rw [if_pos (by rw [hlen]; show 4 ≤ _; omega)]
  rcases Lib.lastOcc_spec (P ++ E) [80, 75, 5, 6] ((P ++ E).length - 4 + 1) with ⟨e, hn⟩ | ⟨p, hp, e, hc, hn⟩
  · have := hn i (by omega)
    rw [this] at ho; cases ho
  · show Lib.lastOcc (P ++ E) [80, 75, 5, 6] ((P ++ E).length - 4 + 1) > _
    rw [e]
    by_cases hpi : p < i
    · have := hn i hpi (by omega)
      rw [this] at ho; cases ho
    · omega
end Go.Proofs.Ytdooampgkiodjaa.D18
