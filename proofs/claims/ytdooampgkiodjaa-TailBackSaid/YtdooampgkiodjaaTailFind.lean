/- tail.Find, at bytes that end in an end record: plain Lean. -/
import Derived.Test.YtdooampgkiodjaaAt2
import Derived.Test.YtdooampgkiodjaaAt4
import Derived.Test.YtdooampgkiodjaaAt8
import Derived.Test.YtdooampgkiodjaaGivetailprint
import Derived.Test.YtdooampgkiodjaaPx4
import Derived.Test.YtdooampgkiodjaaPx5
import Derived.Test.YtdooampgkiodjaaPx6
import Derived.Test.YtdooampgkiodjaaPx8
namespace Go.Proofs.Ytdooampgkiodjaa.D18
set_option linter.unusedVariables false
set_option linter.unusedSimpArgs false
open Go Go.RowKit Go.Proofs.Ytdooampgkiodjaa.P Go.Proofs.Ytdooampgkiodjaa.B Go.Proofs.Ytdooampgkiodjaa.Num Go.Proofs.Ytdooampgkiodjaa.Cur Go.Proofs.YtdooampgkiodjaaW.PrintWords Go.Proofs.YtdooampgkiodjaaW.PrintLast Go.Proofs.YtdooampgkiodjaaW.PrintMore

theorem strN_list (l : List UInt8) : (strN l).toList = l := by rw [toL]; rfl
theorem ext_list_of (s : ByteArray) (a b : Nat) (X M Z : List UInt8) (h : s.data.toList = X ++ (M ++ Z)) (ha : a = X.length) (hb : b = X.length + M.length) : (s.extract a b).data.toList = M := by
  rw [extract_list, h, ha, hb, ← List.append_assoc, ← List.length_append, List.take_left, List.drop_left]
theorem leOf2 (n : Nat) (h : n < 65536) : leN (ofN 2 n) = n := by rw [leN_ofN]; omega
theorem leOf4 (n : Nat) (h : n < 4294967296) : leN (ofN 4 n) = n := by rw [leN_ofN]; omega
theorem leOf8 (n : Nat) (h : n < 18446744073709551616) : leN (ofN 8 n) = n := by rw [leN_ofN]; omega
def endR (n z o : Nat) (c : List UInt8) : List UInt8 := ofN 2 0 ++ (ofN 2 0 ++ (ofN 2 n ++ (ofN 2 n ++ (ofN 4 z ++ (ofN 4 o ++ (ofN 2 c.length ++ c))))))
theorem endB_eq (n z o : Nat) (c : List UInt8) : endB n z o c = [80, 75, 5, 6] ++ endR n z o c := by
  unfold endB endR
  rw [List.append_assoc, List.append_assoc, List.append_assoc, List.append_assoc, List.append_assoc, List.append_assoc]
theorem at_nil {s : ByteArray} {a : Int} {R : List UInt8} (h : At s a R) : At s a (R ++ []) := by rw [List.append_nil]; exact h
theorem endB_len (n z o : Nat) (c : List UInt8) : (endB n z o c).length = 22 + c.length := by
  simp [endB, ofN_length]; omega
theorem low_bound (s : ByteArray) (X d : Nat) (hs : s.size = X + d) (hd : d ≤ 65557) (hs2 : s.size ≤ 1000000000) : ((X : Nat) : Int) ≥ mx 0 (wrap64 ((wrap64 ((s.size : Int) - 22)) - 65535)) := by
  rw [wrap_id (x := (s.size : Int) - 22) (by omega) (by omega), wrap_id (by omega) (by omega)]
  unfold mx
  split <;> omega
set_option maxHeartbeats 8000000 in
theorem last_hit (s : ByteArray) (X c : List UInt8) (n z o : Nat) (h : s.data.toList = X ++ endB n z o c) (hn : n < 65536) (hz : z < 4294967296) (ho : o < 4294967296) (hX : X.length ≤ 1000000) (hc : c.length ≤ 65535) (k : Nat) (hk : 8 < k) :
    tail_last.l0 (k + 1) s (X.length : Int) = some ((X.length : Int), 0, 0, (n : Int), (n : Int), (z : Int), (o : Int), strN c, true) := by
  have hsz : s.size = X.length + (22 + c.length) := by rw [← toList_length s, h, List.length_append, endB_len]
  have e0 : leN (ofN 2 0) = 0 := leOf2 _ (by omega)
  have en : leN (ofN 2 n) = n := leOf2 _ (by omega)
  have ez : leN (ofN 4 z) = z := leOf4 _ (by omega)
  have eo : leN (ofN 4 o) = o := leOf4 _ (by omega)
  have ec : leN (ofN 2 c.length) = c.length := leOf2 _ (by omega)
  have hD : (s.extract X.length s.size).data.toList = [80, 75, 5, 6] ++ endR n z o c := by
    rw [ext_list_of s _ _ X (endB n z o c) [] (by rw [List.append_nil]; exact h) rfl (by rw [endB_len]; omega), endB_eq]
  obtain ⟨e, he⟩ : ∃ e, s.extract X.length s.size = e := ⟨_, rfl⟩
  rw [he] at hD
  have hes : e.size ≤ 140737488351232 := by rw [← toList_length e, hD, ← endB_eq, endB_len]; omega
  have b1 := low_bound s X.length (22 + c.length) hsz (by omega) (by omega)
  have b2 : (0 : Int) ≤ (X.length : Int) := by omega
  have b3 : (X.length : Int) ≤ (s.size : Int) := by omega
  have u1 : IntKind.u64.wrap (X.length : Int) = X.length := u64_id (by omega) (by omega)
  have u2 : IntKind.u64.wrap (n : Int) = n := u64_id (by omega) (by omega)
  have u3 : IntKind.u64.wrap (z : Int) = z := u64_id (by omega) (by omega)
  have u4 : IntKind.u64.wrap (o : Int) = o := u64_id (by omega) (by omega)
  have w0 : wrap64 (c.length : Int) = c.length := wrap_id (by omega) (by omega)
  have u5 : IntKind.u64.wrap ((0 : Nat) : Int) = 0 := by decide
  have A0 := At.start e hes
  rw [hD] at A0
  have t1 := take_at (n := 4) A0 rfl
  have A1 := A0.on
  unfold endR at A1
  have t2 := two_at A1 (ofN_length 2 0) k hk
  have A2 := A1.on
  have t3 := two_at A2 (ofN_length 2 0) k hk
  have A3 := A2.on
  have t4 := two_at A3 (ofN_length 2 n) k hk
  have A4 := A3.on
  have t5 := two_at A4 (ofN_length 2 n) k hk
  have A5 := A4.on
  have t6 := four_at A5 (ofN_length 4 z) k hk
  have A6 := A5.on
  have t7 := four_at A6 (ofN_length 4 o) k hk
  have A7 := A6.on
  have t8 := two_at A7 (ofN_length 2 c.length) k hk
  have A8 := A7.on
  have t9 := left_at A8
  have A8' := at_nil A8
  have t10 := take_at (n := (c.length : Int)) A8' rfl
  rw [e0] at t2 t3
  rw [en] at t4 t5
  rw [ez] at t6
  rw [eo] at t7
  rw [ec] at t8
  unfold tail_last.l0
  rw [if_pos b1, if_pos b2, if_pos b3, Int.toNat_natCast, he, show cursor_Over.f e = some (e, 0, 0) from rfl, Option.bind_some]
  dsimp only
  rw [t1, Option.bind_some]; dsimp only
  rw [if_pos (by rw [strN_list]), t2, Option.bind_some]; dsimp only
  rw [t3, Option.bind_some]; dsimp only
  rw [t4, Option.bind_some]; dsimp only
  rw [t5, Option.bind_some]; dsimp only
  rw [t6, Option.bind_some]; dsimp only
  rw [t7, Option.bind_some]; dsimp only
  rw [t8, Option.bind_some]; dsimp only
  unfold cursor_Cursor_Left.f
  rw [Option.bind_some]; dsimp only
  rw [t9, w0, if_pos rfl, t10, Option.bind_some]; dsimp only
  rw [u1, u2, u3, u4, u5]
set_option maxHeartbeats 8000000 in
theorem last_skip (s : ByteArray) (i : Nat) (hi : i + 22 ≤ s.size) (hl : s.size ≤ i + 65557) (hs : s.size ≤ 1000000000) (hm : (s.data.toList.drop i).take 4 ≠ [80, 75, 5, 6]) (k : Nat) :
    tail_last.l0 (k + 1) s (i : Int) = tail_last.l0 k s (wrap64 ((i : Int) - 1)) := by
  have b1 := low_bound s i (s.size - i) (by omega) (by omega) (by omega)
  have b2 : (0 : Int) ≤ (i : Int) := by omega
  have b3 : (i : Int) ≤ (s.size : Int) := by omega
  have hD : (s.extract i s.size).data.toList = (s.data.toList.drop i).take 4 ++ (s.data.toList.drop i).drop 4 := by
    rw [List.take_append_drop, extract_list, List.take_of_length_le (by rw [toList_length]; omega)]
  have hlen : ((s.data.toList.drop i).take 4).length = 4 := by rw [List.length_take, List.length_drop, toList_length]; omega
  obtain ⟨e, he⟩ : ∃ e, s.extract i s.size = e := ⟨_, rfl⟩
  rw [he] at hD
  have hes : e.size ≤ 140737488351232 := by rw [← he]; simp; omega
  have A0 := At.start e hes
  rw [hD] at A0
  have t1 := take_at (n := 4) A0 (by rw [hlen]; rfl)
  conv => lhs; unfold tail_last.l0
  rw [if_pos b1, if_pos b2, if_pos b3, Int.toNat_natCast, he, show cursor_Over.f e = some (e, 0, 0) from rfl, Option.bind_some]
  dsimp only
  rw [t1, Option.bind_some]; dsimp only
  rw [if_neg (by rw [strN_list]; exact hm)]
theorem last_find (s : ByteArray) (X c : List UInt8) (n z o : Nat) (h : s.data.toList = X ++ endB n z o c) (hn : n < 65536) (hz : z < 4294967296) (ho : o < 4294967296) (hX : X.length ≤ 1000000) (hc : c.length ≤ 65535)
    (hm : ∀ j, X.length < j → j ≤ X.length + c.length → (s.data.toList.drop j).take 4 ≠ [80, 75, 5, 6]) (k : Nat) (hk : 8 < k) : ∀ d, d ≤ c.length →
    tail_last.l0 (k + 1 + d) s ((X.length + d : Nat) : Int) = some ((X.length : Int), 0, 0, (n : Int), (n : Int), (z : Int), (o : Int), strN c, true)
  | 0, _ => last_hit s X c n z o h hn hz ho hX hc k hk
  | d + 1, hd => by
    have hsz : s.size = X.length + (22 + c.length) := by rw [← toList_length s, h, List.length_append, endB_len]
    have := last_skip s (X.length + (d + 1)) (by omega) (by omega) (by omega) (hm _ (by omega) (by omega)) (k + 1 + d)
    rw [show k + 1 + (d + 1) = k + 1 + d + 1 from rfl, this, wrap_id (by omega) (by omega), show ((X.length + (d + 1) : Nat) : Int) - 1 = ((X.length + d : Nat) : Int) by omega]
    exact last_find s X c n z o h hn hz ho hX hc hm k hk d (by omega)
theorem last_eq (s : ByteArray) (X c : List UInt8) (n z o : Nat) (h : s.data.toList = X ++ endB n z o c) (hn : n < 65536) (hz : z < 4294967296) (ho : o < 4294967296) (hX : X.length ≤ 1000000) (hc : c.length ≤ 65535)
    (hm : ∀ j, X.length < j → j ≤ X.length + c.length → (s.data.toList.drop j).take 4 ≠ [80, 75, 5, 6]) (k : Nat) (hk : c.length + 10 < k) :
    tail_last.f k s = some ((X.length : Int), 0, 0, (n : Int), (n : Int), (z : Int), (o : Int), strN c, true) := by
  have hsz : s.size = X.length + (22 + c.length) := by rw [← toList_length s, h, List.length_append, endB_len]
  have := last_find s X c n z o h hn hz ho hX hc hm (k - 1 - c.length) (by omega) c.length (Nat.le_refl _)
  rw [show k - 1 - c.length + 1 + c.length = k by omega] at this
  unfold tail_last.f
  rw [wrap_id (by omega) (by omega), show (s.size : Int) - 22 = ((X.length + c.length : Nat) : Int) by omega]
  exact this
def locB (x : Nat) : List UInt8 := [80, 75, 6, 7] ++ (ofN 4 0 ++ (ofN 8 x ++ (ofN 4 1 ++ [])))
set_option maxHeartbeats 8000000 in
theorem located_eq (s : ByteArray) (Y Z : List UInt8) (x : Nat) (h : s.data.toList = Y ++ (locB x ++ Z)) (hx : x ≤ Y.length) (hs : s.size ≤ 1000000000) (k : Nat) (hk : 8 < k) :
    tail_located.f k s ((Y.length + 20 : Nat) : Int) = some ((x : Int), true) := by
  have hL : (locB x).length = 20 := by simp [locB, ofN_length]
  have hsz : s.size = Y.length + (20 + Z.length) := by rw [← toList_length s, h, List.length_append, List.length_append, hL]
  have e0 : leN (ofN 4 0) = 0 := leOf4 _ (by omega)
  have e1 : leN (ofN 4 1) = 1 := leOf4 _ (by omega)
  have ex : leN (ofN 8 x) = x := leOf8 _ (by omega)
  have hD : (s.extract Y.length (Y.length + 20)).data.toList = locB x := ext_list_of s _ _ Y (locB x) Z h rfl (by rw [hL])
  obtain ⟨e, he⟩ : ∃ e, s.extract Y.length (Y.length + 20) = e := ⟨_, rfl⟩
  rw [he] at hD
  have hes : e.size ≤ 140737488351232 := by rw [← toList_length e, hD, hL]; omega
  have b0 : ¬ ((Y.length + 20 : Nat) : Int) < 20 := by omega
  have b1 : (0 : Int) ≤ (Y.length : Int) := by omega
  have b2 : (Y.length : Int) ≤ ((Y.length + 20 : Nat) : Int) := by omega
  have b3 : ((Y.length + 20 : Nat) : Int) ≤ (s.size : Int) := by omega
  have b4 : ¬ (x : Int) > (Y.length : Int) := by omega
  have u1 : IntKind.u64.wrap (Y.length : Int) = Y.length := u64_id (by omega) (by omega)
  have w1 : wrap64 (((Y.length + 20 : Nat) : Int) - 20) = (Y.length : Int) := by rw [wrap_id (by omega) (by omega)]; omega
  have w2 : wrap64 (x : Int) = x := wrap_id (by omega) (by omega)
  have A0 := At.start e hes
  rw [hD] at A0
  unfold locB at A0
  have t1 := take_at (n := 4) A0 rfl
  have A1 := A0.on
  have t2 := four_at A1 (ofN_length 4 0) k hk
  have A2 := A1.on
  have t3 := eight_at A2 (ofN_length 8 x) k hk
  have A3 := A2.on
  have t4 := four_at A3 (ofN_length 4 1) k hk
  rw [e0] at t2
  rw [ex] at t3
  rw [e1] at t4
  unfold tail_located.f
  rw [if_neg b0, w1, if_pos b1, if_pos b2, if_pos b3, Int.toNat_natCast, Int.toNat_natCast, he, show cursor_Over.f e = some (e, 0, 0) from rfl, Option.bind_some]
  dsimp only
  rw [t1, Option.bind_some]; dsimp only
  rw [t2, Option.bind_some]; dsimp only
  rw [t3, Option.bind_some]; dsimp only
  rw [t4, Option.bind_some]; dsimp only
  rw [if_pos (by rw [strN_list]), if_pos (by rfl), if_pos (by rfl), u1, if_neg b4, w2]
def wideR (n z o : Nat) : List UInt8 := [80, 75, 6, 6] ++ (ofN 8 44 ++ ((ofN 2 45 ++ ofN 2 45) ++ (ofN 4 0 ++ (ofN 4 0 ++ (ofN 8 n ++ (ofN 8 n ++ (ofN 8 z ++ (ofN 8 o ++ []))))))))
set_option maxHeartbeats 8000000 in
theorem wide_eq (s : ByteArray) (Y Z : List UInt8) (n z o : Nat) (h : s.data.toList = Y ++ (wideR n z o ++ Z)) (hn : n < 18446744073709551616) (hz : z < 18446744073709551616) (ho : o < 18446744073709551616) (hs : s.size ≤ 1000000000) (k : Nat) (hk : 8 < k) :
    tail_wide.f (k + 1) s (Y.length : Int) ((Y.length + 56 : Nat) : Int) = some ((Y.length : Int), 0, 0, (n : Int), (n : Int), (z : Int), (o : Int), (⟨#[]⟩ : ByteArray), true) := by
  have hL : (wideR n z o).length = 56 := by simp [wideR, ofN_length]
  have hsz : s.size = Y.length + (56 + Z.length) := by rw [← toList_length s, h, List.length_append, List.length_append, hL]
  have e0 : leN (ofN 4 0) = 0 := leOf4 _ (by omega)
  have e44 : leN (ofN 8 44) = 44 := leOf8 _ (by omega)
  have en : leN (ofN 8 n) = n := leOf8 _ (by omega)
  have ez : leN (ofN 8 z) = z := leOf8 _ (by omega)
  have eo : leN (ofN 8 o) = o := leOf8 _ (by omega)
  have hD : (s.extract Y.length (Y.length + 56)).data.toList = wideR n z o := ext_list_of s _ _ Y (wideR n z o) Z h rfl (by rw [hL])
  obtain ⟨e, he⟩ : ∃ e, s.extract Y.length (Y.length + 56) = e := ⟨_, rfl⟩
  rw [he] at hD
  have hes : e.size ≤ 140737488351232 := by rw [← toList_length e, hD, hL]; omega
  have b1 : (0 : Int) ≤ (Y.length : Int) := by omega
  have b2 : (Y.length : Int) ≤ ((Y.length + 56 : Nat) : Int) := by omega
  have b3 : ((Y.length + 56 : Nat) : Int) ≤ (s.size : Int) := by omega
  have u1 : IntKind.u64.wrap (Y.length : Int) = Y.length := u64_id (by omega) (by omega)
  have w1 : IntKind.u64.wrap (wrap64 ((wrap64 (((Y.length + 56 : Nat) : Int) - (Y.length : Int))) - 12)) = 44 := by
    rw [wrap_id (x := ((Y.length + 56 : Nat) : Int) - (Y.length : Int)) (by omega) (by omega), wrap_id (by omega) (by omega), u64_id (by omega) (by omega)]; omega
  have u5 : IntKind.u64.wrap ((0 : Nat) : Int) = 0 := by decide
  have A0 := At.start e hes
  rw [hD] at A0
  unfold wideR at A0
  have t1 := take_at (n := 4) A0 rfl
  have A1 := A0.on
  have t2 := eight_at A1 (ofN_length 8 44) (k + 1) (by omega)
  have A2 := A1.on
  have t3 := take_at (n := 4) A2 (by rw [List.length_append, ofN_length]; rfl)
  have A3 := A2.on
  have t4 := four_at A3 (ofN_length 4 0) k hk
  have A4 := A3.on
  have t5 := four_at A4 (ofN_length 4 0) k hk
  have A5 := A4.on
  have t6 := eight_at A5 (ofN_length 8 n) k hk
  have A6 := A5.on
  have t7 := eight_at A6 (ofN_length 8 n) k hk
  have A7 := A6.on
  have t8 := eight_at A7 (ofN_length 8 z) k hk
  have A8 := A7.on
  have t9 := eight_at A8 (ofN_length 8 o) k hk
  rw [e44] at t2
  rw [e0] at t4 t5
  rw [en] at t6 t7
  rw [ez] at t8
  rw [eo] at t9
  unfold tail_wide.f
  rw [if_pos b1, if_pos b2, if_pos b3, Int.toNat_natCast, Int.toNat_natCast, he, show cursor_Over.f e = some (e, 0, 0) from rfl, Option.bind_some]
  dsimp only
  rw [t1, Option.bind_some]; dsimp only
  rw [t2, Option.bind_some]; dsimp only
  rw [if_pos (by rw [strN_list]), if_neg (by decide), w1, show ((((44 : Nat) : Int)) != 44) = false from by decide]
  rw [tail_wide.j0, if_neg (by decide), t3, Option.bind_some]; dsimp only
  rw [t4, Option.bind_some]; dsimp only
  rw [t5, Option.bind_some]; dsimp only
  rw [t6, Option.bind_some]; dsimp only
  rw [t7, Option.bind_some]; dsimp only
  rw [t8, Option.bind_some]; dsimp only
  rw [t9, Option.bind_some]; dsimp only
  unfold cursor_Cursor_Err.f
  rw [Option.bind_some]; dsimp only
  rw [if_pos rfl, u5, if_pos rfl, if_pos rfl, u1, beq_self_eq_true]
end Go.Proofs.Ytdooampgkiodjaa.D18
