import Derived.Test.YtdooampgkiodjaaMg1
import Derived.Test.YtdooampgkiodjaaPx4
import Derived.Test.YtdooampgkiodjaaPx5
import Derived.Test.YtdooampgkiodjaaPx6
import Derived.Test.YtdooampgkiodjaaPx8
import Derived.Test.YtdooampgkiodjaaPx14
import Derived.Test.YtdooampgkiodjaaPx15
import Derived.Test.YtdooampgkiodjaaPx16
import Derived.Test.YtdooampgkiodjaaProg
import Derived.Shelf.Strings.LastIndexAll
import Derived.Test.YtdooampgkiodjaaWMore
import Derived.ChangeArms
import Derived.DataReads
import Derived.SizedLaws
import Derived.WideShapes
import Derived.Lib.RabinKarp
import Derived.Test.YtdooampgkiodjaaPx10
namespace Go.Proofs.Ytdooampgkiodjaa.D18
set_option linter.unusedVariables false
set_option linter.unusedSimpArgs false
open Go Go.RowKit Go.Proofs.Ytdooampgkiodjaa.P Go.Proofs.Ytdooampgkiodjaa.B Go.Proofs.Ytdooampgkiodjaa.Num Go.Proofs.Ytdooampgkiodjaa.Cur Go.Proofs.YtdooampgkiodjaaW.PrintWords Go.Proofs.YtdooampgkiodjaaW.PrintLast Go.Proofs.YtdooampgkiodjaaW.PrintMore
theorem strN_list (l : List UInt8) : (strN l).toList = l := by rw [toL]; rfl
theorem ext_list_of (s : ByteArray) (a b : Nat) (X M Z : List UInt8) (h : s.data.toList = X ++ (M ++ Z)) (ha : a = X.length) (hb : b = X.length + M.length) : (s.extract a b).data.toList = M := by
  rw [extract_list, h, ha, hb, ← List.append_assoc, ← List.length_append, List.take_left, List.drop_left]
theorem leOf2 (n : Nat) (h : n < 65536) : leN (ofN 2 n) = n := by rw [leN_ofN]; omega
theorem leOf4 (n : Nat) (h : n < 4294967296) : leN (ofN 4 n) = n := by rw [leN_ofN]; omega
theorem leOf8 (n : Nat) (h : n < 18446744073709551616) : leN (ofN 8 n) = n := by rw [leN_ofN]; omega
def endR (n z o : Nat) (c : List UInt8) : List UInt8 := ofN 2 0 ++ (ofN 2 0 ++ (ofN 2 n ++ (ofN 2 n ++ (ofN 4 z ++ (ofN 4 o ++ (ofN 2 c.length ++ c))))))
theorem endB_eq (n z o : Nat) (c : List UInt8) : endB n z o c = [80, 75, 5, 6] ++ endR n z o c := by
  unfold endB endR
  rw [List.append_assoc, List.append_assoc, List.append_assoc, List.append_assoc, List.append_assoc, List.append_assoc]
theorem at_nil {s : ByteArray} {a : Int} {R : List UInt8} (h : At s a R) : At s a (R ++ []) := by rw [List.append_nil]; exact h
theorem endB_len (n z o : Nat) (c : List UInt8) : (endB n z o c).length = 22 + c.length := by
  simp [endB, ofN_length]; omega
theorem low_bound (s : ByteArray) (X d : Nat) (hs : s.size = X + d) (hd : d ≤ 65557) (hs2 : s.size ≤ 1000000000) : ((X : Nat) : Int) ≥ mx 0 (wrap64 ((wrap64 ((s.size : Int) - 22)) - 65535)) := by
  rw [wrap_id (x := (s.size : Int) - 22) (by omega) (by omega), wrap_id (by omega) (by omega)]
  unfold mx
  split <;> omega
set_option maxHeartbeats 8000000 in
theorem last_hit (s : ByteArray) (X c : List UInt8) (n z o : Nat) (h : s.data.toList = X ++ endB n z o c) (hn : n < 65536) (hz : z < 4294967296) (ho : o < 4294967296) (hX : X.length ≤ 1000000) (hc : c.length ≤ 65535) (k : Nat) (hk : 8 < k) :
    tail_last.l0 (k + 1) s (X.length : Int) = some ((X.length : Int), 0, 0, (n : Int), (n : Int), (z : Int), (o : Int), strN c, true) := by
  have hsz : s.size = X.length + (22 + c.length) := by rw [← toList_length s, h, List.length_append, endB_len]
  have e0 : leN (ofN 2 0) = 0 := leOf2 _ (by omega)
  have en : leN (ofN 2 n) = n := leOf2 _ (by omega)
  have ez : leN (ofN 4 z) = z := leOf4 _ (by omega)
  have eo : leN (ofN 4 o) = o := leOf4 _ (by omega)
  have ec : leN (ofN 2 c.length) = c.length := leOf2 _ (by omega)
  have hD : (s.extract X.length s.size).data.toList = [80, 75, 5, 6] ++ endR n z o c := by
    rw [ext_list_of s _ _ X (endB n z o c) [] (by rw [List.append_nil]; exact h) rfl (by rw [endB_len]; omega), endB_eq]
  obtain ⟨e, he⟩ : ∃ e, s.extract X.length s.size = e := ⟨_, rfl⟩
  rw [he] at hD
  have hes : e.size ≤ 140737488351232 := by rw [← toList_length e, hD, ← endB_eq, endB_len]; omega
  have b1 := low_bound s X.length (22 + c.length) hsz (by omega) (by omega)
  have b2 : (0 : Int) ≤ (X.length : Int) := by omega
  have b3 : (X.length : Int) ≤ (s.size : Int) := by omega
  have u1 : IntKind.u64.wrap (X.length : Int) = X.length := u64_id (by omega) (by omega)
  have u2 : IntKind.u64.wrap (n : Int) = n := u64_id (by omega) (by omega)
  have u3 : IntKind.u64.wrap (z : Int) = z := u64_id (by omega) (by omega)
  have u4 : IntKind.u64.wrap (o : Int) = o := u64_id (by omega) (by omega)
  have w0 : wrap64 (c.length : Int) = c.length := wrap_id (by omega) (by omega)
  have u5 : IntKind.u64.wrap ((0 : Nat) : Int) = 0 := by decide
  have A0 := At.start e hes
  rw [hD] at A0
  have t1 := take_at (n := 4) A0 rfl
  have A1 := A0.on
  unfold endR at A1
  have t2 := two_at A1 (ofN_length 2 0) k hk
  have A2 := A1.on
  have t3 := two_at A2 (ofN_length 2 0) k hk
  have A3 := A2.on
  have t4 := two_at A3 (ofN_length 2 n) k hk
  have A4 := A3.on
  have t5 := two_at A4 (ofN_length 2 n) k hk
  have A5 := A4.on
  have t6 := four_at A5 (ofN_length 4 z) k hk
  have A6 := A5.on
  have t7 := four_at A6 (ofN_length 4 o) k hk
  have A7 := A6.on
  have t8 := two_at A7 (ofN_length 2 c.length) k hk
  have A8 := A7.on
  have t9 := left_at A8
  have A8' := at_nil A8
  have t10 := take_at (n := (c.length : Int)) A8' rfl
  rw [e0] at t2 t3
  rw [en] at t4 t5
  rw [ez] at t6
  rw [eo] at t7
  rw [ec] at t8
  unfold tail_last.l0
  rw [if_pos b1, if_pos b2, if_pos b3, Int.toNat_natCast, he, show cursor_Over.f e = some (e, 0, 0) from rfl, Option.bind_some]
  dsimp only
  rw [t1, Option.bind_some]; dsimp only
  rw [if_pos (by rw [strN_list]), t2, Option.bind_some]; dsimp only
  rw [t3, Option.bind_some]; dsimp only
  rw [t4, Option.bind_some]; dsimp only
  rw [t5, Option.bind_some]; dsimp only
  rw [t6, Option.bind_some]; dsimp only
  rw [t7, Option.bind_some]; dsimp only
  rw [t8, Option.bind_some]; dsimp only
  unfold cursor_Cursor_Left.f
  rw [Option.bind_some]; dsimp only
  rw [t9, w0, if_pos rfl, t10, Option.bind_some]; dsimp only
  rw [u1, u2, u3, u4, u5]
set_option maxHeartbeats 8000000 in
theorem last_skip (s : ByteArray) (i : Nat) (hi : i + 22 ≤ s.size) (hl : s.size ≤ i + 65557) (hs : s.size ≤ 1000000000) (hm : (s.data.toList.drop i).take 4 ≠ [80, 75, 5, 6]) (k : Nat) :
    tail_last.l0 (k + 1) s (i : Int) = tail_last.l0 k s (wrap64 ((i : Int) - 1)) := by
  have b1 := low_bound s i (s.size - i) (by omega) (by omega) (by omega)
  have b2 : (0 : Int) ≤ (i : Int) := by omega
  have b3 : (i : Int) ≤ (s.size : Int) := by omega
  have hD : (s.extract i s.size).data.toList = (s.data.toList.drop i).take 4 ++ (s.data.toList.drop i).drop 4 := by
    rw [List.take_append_drop, extract_list, List.take_of_length_le (by rw [toList_length]; omega)]
  have hlen : ((s.data.toList.drop i).take 4).length = 4 := by rw [List.length_take, List.length_drop, toList_length]; omega
  obtain ⟨e, he⟩ : ∃ e, s.extract i s.size = e := ⟨_, rfl⟩
  rw [he] at hD
  have hes : e.size ≤ 140737488351232 := by rw [← he]; simp; omega
  have A0 := At.start e hes
  rw [hD] at A0
  have t1 := take_at (n := 4) A0 (by rw [hlen]; rfl)
  conv => lhs; unfold tail_last.l0
  rw [if_pos b1, if_pos b2, if_pos b3, Int.toNat_natCast, he, show cursor_Over.f e = some (e, 0, 0) from rfl, Option.bind_some]
  dsimp only
  rw [t1, Option.bind_some]; dsimp only
  rw [if_neg (by rw [strN_list]; exact hm)]
theorem last_find (s : ByteArray) (X c : List UInt8) (n z o : Nat) (h : s.data.toList = X ++ endB n z o c) (hn : n < 65536) (hz : z < 4294967296) (ho : o < 4294967296) (hX : X.length ≤ 1000000) (hc : c.length ≤ 65535)
    (hm : ∀ j, X.length < j → j ≤ X.length + c.length → (s.data.toList.drop j).take 4 ≠ [80, 75, 5, 6]) (k : Nat) (hk : 8 < k) : ∀ d, d ≤ c.length →
    tail_last.l0 (k + 1 + d) s ((X.length + d : Nat) : Int) = some ((X.length : Int), 0, 0, (n : Int), (n : Int), (z : Int), (o : Int), strN c, true)
  | 0, _ => last_hit s X c n z o h hn hz ho hX hc k hk
  | d + 1, hd => by
    have hsz : s.size = X.length + (22 + c.length) := by rw [← toList_length s, h, List.length_append, endB_len]
    have := last_skip s (X.length + (d + 1)) (by omega) (by omega) (by omega) (hm _ (by omega) (by omega)) (k + 1 + d)
    rw [show k + 1 + (d + 1) = k + 1 + d + 1 from rfl, this, wrap_id (by omega) (by omega), show ((X.length + (d + 1) : Nat) : Int) - 1 = ((X.length + d : Nat) : Int) by omega]
    exact last_find s X c n z o h hn hz ho hX hc hm k hk d (by omega)
theorem last_eq (s : ByteArray) (X c : List UInt8) (n z o : Nat) (h : s.data.toList = X ++ endB n z o c) (hn : n < 65536) (hz : z < 4294967296) (ho : o < 4294967296) (hX : X.length ≤ 1000000) (hc : c.length ≤ 65535)
    (hm : ∀ j, X.length < j → j ≤ X.length + c.length → (s.data.toList.drop j).take 4 ≠ [80, 75, 5, 6]) (k : Nat) (hk : c.length + 10 < k) :
    tail_last.f k s = some ((X.length : Int), 0, 0, (n : Int), (n : Int), (z : Int), (o : Int), strN c, true) := by
  have hsz : s.size = X.length + (22 + c.length) := by rw [← toList_length s, h, List.length_append, endB_len]
  have := last_find s X c n z o h hn hz ho hX hc hm (k - 1 - c.length) (by omega) c.length (Nat.le_refl _)
  rw [show k - 1 - c.length + 1 + c.length = k by omega] at this
  unfold tail_last.f
  rw [wrap_id (by omega) (by omega), show (s.size : Int) - 22 = ((X.length + c.length : Nat) : Int) by omega]
  exact this
def locB (x : Nat) : List UInt8 := [80, 75, 6, 7] ++ (ofN 4 0 ++ (ofN 8 x ++ (ofN 4 1 ++ [])))
def wideR (n z o : Nat) : List UInt8 := [80, 75, 6, 6] ++ (ofN 8 44 ++ ((ofN 2 45 ++ ofN 2 45) ++ (ofN 4 0 ++ (ofN 4 0 ++ (ofN 8 n ++ (ofN 8 n ++ (ofN 8 z ++ (ofN 8 o ++ []))))))))
end Go.Proofs.Ytdooampgkiodjaa.D18
namespace Go.Proofs.Ytdooampgkiodjaa.D18
set_option linter.unusedVariables false
open Go Go.RowKit Go.Proofs.Ytdooampgkiodjaa.P Go.Proofs.Ytdooampgkiodjaa.B Go.Proofs.Ytdooampgkiodjaa.Num Go.Proofs.YtdooampgkiodjaaW.PrintWords Go.Proofs.YtdooampgkiodjaaW.PrintLast Go.Proofs.YtdooampgkiodjaaW.PrintMore
def fld (l : List UInt8) (a w : Nat) : Nat := leN ((l.drop a).take w)
def isE (l : List UInt8) (a : Nat) : Prop := fld l a 4 = 101010256 ∧ fld l (a + 20) 2 = l.length - a - 22
instance (l : List UInt8) (a : Nat) : Decidable (isE l a) := by unfold isE; exact inferInstance
def lastE (l : List UInt8) : Nat → Option Nat
  | 0 => if isE l 0 then some 0 else none
  | i + 1 => if isE l (i + 1) then some (i + 1) else lastE l i
def lastOf (l : List UInt8) : Option Nat := if l.length < 22 then none else lastE l (l.length - 22)
abbrev Ans := Int × Int × Int × Int × ByteArray × Bool × Int
def noE (e : Int) : Ans := (0, 0, 0, 0, (⟨#[]⟩ : ByteArray), false, e)
def wideE (l : List UInt8) (c : ByteArray) (a n5 n6 n7 x : Nat) : Ans :=
  if a - 20 - x < 56 then noE 31
  else if ¬ (fld l x 4 = 101075792 ∧ fld l (x + 4) 8 = a - 20 - x - 12 ∧ fld l (x + 16) 4 = 0 ∧ fld l (x + 20) 4 = 0 ∧ fld l (x + 24) 8 = fld l (x + 32) 8) then noE 31
  else if ¬ ((n5 = 65535 ∨ n5 = fld l (x + 32) 8) ∧ (n6 = 4294967295 ∨ n6 = fld l (x + 40) 8) ∧ (n7 = 4294967295 ∨ n7 = fld l (x + 48) 8)) then noE 31
  else ((x : Int), (fld l (x + 32) 8 : Int), (fld l (x + 40) 8 : Int), (fld l (x + 48) 8 : Int), c, true, 0)
def findE (s : ByteArray) (a : Nat) : Ans :=
  let l := s.data.toList
  if ¬ (fld l (a + 4) 2 = 0 ∧ fld l (a + 6) 2 = 0 ∧ fld l (a + 8) 2 = fld l (a + 10) 2) then noE 30
  else if fld l (a + 10) 2 ≠ 65535 ∧ fld l (a + 12) 4 ≠ 4294967295 ∧ fld l (a + 16) 4 ≠ 4294967295 then ((a : Int), (fld l (a + 10) 2 : Int), (fld l (a + 12) 4 : Int), (fld l (a + 16) 4 : Int), s.extract (a + 22) s.size, false, 0)
  else if a < 20 then noE 31
  else if ¬ (fld l (a - 20) 4 = 117853008 ∧ fld l (a - 16) 4 = 0 ∧ fld l (a - 4) 4 = 1 ∧ fld l (a - 12) 8 ≤ a - 20) then noE 31
  else wideE l (s.extract (a + 22) s.size) a (fld l (a + 10) 2) (fld l (a + 12) 4) (fld l (a + 16) 4) (fld l (a - 12) 8)
def spec18 (s : ByteArray) : Ans := match lastOf s.data.toList with | none => noE 30 | some a => findE s a
end Go.Proofs.Ytdooampgkiodjaa.D18
namespace Go.Proofs.Ytdooampgkiodjaa.D18
set_option linter.unusedVariables false
set_option linter.unusedSimpArgs false
open Go Go.RowKit Go.Proofs.Ytdooampgkiodjaa.P Go.Proofs.Ytdooampgkiodjaa.B Go.Proofs.Ytdooampgkiodjaa.Num Go.Proofs.Ytdooampgkiodjaa.Cur Go.Proofs.YtdooampgkiodjaaW.PrintWords Go.Proofs.YtdooampgkiodjaaW.PrintLast Go.Proofs.YtdooampgkiodjaaW.PrintMore
theorem leN_inj : ∀ (a b : List UInt8), a.length = b.length → leN a = leN b → a = b
  | [], [], _, _ => rfl
  | [], _ :: _, h, _ => by simp at h
  | _ :: _, [], h, _ => by simp at h
  | x :: a, y :: b, h, e => by
    have hx := x.toNat_lt
    have hy := y.toNat_lt
    rw [leN, leN] at e
    rw [leN_inj a b (by simpa using h) (by omega), UInt8.toNat_inj.1 (show x.toNat = y.toNat by omega)]
theorem leN_bound : ∀ (a : List UInt8), leN a < 256 ^ a.length
  | [] => by simp [leN]
  | x :: a => by
    have hx := x.toNat_lt
    have := leN_bound a
    rw [leN, List.length_cons, Nat.pow_succ]
    omega
theorem fld_lt (l : List UInt8) (a w : Nat) : fld l a w < 256 ^ w := by
  refine Nat.lt_of_lt_of_le (leN_bound _) (Nat.pow_le_pow_right (by omega) ?_)
  rw [List.length_take]; omega
theorem fld2 (l : List UInt8) (a : Nat) : fld l a 2 < 65536 := fld_lt l a 2
theorem fld4 (l : List UInt8) (a : Nat) : fld l a 4 < 4294967296 := fld_lt l a 4
theorem fld8 (l : List UInt8) (a : Nat) : fld l a 8 < 18446744073709551616 := fld_lt l a 8
theorem mark_iff (l : List UInt8) (a m : Nat) (M : List UInt8) (h : a + 4 ≤ l.length) (hM : M.length = 4) (hm : leN M = m) : ((l.drop a).take 4 = M) ↔ fld l a 4 = m := by
  unfold fld
  constructor
  · intro e; rw [e, hm]
  · intro e
    exact leN_inj _ _ (by rw [List.length_take, List.length_drop, hM]; omega) (by rw [e, hm])
def nums : List Nat → List UInt8 → List Int
  | [], _ => []
  | w :: ws, R => ((leN (R.take w) : Nat) : Int) :: nums ws (R.drop w)
theorem drop_list (s : ByteArray) (a : Nat) : (s.extract a s.size).data.toList = s.data.toList.drop a := by
  rw [extract_list, List.take_of_length_le (by rw [toList_length]; omega)]
theorem lastE_le (l : List UInt8) : ∀ (i a : Nat), lastE l i = some a → a ≤ i ∧ isE l a
  | 0, a, h => by rw [lastE] at h; split at h <;> simp_all
  | i + 1, a, h => by
    rw [lastE] at h
    split at h
    · rename_i hh
      obtain rfl := Option.some.inj h
      exact ⟨Nat.le_refl _, hh⟩
    · have := lastE_le l i a h; exact ⟨by omega, this.2⟩
theorem lastOf_le (l : List UInt8) (a : Nat) (h : lastOf l = some a) : a + 22 ≤ l.length ∧ isE l a := by
  unfold lastOf at h
  split at h
  · cases h
  · have := lastE_le l _ a h; exact ⟨by omega, this.2⟩
theorem take_fld {e : ByteArray} {a : Int} {l : List UInt8} {p n : Nat} (A : At e a (l.drop p)) (h : p + n ≤ l.length) : cursor_Cursor_Take.f e a 0 (n : Int) = some (strN ((l.drop p).take n), e, a + n, 0) ∧ At e (a + n) (l.drop (p + n)) := by
  have hl : ((l.drop p).take n).length = n := by rw [List.length_take, List.length_drop]; omega
  have A' : At e a ((l.drop p).take n ++ l.drop (p + n)) := by rw [← List.drop_drop, List.take_append_drop]; exact A
  have t := take_at (n := (n : Int)) A' (by rw [hl])
  have A2 := A'.on
  rw [hl] at t A2
  exact ⟨t, A2⟩
theorem two_fld {e : ByteArray} {a : Int} {l : List UInt8} {p : Nat} (A : At e a (l.drop p)) (h : p + 2 ≤ l.length) (k : Nat) (hk : 8 < k) : cursor_Cursor_Two.f k e a 0 = some ((fld l p 2 : Int), e, a + 2, 0) ∧ At e (a + 2) (l.drop (p + 2)) := by
  have hl : ((l.drop p).take 2).length = 2 := by rw [List.length_take, List.length_drop]; omega
  have A' : At e a ((l.drop p).take 2 ++ l.drop (p + 2)) := by rw [← List.drop_drop, List.take_append_drop]; exact A
  have t := two_at A' hl k hk
  have A2 := A'.on
  rw [hl] at t A2
  exact ⟨t, A2⟩
theorem four_fld {e : ByteArray} {a : Int} {l : List UInt8} {p : Nat} (A : At e a (l.drop p)) (h : p + 4 ≤ l.length) (k : Nat) (hk : 8 < k) : cursor_Cursor_Four.f k e a 0 = some ((fld l p 4 : Int), e, a + 4, 0) ∧ At e (a + 4) (l.drop (p + 4)) := by
  have hl : ((l.drop p).take 4).length = 4 := by rw [List.length_take, List.length_drop]; omega
  have A' : At e a ((l.drop p).take 4 ++ l.drop (p + 4)) := by rw [← List.drop_drop, List.take_append_drop]; exact A
  have t := four_at A' hl k hk
  have A2 := A'.on
  rw [hl] at t A2
  exact ⟨t, A2⟩
theorem eight_fld {e : ByteArray} {a : Int} {l : List UInt8} {p : Nat} (A : At e a (l.drop p)) (h : p + 8 ≤ l.length) (k : Nat) (hk : 8 < k) : cursor_Cursor_Eight.f k e a 0 = some ((fld l p 8 : Int), e, a + 8, 0) ∧ At e (a + 8) (l.drop (p + 8)) := by
  have hl : ((l.drop p).take 8).length = 8 := by rw [List.length_take, List.length_drop]; omega
  have A' : At e a ((l.drop p).take 8 ++ l.drop (p + 8)) := by rw [← List.drop_drop, List.take_append_drop]; exact A
  have t := eight_at A' hl k hk
  have A2 := A'.on
  rw [hl] at t A2
  exact ⟨t, A2⟩
theorem strN_drop (s : ByteArray) (a : Nat) : strN (s.data.toList.drop a) = s.extract a s.size := by
  apply ByteArray.ext
  rw [← drop_list]; rfl
set_option maxHeartbeats 8000000 in
theorem last_step (s : ByteArray) (i : Nat) (hi : i + 22 ≤ s.size) (hs : s.size ≤ 5000) (k : Nat) (hk : 8 < k) :
    tail_last.l0 (k + 1) s (i : Int) = if isE s.data.toList i then some ((i : Int), (fld s.data.toList (i + 4) 2 : Int), (fld s.data.toList (i + 6) 2 : Int), (fld s.data.toList (i + 8) 2 : Int), (fld s.data.toList (i + 10) 2 : Int), (fld s.data.toList (i + 12) 4 : Int), (fld s.data.toList (i + 16) 4 : Int), s.extract (i + 22) s.size, true) else tail_last.l0 k s (wrap64 ((i : Int) - 1)) := by
  have hl := toList_length s
  have b1 := low_bound s i (s.size - i) (by omega) (by omega) (by omega)
  have b2 : (0 : Int) ≤ (i : Int) := by omega
  have b3 : (i : Int) ≤ (s.size : Int) := by omega
  obtain ⟨l, hll⟩ : ∃ l, s.data.toList = l := ⟨_, rfl⟩
  have hD := drop_list s i
  have hX := strN_drop s (i + 22)
  rw [hll] at hl hD hX ⊢
  have hes : (s.extract i s.size).size ≤ 140737488351232 := by simp; omega
  obtain ⟨e, he⟩ : ∃ e, s.extract i s.size = e := ⟨_, rfl⟩
  rw [he] at hD hes
  have A0 := At.start e hes
  rw [hD] at A0
  obtain ⟨t1, A1⟩ := take_fld (n := 4) A0 (by omega)
  obtain ⟨t2, A2⟩ := two_fld A1 (by omega) k hk
  obtain ⟨t3, A3⟩ := two_fld A2 (by omega) k hk
  obtain ⟨t4, A4⟩ := two_fld A3 (by omega) k hk
  obtain ⟨t5, A5⟩ := two_fld A4 (by omega) k hk
  obtain ⟨t6, A6⟩ := four_fld A5 (by omega) k hk
  obtain ⟨t7, A7⟩ := four_fld A6 (by omega) k hk
  obtain ⟨t8, A8⟩ := two_fld A7 (by omega) k hk
  have t9 := left_at A8
  have f2 := fld2 l (i + 4)
  have f3 := fld2 l (i + 6)
  have f4 := fld2 l (i + 8)
  have f5 := fld2 l (i + 10)
  have f6 := fld4 l (i + 12)
  have f7 := fld4 l (i + 16)
  have f8 := fld2 l (i + 20)
  have hmk := mark_iff l i 101010256 [80, 75, 5, 6] (by omega) rfl (by decide)
  rw [List.length_drop] at t9
  conv => lhs; unfold tail_last.l0
  rw [if_pos b1, if_pos b2, if_pos b3, Int.toNat_natCast, he, show cursor_Over.f e = some (e, 0, 0) from rfl, Option.bind_some]
  dsimp only
  rw [show cursor_Cursor_Take.f e 0 0 4 = _ from t1, Option.bind_some]; dsimp only
  rw [strN_list]
  by_cases h1 : fld l i 4 = 101010256
  · rw [if_pos (hmk.2 h1), t2, Option.bind_some]; dsimp only
    rw [t3, Option.bind_some]; dsimp only
    rw [t4, Option.bind_some]; dsimp only
    rw [t5, Option.bind_some]; dsimp only
    rw [t6, Option.bind_some]; dsimp only
    rw [t7, Option.bind_some]; dsimp only
    rw [t8, Option.bind_some]; dsimp only
    unfold cursor_Cursor_Left.f
    rw [Option.bind_some]; dsimp only
    rw [t9, wrap_id (x := ((fld l (i + 20) 2 : Nat) : Int)) (by omega) (by omega)]
    by_cases h2 : fld l (i + 20) 2 = l.length - i - 22
    · have t10 := (take_fld (n := fld l (i + 20) 2) A8 (by omega)).1
      rw [List.take_of_length_le (by rw [List.length_drop]; omega), hX] at t10
      rw [if_pos (by omega), if_pos (show isE l i from ⟨h1, h2⟩), t10, Option.bind_some]; dsimp only
      rw [u64_id (x := (i : Int)) (by omega) (by omega), u64_id (x := ((fld l (i + 4) 2 : Nat) : Int)) (by omega) (by omega), u64_id (x := ((fld l (i + 6) 2 : Nat) : Int)) (by omega) (by omega), u64_id (x := ((fld l (i + 8) 2 : Nat) : Int)) (by omega) (by omega), u64_id (x := ((fld l (i + 10) 2 : Nat) : Int)) (by omega) (by omega), u64_id (x := ((fld l (i + 12) 4 : Nat) : Int)) (by omega) (by omega), u64_id (x := ((fld l (i + 16) 4 : Nat) : Int)) (by omega) (by omega)]
    · rw [if_neg (by omega), if_neg (show ¬ isE l i from fun h => h2 h.2)]
  · rw [if_neg (fun h => h1 (hmk.1 h)), if_neg (show ¬ isE l i from fun h => h1 h.1)]
def la (s : ByteArray) : Option Nat → Int × Int × Int × Int × Int × Int × Int × ByteArray × Bool
  | none => (0, 0, 0, 0, 0, 0, 0, (⟨#[]⟩ : ByteArray), false)
  | some i => ((i : Int), (fld s.data.toList (i + 4) 2 : Int), (fld s.data.toList (i + 6) 2 : Int), (fld s.data.toList (i + 8) 2 : Int), (fld s.data.toList (i + 10) 2 : Int), (fld s.data.toList (i + 12) 4 : Int), (fld s.data.toList (i + 16) 4 : Int), s.extract (i + 22) s.size, true)
theorem last_none (s : ByteArray) (k : Nat) (x : Int) (hx : x < 0) : tail_last.l0 (k + 1) s x = some (la s none) := by
  rw [tail_last.l0, if_neg (by unfold mx; split <;> omega)]; rfl
theorem last_loop (s : ByteArray) (hs : s.size ≤ 5000) : ∀ (i k : Nat), i + 22 ≤ s.size → i + 60 < k → tail_last.l0 k s (i : Int) = some (la s (lastE s.data.toList i))
  | 0, k, hi, hk => by
    obtain ⟨k, rfl⟩ : ∃ m, k = m + 1 := ⟨k - 1, by omega⟩
    rw [last_step s 0 hi hs k (by omega), lastE]
    split
    · rfl
    · obtain ⟨k, rfl⟩ : ∃ m, k = m + 1 := ⟨k - 1, by omega⟩
      rw [show ((0 : Nat) : Int) - 1 = -1 by decide, wrap_id (by decide) (by decide)]
      exact last_none s k _ (by decide)
  | i + 1, k, hi, hk => by
    obtain ⟨k, rfl⟩ : ∃ m, k = m + 1 := ⟨k - 1, by omega⟩
    rw [last_step s (i + 1) hi hs k (by omega), lastE]
    split
    · rfl
    · rw [wrap_id (by omega) (by omega), show ((i + 1 : Nat) : Int) - 1 = (i : Int) by omega]
      exact last_loop s hs i k (by omega) (by omega)
theorem last_all (s : ByteArray) (hs : s.size ≤ 5000) (k : Nat) (hk : 5100 < k) : tail_last.f k s = some (la s (lastOf s.data.toList)) := by
  unfold tail_last.f lastOf
  rw [toList_length]
  by_cases h : s.size < 22
  · obtain ⟨k, rfl⟩ : ∃ m, k = m + 1 := ⟨k - 1, by omega⟩
    rw [if_pos h, wrap_id (by omega) (by omega)]
    exact last_none s k _ (by omega)
  · rw [if_neg h, wrap_id (by omega) (by omega), show (s.size : Int) - 22 = ((s.size - 22 : Nat) : Int) by omega]
    exact last_loop s hs _ k (by omega) (by omega)
set_option maxHeartbeats 8000000 in
theorem located_all (s : ByteArray) (a : Nat) (ha : a ≤ s.size) (h20 : 20 ≤ a) (hs : s.size ≤ 5000) (k : Nat) (hk : 8 < k) :
    tail_located.f k s (a : Int) = some (if fld s.data.toList (a - 20) 4 = 117853008 ∧ fld s.data.toList (a - 16) 4 = 0 ∧ fld s.data.toList (a - 4) 4 = 1 ∧ fld s.data.toList (a - 12) 8 ≤ a - 20 then ((fld s.data.toList (a - 12) 8 : Int), true) else (0, false)) := by
  obtain ⟨b, rfl⟩ : ∃ b, a = b + 20 := ⟨a - 20, by omega⟩
  rw [show b + 20 - 20 = b by omega, show b + 20 - 16 = b + 4 by omega, show b + 20 - 4 = b + 16 by omega, show b + 20 - 12 = b + 8 by omega]
  have hl := toList_length s
  obtain ⟨l, hll⟩ : ∃ l, s.data.toList = l := ⟨_, rfl⟩
  have hD : (s.extract b (b + 20)).data.toList = (l.take (b + 20)).drop b := by rw [extract_list, hll, List.drop_take, show b + 20 - b = 20 by omega]
  rw [hll] at hl ⊢
  have hl' : (l.take (b + 20)).length = b + 20 := by rw [List.length_take]; omega
  have hf : ∀ p w, p + w ≤ b + 20 → fld (l.take (b + 20)) p w = fld l p w := by
    intro p w h
    unfold fld
    rw [List.drop_take, List.take_take, Nat.min_eq_left (by omega)]
  obtain ⟨e, he⟩ : ∃ e, s.extract b (b + 20) = e := ⟨_, rfl⟩
  have hes : e.size ≤ 140737488351232 := by rw [← he]; simp; omega
  rw [he] at hD
  have b0 : ¬ ((b + 20 : Nat) : Int) < 20 := by omega
  have b1 : (0 : Int) ≤ (b : Int) := by omega
  have b2 : (b : Int) ≤ ((b + 20 : Nat) : Int) := by omega
  have b3 : ((b + 20 : Nat) : Int) ≤ (s.size : Int) := by omega
  have A0 := At.start e hes
  rw [hD] at A0
  obtain ⟨t1, A1⟩ := take_fld (n := 4) A0 (by omega)
  obtain ⟨t2, A2⟩ := four_fld A1 (by omega) k hk
  obtain ⟨t3, A3⟩ := eight_fld A2 (by omega) k hk
  obtain ⟨t4, A4⟩ := four_fld A3 (by omega) k hk
  have hmk := mark_iff (l.take (b + 20)) b 117853008 [80, 75, 6, 7] (by omega) rfl (by decide)
  rw [hf b 4 (by omega)] at hmk
  rw [hf _ 4 (by omega)] at t2 t4
  rw [hf _ 8 (by omega)] at t3
  rw [show b + 4 + 4 = b + 8 from rfl, show b + 8 + 8 = b + 16 from rfl] at *
  unfold tail_located.f
  rw [if_neg b0, wrap_id (x := ((b + 20 : Nat) : Int) - 20) (by omega) (by omega), show ((b + 20 : Nat) : Int) - 20 = (b : Int) by omega, if_pos b1, if_pos b2, if_pos b3, Int.toNat_natCast, Int.toNat_natCast, he, show cursor_Over.f e = some (e, 0, 0) from rfl, Option.bind_some]
  dsimp only
  rw [show cursor_Cursor_Take.f e 0 0 4 = _ from t1, Option.bind_some]; dsimp only
  rw [t2, Option.bind_some]; dsimp only
  rw [t3, Option.bind_some]; dsimp only
  rw [t4, Option.bind_some]; dsimp only
  rw [strN_list, u64_id (x := (b : Int)) (by omega) (by omega)]
  by_cases h1 : fld l b 4 = 117853008
  · rw [if_pos (hmk.2 h1)]
    by_cases h2 : fld l (b + 4) 4 = 0
    · rw [if_pos (by omega)]
      by_cases h3 : fld l (b + 16) 4 = 1
      · rw [if_pos (by omega)]
        by_cases h4 : fld l (b + 8) 8 ≤ b
        · rw [if_neg (by omega), if_pos ⟨h1, h2, h3, h4⟩, wrap_id (by omega) (by omega)]
        · rw [if_pos (by omega), if_neg (fun h => h4 h.2.2.2)]
      · rw [if_neg (by omega), if_neg (fun h => h3 h.2.2.1)]
    · rw [if_neg (by omega), if_neg (fun h => h2 h.2.1)]
  · rw [if_neg (fun h => h1 (hmk.1 h)), if_neg (fun h => h1 h.1)]
end Go.Proofs.Ytdooampgkiodjaa.D18
namespace Go.Proofs.Ytdooampgkiodjaa.D18
set_option linter.unusedVariables false
set_option linter.unusedSimpArgs false
open Go Go.RowKit Go.Proofs.Ytdooampgkiodjaa.P Go.Proofs.Ytdooampgkiodjaa.B Go.Proofs.Ytdooampgkiodjaa.Num Go.Proofs.Ytdooampgkiodjaa.Cur Go.Proofs.YtdooampgkiodjaaW.PrintWords Go.Proofs.YtdooampgkiodjaaW.PrintLast Go.Proofs.YtdooampgkiodjaaW.PrintMore
theorem j0_true (k : Nat) (x : Int) (e : ByteArray) (a b : Int) : tail_wide.j0 (k + 1) x true e a b = some (0, 0, 0, 0, 0, 0, 0, (⟨#[]⟩ : ByteArray), false) := by
  rw [tail_wide.j0, if_pos rfl]
def wOK (l : List UInt8) (x y : Nat) : Prop := 56 ≤ y - x ∧ fld l x 4 = 101075792 ∧ fld l (x + 4) 8 = y - x - 12 ∧ fld l (x + 16) 4 = 0 ∧ fld l (x + 20) 4 = 0 ∧ fld l (x + 24) 8 = fld l (x + 32) 8
theorem flag_end (P : Prop) (b : Bool) (r0 r1 r2 r3 r4 r5 r6 n4 n5 n6 : Int) (r7 : ByteArray) (h : b = true ↔ P) (h4 : r4 = n4) (h5 : r5 = n5) (h6 : r6 = n6) :
    ∃ s0 s1 s2 s3 s4 s5 s6 s7 c, (some (r0, r1, r2, r3, r4, r5, r6, r7, b) : Option (Int × Int × Int × Int × Int × Int × Int × ByteArray × Bool)) = some (s0, s1, s2, s3, s4, s5, s6, s7, c) ∧ (c = true ↔ P) ∧ (c = true → s4 = n4 ∧ s5 = n5 ∧ s6 = n6) :=
  ⟨_, _, _, _, _, _, _, _, _, rfl, h, fun _ => ⟨h4, h5, h6⟩⟩
theorem flag_no (P : Prop) (n4 n5 n6 : Int) (h : ¬ P) :
    ∃ s0 s1 s2 s3 s4 s5 s6 s7 c, (some (0, 0, 0, 0, 0, 0, 0, (⟨#[]⟩ : ByteArray), false) : Option (Int × Int × Int × Int × Int × Int × Int × ByteArray × Bool)) = some (s0, s1, s2, s3, s4, s5, s6, s7, c) ∧ (c = true ↔ P) ∧ (c = true → s4 = n4 ∧ s5 = n5 ∧ s6 = n6) :=
  ⟨_, _, _, _, _, _, _, _, _, rfl, ⟨(fun e => by cases e), fun e => absurd e h⟩, (fun e => by cases e)⟩
set_option maxHeartbeats 8000000 in
theorem wide_all (s : ByteArray) (x y : Nat) (hxy : x ≤ y) (hy : y ≤ s.size) (hs : s.size ≤ 5000) (k : Nat) (hk : 8 < k) :
    ∃ r0 r1 r2 r3 r4 r5 r6 r7 b, tail_wide.f (k + 1) s (x : Int) (y : Int) = some (r0, r1, r2, r3, r4, r5, r6, r7, b) ∧ (b = true ↔ wOK s.data.toList x y) ∧
      (b = true → r4 = (fld s.data.toList (x + 32) 8 : Int) ∧ r5 = (fld s.data.toList (x + 40) 8 : Int) ∧ r6 = (fld s.data.toList (x + 48) 8 : Int)) := by
  have hl := toList_length s
  obtain ⟨l, hll⟩ : ∃ l, s.data.toList = l := ⟨_, rfl⟩
  have hD : (s.extract x y).data.toList = (l.take y).drop x := by rw [extract_list, hll]
  rw [hll] at hl ⊢
  have hl' : (l.take y).length = y := by rw [List.length_take]; omega
  have hf : ∀ p w, p + w ≤ y → fld (l.take y) p w = fld l p w := by
    intro p w h
    unfold fld
    rw [List.drop_take, List.take_take, Nat.min_eq_left (by omega)]
  obtain ⟨e, he⟩ : ∃ e, s.extract x y = e := ⟨_, rfl⟩
  have hes : e.size ≤ 140737488351232 := by rw [← he]; simp; omega
  rw [he] at hD
  have b1 : (0 : Int) ≤ (x : Int) := by omega
  have b2 : (x : Int) ≤ (y : Int) := by omega
  have b3 : (y : Int) ≤ (s.size : Int) := by omega
  have A0 := At.start e hes
  rw [hD] at A0
  unfold tail_wide.f
  rw [if_pos b1, if_pos b2, if_pos b3, Int.toNat_natCast, Int.toNat_natCast, he, show cursor_Over.f e = some (e, 0, 0) from rfl, Option.bind_some]
  dsimp only
  by_cases h4 : y - x < 4
  · rw [take_fail A0 (.inr (by rw [List.length_drop, hl']; omega)), Option.bind_some]; dsimp only
    rw [eight_bad (by decide) (k + 1) (by omega), Option.bind_some]; dsimp only
    rw [if_neg (by rw [strN_list]; simp), j0_true]
    exact flag_no _ _ _ _ (fun h => by have := h.1; omega)
  obtain ⟨t1, A1⟩ := take_fld (n := 4) A0 (by omega)
  rw [show cursor_Cursor_Take.f e 0 0 4 = _ from t1, Option.bind_some]; dsimp only
  have hmk := mark_iff (l.take y) x 101075792 [80, 75, 6, 6] (by omega) rfl (by decide)
  rw [hf x 4 (by omega)] at hmk
  rw [strN_list]
  by_cases h12 : y - x < 12
  · rw [eight_fail A1 (by rw [List.length_drop, hl']; omega) (k + 1) (by omega), Option.bind_some]; dsimp only
    have hno : ¬ wOK l x y := fun h => by have := h.1; omega
    by_cases hm : fld l x 4 = 101075792
    · rw [if_pos (hmk.2 hm), if_pos (by decide), j0_true]
      exact flag_no _ _ _ _ hno
    · rw [if_neg (fun h => hm (hmk.1 h)), j0_true]
      exact flag_no _ _ _ _ hno
  obtain ⟨t2, A2⟩ := eight_fld A1 (by omega) (k + 1) (by omega)
  rw [hf _ 8 (by omega)] at t2
  rw [t2, Option.bind_some]; dsimp only
  by_cases hm : fld l x 4 = 101075792
  case neg =>
    rw [if_neg (fun h => hm (hmk.1 h)), j0_true]
    exact flag_no _ _ _ _ (fun h => hm h.2.1)
  rw [if_pos (hmk.2 hm)]
  have f2 := fld8 l (x + 4)
  by_cases h44 : fld l (x + 4) 8 < 44
  · rw [if_pos (by omega), j0_true]
    exact flag_no _ _ _ _ (fun h => by have := h.1; have := h.2.2.1; omega)
  rw [if_neg (by omega), wrap_id (x := (y : Int) - (x : Int)) (by omega) (by omega), wrap_id (x := (y : Int) - (x : Int) - 12) (by omega) (by omega), u64_id (x := (y : Int) - (x : Int) - 12) (by omega) (by omega)]
  by_cases hn : fld l (x + 4) 8 = y - x - 12
  case neg =>
    rw [show (((fld l (x + 4) 8 : Nat) : Int) != (y : Int) - (x : Int) - 12) = true from bne_iff_ne.2 (by omega), j0_true]
    exact flag_no _ _ _ _ (fun h => hn h.2.2.1)
  rw [show (((fld l (x + 4) 8 : Nat) : Int) != (y : Int) - (x : Int) - 12) = false from bne_eq_false_iff_eq.2 (by omega)]
  obtain ⟨t3, A3⟩ := take_fld (n := 4) A2 (by omega)
  obtain ⟨t4, A4⟩ := four_fld A3 (by omega) k hk
  obtain ⟨t5, A5⟩ := four_fld A4 (by omega) k hk
  obtain ⟨t6, A6⟩ := eight_fld A5 (by omega) k hk
  obtain ⟨t7, A7⟩ := eight_fld A6 (by omega) k hk
  obtain ⟨t8, A8⟩ := eight_fld A7 (by omega) k hk
  obtain ⟨t9, A9⟩ := eight_fld A8 (by omega) k hk
  rw [hf _ 4 (by omega)] at t4 t5
  rw [hf _ 8 (by omega)] at t6 t7 t8 t9
  have g4 := fld4 l (x + 16)
  have g5 := fld4 l (x + 20)
  rw [tail_wide.j0, if_neg (by decide), show cursor_Cursor_Take.f e (0 + ((4 : Nat) : Int) + 8) 0 4 = _ from t3, Option.bind_some]; dsimp only
  rw [t4, Option.bind_some]; dsimp only
  rw [t5, Option.bind_some]; dsimp only
  rw [t6, Option.bind_some]; dsimp only
  rw [t7, Option.bind_some]; dsimp only
  rw [t8, Option.bind_some]; dsimp only
  rw [t9, Option.bind_some]; dsimp only
  unfold cursor_Cursor_Err.f
  rw [Option.bind_some]; dsimp only
  rw [if_pos rfl, show x + 4 + 8 + 4 = x + 16 from rfl, show x + 16 + 4 = x + 20 from rfl, show x + 20 + 4 = x + 24 from rfl, show x + 24 + 8 = x + 32 from rfl, show x + 32 + 8 = x + 40 from rfl, show x + 40 + 8 = x + 48 from rfl]
  rw [u64_id (x := ((fld l (x + 16) 4 : Nat) : Int)) (by omega) (by omega), u64_id (x := ((fld l (x + 20) 4 : Nat) : Int)) (by omega) (by omega)]
  by_cases q4 : fld l (x + 16) 4 = 0
  · rw [if_pos (by omega)]
    by_cases q5 : fld l (x + 20) 4 = 0
    · rw [if_pos (by omega)]
      refine flag_end _ _ _ _ _ _ _ _ _ _ _ _ _ ?_ rfl rfl rfl
      rw [beq_iff_eq]
      exact ⟨fun h => ⟨by omega, hm, hn, q4, q5, by omega⟩, fun h => by have := h.2.2.2.2.2; omega⟩
    · rw [if_neg (by omega)]
      exact flag_end _ _ _ _ _ _ _ _ _ _ _ _ _ ⟨(fun h => by cases h), fun h => absurd h.2.2.2.2.1 q5⟩ rfl rfl rfl
  · rw [if_neg (by omega)]
    exact flag_end _ _ _ _ _ _ _ _ _ _ _ _ _ ⟨(fun h => by cases h), fun h => absurd h.2.2.2.1 q4⟩ rfl rfl rfl
theorem agree_eq (a b c : Int) : tail_agree.f a b c = some (decide (a = b ∨ a = c)) := by
  unfold tail_agree.f
  by_cases h : a = b
  · rw [if_pos h, decide_eq_true (.inl h)]
  · rw [if_neg h]
    by_cases h2 : a = c
    · rw [decide_eq_true (.inr h2), beq_iff_eq.2 h2]
    · rw [decide_eq_false (by rintro (h3 | h3) <;> contradiction), beq_eq_false_iff_ne.2 h2]
theorem asks_eq (r0 r1 r2 r3 r4 r5 r6 : Int) (c : ByteArray) : tail_record_asks.f r0 r1 r2 r3 r4 r5 r6 c = some (decide (r3 = 65535 ∨ r4 = 65535 ∨ r5 = 4294967295 ∨ r6 = 4294967295)) := by
  unfold tail_record_asks.f
  by_cases h3 : r3 = 65535
  · rw [if_pos h3, decide_eq_true (.inl h3)]
  rw [if_neg h3]
  by_cases h4 : r4 = 65535
  · rw [if_pos h4, decide_eq_true (.inr (.inl h4))]
  rw [if_neg h4]
  by_cases h5 : r5 = 4294967295
  · rw [if_pos h5, decide_eq_true (.inr (.inr (.inl h5)))]
  rw [if_neg h5]
  by_cases h6 : r6 = 4294967295
  · rw [decide_eq_true (.inr (.inr (.inr h6))), beq_iff_eq.2 h6]
  · rw [decide_eq_false (by rintro (h | h | h | h) <;> contradiction), beq_eq_false_iff_ne.2 h6]
set_option maxHeartbeats 8000000 in
theorem find_rest (s : ByteArray) (a n4 n5 n6 n7 : Nat) (ha : a + 22 ≤ s.size) (hs : s.size ≤ 5000) (f5 : n5 < 65536) (f6 : n6 < 4294967296) (f7 : n7 < 4294967296) (e45 : n4 = n5) (c : ByteArray) (k : Nat) (hk : 10 < k) :
    tail_Find.j0 (k + 2) s false (a : Int) 0 0 (n4 : Int) (n5 : Int) (n6 : Int) (n7 : Int) c = some (
      if n5 ≠ 65535 ∧ n6 ≠ 4294967295 ∧ n7 ≠ 4294967295 then ((a : Int), (n5 : Int), (n6 : Int), (n7 : Int), c, false, 0)
      else if a < 20 then noE 31
      else if ¬ (fld s.data.toList (a - 20) 4 = 117853008 ∧ fld s.data.toList (a - 16) 4 = 0 ∧ fld s.data.toList (a - 4) 4 = 1 ∧ fld s.data.toList (a - 12) 8 ≤ a - 20) then noE 31
      else wideE s.data.toList c a n5 n6 n7 (fld s.data.toList (a - 12) 8)) := by
  subst e45
  rw [tail_Find.j0, if_neg (by decide), asks_eq, Option.bind_some, wrap_id (x := (a : Int)) (by omega) (by omega)]
  by_cases hq : n4 ≠ 65535 ∧ n6 ≠ 4294967295 ∧ n7 ≠ 4294967295
  · rw [decide_eq_false (by omega), if_neg (by decide), if_pos hq]
  rw [decide_eq_true (by omega), if_pos rfl, if_neg hq]
  by_cases h20 : a < 20
  · rw [if_pos h20]
    unfold tail_located.f
    rw [if_pos (by omega), Option.bind_some, if_neg (by decide)]; rfl
  rw [if_neg h20, located_all s a (by omega) (by omega) hs (k + 1) (by omega), Option.bind_some]
  by_cases hloc : fld s.data.toList (a - 20) 4 = 117853008 ∧ fld s.data.toList (a - 16) 4 = 0 ∧ fld s.data.toList (a - 4) 4 = 1 ∧ fld s.data.toList (a - 12) 8 ≤ a - 20
  case neg =>
    rw [if_neg hloc, if_pos hloc, if_neg (by decide)]; rfl
  rw [if_pos hloc]
  dsimp only
  rw [if_pos rfl, if_neg (not_not_intro hloc)]
  have hx := hloc.2.2.2
  obtain ⟨x, hxx⟩ : ∃ x, fld s.data.toList (a - 12) 8 = x := ⟨_, rfl⟩
  rw [hxx] at hx ⊢
  rw [show (a : Int) - 20 = ((a - 20 : Nat) : Int) by omega, wrap_id (x := ((a - 20 : Nat) : Int)) (by omega) (by omega)]
  obtain ⟨r0, r1, r2, r3, r4, r5, r6, r7, b, hw, hb, hv⟩ := wide_all s x (a - 20) hx (by omega) hs k (by omega)
  rw [hw, Option.bind_some]
  dsimp only
  unfold wideE
  have hiff : wOK s.data.toList x (a - 20) ↔ ¬ (a - 20 - x < 56) ∧ (fld s.data.toList x 4 = 101075792 ∧ fld s.data.toList (x + 4) 8 = a - 20 - x - 12 ∧ fld s.data.toList (x + 16) 4 = 0 ∧ fld s.data.toList (x + 20) 4 = 0 ∧ fld s.data.toList (x + 24) 8 = fld s.data.toList (x + 32) 8) :=
    ⟨fun h => ⟨by have := h.1; omega, h.2⟩, fun h => ⟨by have := h.1; omega, h.2⟩⟩
  by_cases hok : wOK s.data.toList x (a - 20)
  case neg =>
    have hbf : b = false := by cases b with | false => rfl | true => exact absurd (hb.1 rfl) hok
    rw [hbf, if_neg (by decide)]
    by_cases h56 : a - 20 - x < 56
    · rw [if_pos h56]; rfl
    · rw [if_neg h56, if_pos (fun h => hok (hiff.2 ⟨h56, h⟩))]; rfl
  have hbt := hb.2 hok
  obtain ⟨rfl, rfl, rfl⟩ := hv hbt
  rw [hbt, if_pos rfl, if_neg (hiff.1 hok).1, if_neg (fun h => h (hiff.1 hok).2)]
  rw [agree_eq, Option.bind_some]
  by_cases g1 : n4 = 65535 ∨ n4 = fld s.data.toList (x + 32) 8
  case neg =>
    rw [decide_eq_false (by omega), if_neg (by decide), if_pos (fun h => g1 h.1)]; rfl
  rw [decide_eq_true (by omega), if_pos rfl, agree_eq, Option.bind_some]
  by_cases g2 : n6 = 4294967295 ∨ n6 = fld s.data.toList (x + 40) 8
  case neg =>
    rw [decide_eq_false (by omega), if_neg (by decide), if_pos (fun h => g2 h.2.1)]; rfl
  rw [decide_eq_true (by omega), if_pos rfl, agree_eq, Option.bind_some]
  by_cases g3 : n7 = 4294967295 ∨ n7 = fld s.data.toList (x + 48) 8
  case neg =>
    rw [decide_eq_false (by omega), if_neg (by decide), if_pos (fun h => g3 h.2.2)]; rfl
  rw [decide_eq_true (by omega), if_pos rfl, if_neg (fun h => h ⟨g1, g2, g3⟩)]
theorem j0_bad (k : Nat) (s : ByteArray) (a b c d e f g : Int) (z : ByteArray) : tail_Find.j0 (k + 1) s true a b c d e f g z = some (noE 30) := by
  rw [tail_Find.j0, if_pos rfl]; rfl
theorem find_eq (s : ByteArray) (hs : s.size ≤ 5000) (k : Nat) (hk : 5200 < k) : tail_Find.f k s = some (spec18 s) := by
  obtain ⟨k, rfl⟩ : ∃ m, k = m + 2 := ⟨k - 2, by omega⟩
  unfold tail_Find.f
  rw [last_all s hs (k + 2) (by omega), Option.bind_some]
  unfold spec18
  cases ho : lastOf s.data.toList with
  | none =>
    show (if false = true then _ else _) = _
    rw [if_neg (by decide), j0_bad]
  | some a =>
    have hle := (lastOf_le _ a ho).1
    rw [toList_length] at hle
    unfold la
    dsimp only
    rw [if_pos rfl]
    unfold findE
    dsimp only
    have f1 := fld2 s.data.toList (a + 4)
    have f2 := fld2 s.data.toList (a + 6)
    have f3 := fld2 s.data.toList (a + 8)
    have f4 := fld2 s.data.toList (a + 10)
    have f5 := fld4 s.data.toList (a + 12)
    have f6 := fld4 s.data.toList (a + 16)
    by_cases h1 : fld s.data.toList (a + 4) 2 = 0
    case neg => rw [if_neg (by omega), j0_bad, if_pos (fun h => h1 h.1)]
    rw [if_pos (by omega)]
    by_cases h2 : fld s.data.toList (a + 6) 2 = 0
    case neg => rw [if_neg (by omega), j0_bad, if_pos (fun h => h2 h.2.1)]
    rw [if_pos (by omega)]
    by_cases h3 : fld s.data.toList (a + 8) 2 = fld s.data.toList (a + 10) 2
    case neg => rw [show ((((fld s.data.toList (a + 8) 2 : Nat) : Int)) != ((fld s.data.toList (a + 10) 2 : Nat) : Int)) = true from bne_iff_ne.2 (by omega), j0_bad, if_pos (fun h => h3 h.2.2)]
    rw [show ((((fld s.data.toList (a + 8) 2 : Nat) : Int)) != ((fld s.data.toList (a + 10) 2 : Nat) : Int)) = false from bne_eq_false_iff_eq.2 (by omega), if_neg (fun h => h ⟨h1, h2, h3⟩)]
    rw [h1, h2]
    exact find_rest s a _ _ _ _ hle hs f4 f5 f6 h3 _ k (by omega)
end Go.Proofs.Ytdooampgkiodjaa.D18
namespace Go.Proofs.Ytdooampgkiodjaa.Li
set_option linter.unusedVariables false
set_option linter.unusedSimpArgs false
open Go Go.RowKit Go.Shelf Go.Proofs
end Go.Proofs.Ytdooampgkiodjaa.Li
namespace Go.Proofs.Ytdooampgkiodjaa.P
open Go Go.RowKit Go.Shelf Go.Proofs Go.Proofs.Ytdooampgkiodjaa.Li
end Go.Proofs.Ytdooampgkiodjaa.P
namespace Go.Proofs.Ytdooampgkiodjaa.Opens
set_option linter.unusedVariables false
set_option linter.unusedSimpArgs false
open Go Go.RowKit Go.Proofs.YtdooampgkiodjaaW.PrintWords Go.Proofs.YtdooampgkiodjaaW.PrintLast Go.Proofs.YtdooampgkiodjaaW.PrintMore
section
variable {P : Program}
structure Opens {α : Type} (P : Program) (t : TypeId) (d : Kd α) (ok : α → Prop) : Prop where
  size : P.cellsOf t = d.sz
  get : ∀ {H : Type} {enc : TypeId × Value → H} {w : World} {base : Nat} {spare : Nat → Bool} {held : Bool} {fuel : Nat} {cs : List Value} {x : DataW H × List MemPlace},
    DataW.trod enc P w base spare held fuel t cs = some x → ∃ a, d.K w a cs ∧ ok a
theorem Opens.int {t : TypeId} {k : IntKind} (hu : P.underlying t = some (.int k)) (hs : P.cellsOf t = 1) : Opens P t (Kd.int k) (fun n => (Lit.int k n).wf = true) :=
  ⟨hs, fun h => by obtain ⟨n, rfl, _, hw⟩ := DataW.trod_int hu h; exact ⟨n, rfl, hw⟩⟩
theorem Opens.bool {t : TypeId} (hu : P.underlying t = some .bool) (hs : P.cellsOf t = 1) : Opens P t Kd.bool (fun _ => True) :=
  ⟨hs, fun h => by obtain ⟨b, rfl, _⟩ := DataW.trod_bool hu h; exact ⟨b, rfl, trivial⟩⟩
theorem Opens.string {t : TypeId} (hu : P.underlying t = some .string) (hs : P.cellsOf t = 1) : Opens P t Kd.string (fun s => s.size ≤ maxLen) :=
  ⟨hs, fun h => by obtain ⟨s, rfl, _, hl⟩ := DataW.trod_string hu h; exact ⟨s, rfl, hl⟩⟩
theorem slice_row {α : Type} {t e : TypeId} {d : Kd α} {ok : α → Prop} (hu : P.underlying t = some (.slice e)) (ho : Opens P e d ok)
    {H : Type} {enc : TypeId × Value → H} {w : World} {base : Nat} {spare : Nat → Bool} {held : Bool} {fuel : Nat} {cs : List Value} {x : DataW H × List MemPlace}
    (h : DataW.trod enc P w base spare held fuel t cs = some x) :
    ∃ A c, ∃ xs : List α, cs = [.slice A xs.length c] ∧ xs.length ≤ c ∧ d.C w A xs.length xs ∧ (∀ a ∈ xs, ok a) ∧ (x.1 = .nil ∧ xs = [] ∨ ∃ elems rest, x.1 = .slice elems rest ∧ elems.length = xs.length) := by
  rcases DataW.trod_slice hu h with ⟨rfl, rfl⟩ | ⟨a, len, cap, elems, rest, n, _, rfl, rfl, _, hl, hm, hlen, hel, _, _⟩
  · exact ⟨none, 0, [], rfl, Nat.le_refl _, ⟨rfl, by simp, fun h0 => absurd h0 (by simp)⟩, (fun a ha => by cases ha), .inl ⟨rfl, rfl⟩⟩
  · have each : ∀ i : Fin len, ∃ p, ok p ∧ ∃ c, c.length = d.sz ∧ d.K w p c ∧ ∀ j u, c[j]? = some u → w.cell? (a.add (i * d.sz + j)) = some u := by
      intro i
      have h1 := hel i i.2
      have h2 : (i : Nat) < elems.length := by have := i.2; omega
      rw [List.getElem?_eq_getElem h2, Option.bind_eq_some_iff] at h1
      obtain ⟨cs', hcs, ht⟩ := h1
      obtain ⟨_, hcl, hcc⟩ := World.cells?_some hcs
      obtain ⟨p, hp, hok⟩ := ho.get ht
      rw [ho.size] at hcl hcc
      refine ⟨p, hok, cs', hcl, hp, fun j u hj => ?_⟩
      have hj2 : j < d.sz := by
        rw [← hcl]
        exact (List.getElem?_eq_some_iff.1 hj).1
      have h3 := hcc j hj2
      rw [hj] at h3
      rw [← h3, add_add]
    have hg : ∀ (j : Nat) (p : α), (List.ofFn fun i => Classical.choose (each i))[j]? = some p → ∃ hj : j < len, p = Classical.choose (each ⟨j, hj⟩) := by
      intro j p hp
      obtain ⟨hj, he⟩ := List.getElem?_eq_some_iff.1 hp
      rw [List.length_ofFn] at hj
      refine ⟨hj, ?_⟩
      rw [← he, List.getElem_ofFn]
    refine ⟨some a, cap, List.ofFn fun i => Classical.choose (each i), by rw [List.length_ofFn], by rw [List.length_ofFn]; exact hl, ⟨rfl, ?_, fun _ => ⟨a, rfl, fun j p hp => ?_⟩⟩, ?_, .inr ⟨_, _, rfl, by rw [List.length_ofFn, List.length_map, hlen]⟩⟩
    · rw [List.length_ofFn]
      unfold maxLen at hm
      omega
    · obtain ⟨hj, rfl⟩ := hg j p hp
      obtain ⟨_, c, hc, hk, hcell⟩ := Classical.choose_spec (each ⟨j, hj⟩)
      exact ⟨c, hc, hk, hcell⟩
    · intro p hp
      obtain ⟨j, hj⟩ := List.getElem?_of_mem hp
      obtain ⟨hj', rfl⟩ := hg j p hj
      exact (Classical.choose_spec (each ⟨j, hj'⟩)).1
theorem Opens.slice {α : Type} {t e : TypeId} {d : Kd α} {ok : α → Prop} (hu : P.underlying t = some (.slice e)) (hs : P.cellsOf t = 1) (ho : Opens P e d ok) : Opens P t (Kd.slice e d) (fun xs => ∀ a ∈ xs, ok a) :=
  ⟨hs, fun h => by obtain ⟨A, c, xs, rfl, hl, hc, hok, _⟩ := slice_row hu ho h; exact ⟨xs, ⟨A, c, rfl, hl, hc⟩, hok⟩⟩
end
end Go.Proofs.Ytdooampgkiodjaa.Opens
namespace Go.Proofs.Ytdooampgkiodjaa.D18
set_option linter.unusedVariables false
set_option linter.unusedSimpArgs false
open Go Go.RowKit Go.Proofs.Ytdooampgkiodjaa.P Go.Proofs.Ytdooampgkiodjaa.B Go.Proofs.Ytdooampgkiodjaa.Num Go.Proofs.Ytdooampgkiodjaa.Cur Go.Proofs.YtdooampgkiodjaaW.PrintWords Go.Proofs.YtdooampgkiodjaaW.PrintLast Go.Proofs.YtdooampgkiodjaaW.PrintMore
theorem awake_up (k : Nat) (hk : 1000 < k) : portmanteaulaw18_awake.f k = some true := by
  have h0 : portmanteaulaw18_awake.f 30 = some true := by decide +kernel
  obtain ⟨d, rfl⟩ : ∃ d, k = 30 + d := ⟨k - 30, by omega⟩
  clear hk
  induction d with
  | zero => exact h0
  | succ d ih => exact portmanteaulaw18_awake.mono _ _ ih
theorem w76 (a : Nat) (h : a ≤ 900000) : wrap64 ((a + 76 : Nat) : Int) = ((a + 76 : Nat) : Int) := wrap_id (by omega) (by omega)
theorem w56 (a : Nat) (h : a ≤ 900000) : wrap64 (((a + 76 : Nat) : Int) - 20) = ((a + 56 : Nat) : Int) := by rw [wrap_id (by omega) (by omega)]; omega
theorem wide_len (n z o : Nat) : (wideR n z o).length = 56 := by simp [wideR, ofN_length]
theorem loc_len (x : Nat) : (locB x).length = 20 := by simp [locB, ofN_length]
theorem wideB_eq (n z o x : Nat) (hx : (o + z) % 18446744073709551616 = x) : wideB n z o = wideR n z o ++ locB x := by
  unfold wideB wideR locB
  rw [hx]
  simp only [List.append_assoc, List.append_nil]
end Go.Proofs.Ytdooampgkiodjaa.D18
namespace Go.Proofs.Ytdooampgkiodjaa.D18
set_option linter.unusedVariables false
set_option linter.unusedSimpArgs false
open Go Go.RowKit Go.Proofs.Ytdooampgkiodjaa.P Go.Proofs.Ytdooampgkiodjaa.B Go.Proofs.Ytdooampgkiodjaa.Num Go.Proofs.Ytdooampgkiodjaa.Cur Go.Proofs.YtdooampgkiodjaaW.PrintWords Go.Proofs.YtdooampgkiodjaaW.PrintLast Go.Proofs.YtdooampgkiodjaaW.PrintMore
theorem fld_app (X M Z : List UInt8) (a w : Nat) (ha : a = X.length) (hw : w = M.length) : fld (X ++ (M ++ Z)) a w = leN M := by
  subst ha
  subst hw
  unfold fld
  rw [List.drop_left, List.take_left]
theorem end_flds (X : List UInt8) (n z o : Nat) (hn : n < 65536) (hz : z < 4294967296) (ho : o < 4294967296) :
    fld (X ++ endB n z o []) X.length 4 = 101010256 ∧ fld (X ++ endB n z o []) (X.length + 4) 2 = 0 ∧ fld (X ++ endB n z o []) (X.length + 6) 2 = 0 ∧ fld (X ++ endB n z o []) (X.length + 8) 2 = n ∧ fld (X ++ endB n z o []) (X.length + 10) 2 = n ∧
    fld (X ++ endB n z o []) (X.length + 12) 4 = z ∧ fld (X ++ endB n z o []) (X.length + 16) 4 = o ∧ fld (X ++ endB n z o []) (X.length + 20) 2 = 0 := by
  have e0 : leN (ofN 2 0) = 0 := leOf2 _ (by omega)
  have en : leN (ofN 2 n) = n := leOf2 _ hn
  have ez : leN (ofN 4 z) = z := leOf4 _ hz
  have eo : leN (ofN 4 o) = o := leOf4 _ ho
  have hE : endB n z o [] = [80, 75, 5, 6] ++ (ofN 2 0 ++ (ofN 2 0 ++ (ofN 2 n ++ (ofN 2 n ++ (ofN 4 z ++ (ofN 4 o ++ (ofN 2 0 ++ [])))))))  := by
    rw [endB_eq, endR]; rfl
  rw [hE]
  refine ⟨?_, ?_, ?_, ?_, ?_, ?_, ?_, ?_⟩
  · rw [fld_app X [80, 75, 5, 6] _ _ _ (by rfl) (by rfl)]; decide
  · rw [← List.append_assoc, fld_app (X ++ [80, 75, 5, 6]) (ofN 2 0) _ _ _ (by simp) (by rw [ofN_length]), e0]
  · rw [← List.append_assoc, ← List.append_assoc, fld_app (X ++ [80, 75, 5, 6] ++ ofN 2 0) (ofN 2 0) _ _ _ (by simp [ofN_length]) (by rw [ofN_length]), e0]
  · rw [← List.append_assoc, ← List.append_assoc, ← List.append_assoc, fld_app (X ++ [80, 75, 5, 6] ++ ofN 2 0 ++ ofN 2 0) (ofN 2 n) _ _ _ (by simp [ofN_length]) (by rw [ofN_length]), en]
  · rw [← List.append_assoc, ← List.append_assoc, ← List.append_assoc, ← List.append_assoc, fld_app (X ++ [80, 75, 5, 6] ++ ofN 2 0 ++ ofN 2 0 ++ ofN 2 n) (ofN 2 n) _ _ _ (by simp [ofN_length]) (by rw [ofN_length]), en]
  · rw [← List.append_assoc, ← List.append_assoc, ← List.append_assoc, ← List.append_assoc, ← List.append_assoc, fld_app (X ++ [80, 75, 5, 6] ++ ofN 2 0 ++ ofN 2 0 ++ ofN 2 n ++ ofN 2 n) (ofN 4 z) _ _ _ (by simp [ofN_length]) (by rw [ofN_length]), ez]
  · rw [← List.append_assoc, ← List.append_assoc, ← List.append_assoc, ← List.append_assoc, ← List.append_assoc, ← List.append_assoc, fld_app (X ++ [80, 75, 5, 6] ++ ofN 2 0 ++ ofN 2 0 ++ ofN 2 n ++ ofN 2 n ++ ofN 4 z) (ofN 4 o) _ _ _ (by simp [ofN_length]) (by rw [ofN_length]), eo]
  · rw [← List.append_assoc, ← List.append_assoc, ← List.append_assoc, ← List.append_assoc, ← List.append_assoc, ← List.append_assoc, ← List.append_assoc, fld_app (X ++ [80, 75, 5, 6] ++ ofN 2 0 ++ ofN 2 0 ++ ofN 2 n ++ ofN 2 n ++ ofN 4 z ++ ofN 4 o) (ofN 2 0) _ _ _ (by simp [ofN_length]) (by rw [ofN_length]), e0]
theorem lastOf_end (X : List UInt8) (n z o : Nat) (hn : n < 65536) (hz : z < 4294967296) (ho : o < 4294967296) : lastOf (X ++ endB n z o []) = some X.length := by
  have hl : (X ++ endB n z o []).length = X.length + 22 := by rw [List.length_append, endB_len]; rfl
  obtain ⟨h0, _, _, _, _, _, _, h7⟩ := end_flds X n z o hn hz ho
  unfold lastOf
  rw [if_neg (by omega), hl, show X.length + 22 - 22 = X.length by omega]
  have hE : isE (X ++ endB n z o []) X.length := ⟨h0, by rw [h7, hl]; omega⟩
  cases hX : X.length with
  | zero => rw [hX] at hE; rw [lastE, if_pos hE]
  | succ i => rw [hX] at hE; rw [lastE, if_pos hE]
theorem find_bare_wide (s : ByteArray) (X : List UInt8) (h : s.data.toList = X ++ endB 65535 4294967295 4294967295 []) :
    ∃ r1 r2 r3 r4 r5 r6 r7, spec18 s = (r1, r2, r3, r4, r5, r6, r7) ∧ (r7 = 31 ∨ (r7 = 0 ∧ 76 ≤ X.length)) := by
  obtain ⟨h0, h1, h2, h3, h4, h5, h6, h7⟩ := end_flds X 65535 4294967295 4294967295 (by decide) (by decide) (by decide)
  unfold spec18
  rw [h, lastOf_end X _ _ _ (by decide) (by decide) (by decide)]
  dsimp only
  unfold findE
  dsimp only
  rw [h, h1, h2, h3, h4, h5, h6, if_neg (not_not_intro ⟨rfl, rfl, rfl⟩), if_neg (fun q => q.1 rfl)]
  split
  · exact ⟨_, _, _, _, _, _, _, rfl, .inl rfl⟩
  split
  · exact ⟨_, _, _, _, _, _, _, rfl, .inl rfl⟩
  unfold wideE
  split
  · exact ⟨_, _, _, _, _, _, _, rfl, .inl rfl⟩
  split
  · exact ⟨_, _, _, _, _, _, _, rfl, .inl rfl⟩
  split
  · exact ⟨_, _, _, _, _, _, _, rfl, .inl rfl⟩
  · exact ⟨_, _, _, _, _, _, _, rfl, .inr ⟨rfl, by omega⟩⟩
theorem find_own (s : ByteArray) (A : List UInt8) (n wr : Nat) (hn : n < 18446744073709551616) (hwr : wr < 65536) (hA : A.length ≤ 100000) (h : s.data.toList = (A ++ wideB n 0 A.length) ++ endB wr 4294967295 4294967295 []) :
    ∃ r1 r2 r3 r4 r5 r6 r7, spec18 s = (r1, r2, r3, r4, r5, r6, r7) ∧ (if wr = 65535 ∨ wr = n then r7 = 0 ∧ r2 = (n : Int) ∧ r6 = true else r7 = 31) := by
  have hwb : wideB n 0 A.length = wideR n 0 A.length ++ locB A.length := wideB_eq n 0 _ _ (by omega)
  have hwl : (wideR n 0 A.length).length = 56 := wide_len _ _ _
  have hll : (locB A.length).length = 20 := loc_len _
  have hXl : (A ++ wideB n 0 A.length).length = A.length + 76 := by rw [List.length_append, hwb, List.length_append, hwl, hll]
  obtain ⟨h0, h1, h2, h3, h4, h5, h6, h7⟩ := end_flds (A ++ wideB n 0 A.length) wr 4294967295 4294967295 hwr (by decide) (by decide)
  have hlast := lastOf_end (A ++ wideB n 0 A.length) wr 4294967295 4294967295 hwr (by decide) (by decide)
  rw [hXl] at h0 h1 h2 h3 h4 h5 h6 h7 hlast
  obtain ⟨E, hE⟩ : ∃ E, endB wr 4294967295 4294967295 [] = E := ⟨_, rfl⟩
  have hL : (A ++ wideB n 0 A.length) ++ E = A ++ (wideR n 0 A.length ++ (locB A.length ++ E)) := by rw [hwb]; simp only [List.append_assoc]
  have e0 : leN (ofN 4 0) = 0 := leOf4 _ (by omega)
  have e1 : leN (ofN 4 1) = 1 := leOf4 _ (by omega)
  have ex : leN (ofN 8 A.length) = A.length := leOf8 _ (by omega)
  have e44 : leN (ofN 8 44) = 44 := leOf8 _ (by omega)
  have en : leN (ofN 8 n) = n := leOf8 _ hn
  have ez : leN (ofN 8 0) = 0 := leOf8 _ (by omega)
  have hloc : A ++ (wideR n 0 A.length ++ (locB A.length ++ E)) = (A ++ wideR n 0 A.length) ++ ([80, 75, 6, 7] ++ (ofN 4 0 ++ (ofN 8 A.length ++ (ofN 4 1 ++ E)))) := by
    unfold locB; simp only [List.append_assoc, List.append_nil]
  have hYl : (A ++ wideR n 0 A.length).length = A.length + 56 := by rw [List.length_append, hwl]
  have l0 : fld ((A ++ wideB n 0 A.length) ++ E) (A.length + 56) 4 = 117853008 := by
    rw [hL, hloc, fld_app (A ++ wideR n 0 A.length) [80, 75, 6, 7] _ _ _ hYl.symm (by rfl)]; decide
  have l1 : fld ((A ++ wideB n 0 A.length) ++ E) (A.length + 60) 4 = 0 := by
    rw [hL, hloc, ← List.append_assoc, fld_app (A ++ wideR n 0 A.length ++ [80, 75, 6, 7]) (ofN 4 0) _ _ _ (by rw [List.length_append, hYl]; rfl) (by rw [ofN_length]), e0]
  have l2 : fld ((A ++ wideB n 0 A.length) ++ E) (A.length + 64) 8 = A.length := by
    rw [hL, hloc, ← List.append_assoc, ← List.append_assoc, fld_app (A ++ wideR n 0 A.length ++ [80, 75, 6, 7] ++ ofN 4 0) (ofN 8 A.length) _ _ _ (by rw [List.length_append, List.length_append, hYl, ofN_length]; rfl) (by rw [ofN_length]), ex]
  have l3 : fld ((A ++ wideB n 0 A.length) ++ E) (A.length + 72) 4 = 1 := by
    rw [hL, hloc, ← List.append_assoc, ← List.append_assoc, ← List.append_assoc, fld_app (A ++ wideR n 0 A.length ++ [80, 75, 6, 7] ++ ofN 4 0 ++ ofN 8 A.length) (ofN 4 1) _ _ _ (by rw [List.length_append, List.length_append, List.length_append, hYl, ofN_length, ofN_length]; rfl) (by rw [ofN_length]), e1]
  obtain ⟨Z, hZ⟩ : ∃ Z, locB A.length ++ E = Z := ⟨_, rfl⟩
  have hw : A ++ (wideR n 0 A.length ++ (locB A.length ++ E)) = A ++ ([80, 75, 6, 6] ++ (ofN 8 44 ++ ((ofN 2 45 ++ ofN 2 45) ++ (ofN 4 0 ++ (ofN 4 0 ++ (ofN 8 n ++ (ofN 8 n ++ (ofN 8 0 ++ (ofN 8 A.length ++ Z))))))))) := by
    rw [hZ]; unfold wideR; simp only [List.append_assoc, List.append_nil]
  have w0 : fld ((A ++ wideB n 0 A.length) ++ E) A.length 4 = 101075792 := by
    rw [hL, hw, fld_app A [80, 75, 6, 6] _ _ _ rfl (by rfl)]; decide
  have w1 : fld ((A ++ wideB n 0 A.length) ++ E) (A.length + 4) 8 = 44 := by
    rw [hL, hw, ← List.append_assoc, fld_app (A ++ [80, 75, 6, 6]) (ofN 8 44) _ _ _ (by rw [List.length_append]; rfl) (by rw [ofN_length]), e44]
  have w4 : fld ((A ++ wideB n 0 A.length) ++ E) (A.length + 16) 4 = 0 := by
    rw [hL, hw, ← List.append_assoc, ← List.append_assoc, ← List.append_assoc, fld_app (A ++ [80, 75, 6, 6] ++ ofN 8 44 ++ (ofN 2 45 ++ ofN 2 45)) (ofN 4 0) _ _ _ (by simp [ofN_length]) (by rw [ofN_length]), e0]
  have w5 : fld ((A ++ wideB n 0 A.length) ++ E) (A.length + 20) 4 = 0 := by
    rw [hL, hw, ← List.append_assoc, ← List.append_assoc, ← List.append_assoc, ← List.append_assoc, fld_app (A ++ [80, 75, 6, 6] ++ ofN 8 44 ++ (ofN 2 45 ++ ofN 2 45) ++ ofN 4 0) (ofN 4 0) _ _ _ (by simp [ofN_length]) (by rw [ofN_length]), e0]
  have w6 : fld ((A ++ wideB n 0 A.length) ++ E) (A.length + 24) 8 = n := by
    rw [hL, hw, ← List.append_assoc, ← List.append_assoc, ← List.append_assoc, ← List.append_assoc, ← List.append_assoc, fld_app (A ++ [80, 75, 6, 6] ++ ofN 8 44 ++ (ofN 2 45 ++ ofN 2 45) ++ ofN 4 0 ++ ofN 4 0) (ofN 8 n) _ _ _ (by simp [ofN_length]) (by rw [ofN_length]), en]
  have w7 : fld ((A ++ wideB n 0 A.length) ++ E) (A.length + 32) 8 = n := by
    rw [hL, hw, ← List.append_assoc, ← List.append_assoc, ← List.append_assoc, ← List.append_assoc, ← List.append_assoc, ← List.append_assoc, fld_app (A ++ [80, 75, 6, 6] ++ ofN 8 44 ++ (ofN 2 45 ++ ofN 2 45) ++ ofN 4 0 ++ ofN 4 0 ++ ofN 8 n) (ofN 8 n) _ _ _ (by simp [ofN_length]) (by rw [ofN_length]), en]
  rw [hE] at h h0 h1 h2 h3 h4 h5 h6 h7 hlast
  unfold spec18
  rw [h, hlast]
  dsimp only
  unfold findE
  dsimp only
  rw [h, show A.length + 76 + 4 = A.length + 76 + 4 from rfl, h1, h2, h3, h4, h5, h6, if_neg (not_not_intro ⟨rfl, rfl, rfl⟩), if_neg (fun q => q.2.1 rfl), if_neg (by omega)]
  rw [show A.length + 76 - 20 = A.length + 56 by omega, show A.length + 76 - 16 = A.length + 60 by omega, show A.length + 76 - 4 = A.length + 72 by omega, show A.length + 76 - 12 = A.length + 64 by omega, l0, l1, l2, l3, if_neg (not_not_intro ⟨rfl, rfl, rfl, by omega⟩)]
  unfold wideE
  rw [show A.length + 76 - 20 - A.length = 56 by omega, if_neg (by decide), w0, w1, w4, w5, w6, w7, if_neg (not_not_intro ⟨rfl, by omega, rfl, rfl, rfl⟩)]
  by_cases hfit : wr = 65535 ∨ wr = n
  · rw [if_neg (not_not_intro ⟨hfit, .inl rfl, .inl rfl⟩)]
    exact ⟨_, _, _, _, _, _, _, rfl, by rw [if_pos hfit]; exact ⟨rfl, rfl, rfl⟩⟩
  · rw [if_pos (fun q => hfit q.1)]
    exact ⟨_, _, _, _, _, _, _, rfl, by rw [if_neg hfit]⟩
end Go.Proofs.Ytdooampgkiodjaa.D18
namespace Go.Proofs.Ytdooampgkiodjaa.Walk
set_option linter.unusedVariables false
set_option linter.unusedSimpArgs false
open Go Go.RowKit Go.Proofs.Ytdooampgkiodjaa.P Go.Proofs.Ytdooampgkiodjaa.B Go.Proofs.Ytdooampgkiodjaa.D18 Go.Proofs.YtdooampgkiodjaaW.PrintWords Go.Proofs.YtdooampgkiodjaaW.PrintLast Go.Proofs.YtdooampgkiodjaaW.PrintMore
def BR (w : World) (g : Nat) (l : List UInt8) : Prop := ∃ (cs : Array Value) (n m : Nat), w.heap[g]? = some (.cells cs 5 (n, m)) ∧ l.length ≤ n ∧ ∀ j (hj : j < l.length), cs[j]? = some (.int .u8 (l[j].toNat : Int))
theorem BR.cell {w : World} {g : Nat} {l : List UInt8} (h : BR w g l) (j : Nat) (hj : j < l.length) : w.cell? ⟨g, j, none⟩ = some (.int .u8 (l[j].toNat : Int)) := by
  obtain ⟨cs, n, m, hh, hn, hc⟩ := h
  rw [cell_of_row w g j cs _ (n, m) hh]
  exact hc j hj
theorem BR.frozen {w : World} {g : Nat} {l : List UInt8} (h : BR w g l) (j : Nat) (hj : j < l.length) : w.frozen? ⟨g, j, none⟩ = false := by
  obtain ⟨cs, n, m, hh, hn, hc⟩ := h
  simp [World.frozen?, hh]
  omega
theorem BR.set {w : World} {g : Nat} {l : List UInt8} (h : BR w g l) (o : Nat) (b : UInt8) (x : Int) (hx : x = (b.toNat : Int)) : BR (w.setCell ⟨g, o, none⟩ (.int .u8 x)) g (l.set o b) := by
  subst hx
  obtain ⟨cs, n, m, hh, hn, hc⟩ := h
  refine ⟨cs.setIfInBounds o (.int .u8 (b.toNat : Int)), n, m, by simp [World.setCell, Array.getElem?_modify, hh], by simpa using hn, fun j hj => ?_⟩
  rw [List.length_set] at hj
  have hc' := hc j hj
  have hlt : j < cs.size := (Array.getElem?_eq_some_iff.1 hc').1
  rw [Array.getElem?_setIfInBounds]
  by_cases e : o = j
  · subst e
    rw [if_pos rfl, if_pos hlt, List.getElem_set_self]
  · rw [if_neg e, hc', List.getElem_set_ne e]
theorem BR.new (w : World) (s : ByteArray) (cap : Nat) (hcap : s.size ≤ cap) : BR (w.drew.alloc (.cells (bytesRow s cap) 5 ((bytesRow s cap).size, (bytesRow s cap).size + 1))) w.heap.size s.data.toList := by
  refine ⟨_, _, _, heap_alloc_new w.drew _, ?_, fun j hj => ?_⟩
  · simp [bytesRow]
  · have hj' : j < s.data.size := by simpa using hj
    rw [bytesRow_at s cap j hj']
    simp
set_option maxHeartbeats 16000000 in
set_option maxRecDepth 100000 in
theorem wide_big (a0 : ByteArray) (n wr : Int) (w : World) (h : 1000 < a0.size) :
    Calls Try.prog 4 #[.string a0, .int .u64 n, .int .u16 wr] w fun e w' => e = .returned (.bool true) ∧ Below w.heap.size w w' := by
  have hz1 : decide (1000 < a0.size) = true := decide_eq_true h
  have hz2 : decide ((1000 : Int) < (a0.size : Int)) = true := decide_eq_true (by omega)
  clear h
  have HB0 := Aside0.mk (Below.refl w.heap.size w)
  have HA := Aside0.mk (awake_up 2000 (by decide))
  go_enter Try.func4, Try.ntmps4
  go_wp2_with (go_at_call 7; (with_reducible refine (portmanteaulaw18_awake.calls 2000 true _ HA.out).mono ?_); rintro e w1 ⟨rfl, hb⟩; have HB1 := Aside0.mk (below_step HB0.out hb); clear hb)
  go_ret
  exact ⟨rfl, HB1.out⟩
set_option maxHeartbeats 16000000 in
set_option maxRecDepth 100000 in
theorem wide_core (a0 : ByteArray) (n wr : Nat) (w : World) (t : ByteArray) (k : Nat) (bare : Bool) (h0 : ¬ 1000 < a0.size) (ht : t.size = 98) (fp : tail_Print.f 0 (n : Int) 0 (a0.size : Int) (⟨#[]⟩ : ByteArray) true = some (t, 0))
    (q1 q2 q3 q4 : Int) (q5 : ByteArray) (q6 : Bool) (q7 : Int) (b0 b1 : UInt8) (hb0 : (wr : Int) % 256 = (b0.toNat : Int)) (hb1 : (wr : Int) / 256 % 256 = (b1.toNat : Int)) (hwr : wr < 65536)
    (f2 : tail_Find.f k ⟨(((((a0 ++ t).data.toList.set (a0.size + 84) b0).set (a0.size + 84 + 1) b1).set (a0.size + 84 + 2) b0).set (a0.size + 84 + 3) b1).toArray⟩ = some (q1, q2, q3, q4, q5, q6, q7))
    (p1 p2 p3 p4 : Int) (p5 : ByteArray) (p6 : Bool) (p7 : Int) (f1 : tail_Find.f k (a0 ++ t.extract 76 98) = some (p1, p2, p3, p4, p5, p6, p7)) (hsf : strings_HasSuffix.f a0 (t.extract 0 76) = some bare)
    (hA : bare = true ∨ p7 = 31 ∨ (p7 = 0 ∧ 76 ≤ a0.size)) (hB : if wr = 65535 ∨ wr = n then q7 = 0 ∧ q2 = (n : Int) ∧ q6 = true else q7 = 31) :
    Calls Try.prog 4 #[.string a0, .int .u64 n, .int .u16 wr] w fun e w' => e = .returned (.bool true) ∧ Below w.heap.size w w' := by
  have H_A := Aside0.mk hA
  have H_B := Aside0.mk hB
  clear hA hB
  have FP := Aside0.mk fp
  have F1 := Aside0.mk f1
  have FS := Aside0.mk hsf
  have F2 := Aside0.mk f2
  have HB0_ := Aside0.mk hb0
  have HB1_ := Aside0.mk hb1
  have HWR := Aside0.mk hwr
  clear fp f1 hsf f2 hb0 hb1 hwr
  have HU := Aside0.mk (u64_id (x := (a0.size : Int)) (by omega) (by omega))
  have hz1 : decide (1000 < a0.size) = false := decide_eq_false h0
  have hz2 : decide ((1000 : Int) < (a0.size : Int)) = false := decide_eq_false (by omega)
  have HB0 := Aside0.mk (Below.refl w.heap.size w)
  have HA := Aside0.mk (awake_up 2000 (by decide))
  go_enter Try.func4, Try.ntmps4
  go_upto_region 5 with (go_at_call 7; (with_reducible refine (portmanteaulaw18_awake.calls 2000 true _ HA.out).mono ?_); rintro e w1 ⟨rfl, hb⟩; have HB1 := Aside0.mk (below_step HB0.out hb); clear hb)
  clear hz1 hz2
  have hu := HU.out
  go_upto_region 6 with (go_at_call 10; (with_reducible refine (tail_Print.calls 0 (n : Int) 0 (a0.size : Int) (⟨#[]⟩ : ByteArray) true t 0 _ FP.out).mono ?_); rintro e w2 ⟨rfl, hb⟩; have HB2 := Aside0.mk (below_step HB1.out hb); clear hb)
  clear hu
  have s1 : ((t.size : Int) != 98) = false := bne_eq_false_iff_eq.2 (by omega)
  have s2 := eq_true (show (76 : Int) ≤ (t.size : Int) by omega)
  have s3 := eq_true (show (76 : Nat) ≤ t.size by omega)
  have s4 := eq_true (show a0.size + (t.extract 76 t.size).size ≤ 9223372036854775807 by simp; omega)
  go_upto_region 8 with (fail)
  have ex : t.extract 76 t.size = t.extract 76 98 := by rw [ht]
  go_upto_region 9 with (go_at_call 8; (with_reducible refine (tail_Find.calls k (a0 ++ t.extract 76 98) p1 p2 p3 p4 p5 p6 p7 _ F1.out).mono ?_); rintro e w3 ⟨rfl, hb⟩; have HB3 := Aside0.mk (below_step HB2.out hb); clear hb)
  have HBa := Aside0.mk (below_alloc HB3.out (.cells #[.int .i64 p1, .int .u64 p2, .int .u64 p3, .int .u64 p4, .string p5, .bool p6] 25))
  generalize w3.alloc (.cells #[.int .i64 p1, .int .u64 p2, .int .u64 p3, .int .u64 p4, .string p5, .bool p6] 25) = w4 at HBa ⊢
  generalize w3.heap.size = ga
  clear ex s4 HB2 HB3
  have s5 := eq_true (show a0.size + t.size ≤ 9223372036854775807 by omega)
  go_upto_region 10 with (go_at_call 11; (with_reducible refine (strings_HasSuffix.calls a0 (t.extract 0 76) bare _ FS.out).mono ?_); rintro e w5 ⟨rfl, hb⟩; have HB5 := Aside0.mk (below_step HBa.out hb.below); clear hb)
  have hcv := run_bytes_of_string w5 9 37 5 (a0 ++ t) Try.underlying9 Try.underlying37 Try.underlying5
  obtain ⟨cap, hcap⟩ : ∃ cap, grownCap w5 (a0 ++ t).size 0 5 = cap := ⟨_, rfl⟩
  have hcl : (a0 ++ t).size ≤ cap := by rw [← hcap]; exact grownCap_ge _ _ _ _
  rw [hcap] at hcv
  have BB := Aside0.mk (BR.new w5 (a0 ++ t) cap hcl)
  have HB6 := Aside0.mk (below_alloc (below_drew1 HB5.out) (.cells (bytesRow (a0 ++ t) cap) 5 ((bytesRow (a0 ++ t) cap).size, (bytesRow (a0 ++ t) cap).size + 1)))
  have HGE := Aside0.mk (show w.heap.size ≤ w5.heap.size from HB5.out.size)
  clear hcap hcl
  generalize w5.drew.alloc (.cells (bytesRow (a0 ++ t) cap) 5 ((bytesRow (a0 ++ t) cap).size, (bytesRow (a0 ++ t) cap).size + 1)) = w6 at hcv BB HB6
  generalize hg : w5.heap.size = g at hcv BB HGE
  clear hg HBa
  go_upto_region 11 with (fail)
  clear hcv s5 s1 s2 s3 HB5
  go_upto_region 12 with (fail)
  rw [show (a0.size : Int) + 76 + 8 = ((a0.size + 84 : Nat) : Int) by omega]
  have hln : (a0 ++ t).data.toList.length = a0.size + 98 := by rw [toList_length, ByteArray.size_append, ht]
  obtain ⟨o, ho⟩ : ∃ o, a0.size + 84 = o := ⟨_, rfl⟩
  rw [ho] at F2 ⊢
  obtain ⟨z, hz⟩ : ∃ z, a0.size + 98 = z := ⟨_, rfl⟩
  rw [hz] at hln ⊢
  have hoz : o + 14 = z := by omega
  have hob : o ≤ 2000 := by omega
  obtain ⟨y0, c0⟩ : ∃ y, w6.cell? ⟨g, o + 0, none⟩ = some y := ⟨_, BB.out.cell (o + 0) (by omega)⟩
  have f0 := BB.out.frozen (o + 0) (by omega)
  obtain ⟨y1, c1⟩ : ∃ y, w6.cell? ⟨g, o + 1, none⟩ = some y := ⟨_, BB.out.cell (o + 1) (by omega)⟩
  have f1 := BB.out.frozen (o + 1) (by omega)
  obtain ⟨y2, c2⟩ : ∃ y, w6.cell? ⟨g, o + 2, none⟩ = some y := ⟨_, BB.out.cell (o + 2) (by omega)⟩
  have f2 := BB.out.frozen (o + 2) (by omega)
  obtain ⟨y3, c3⟩ : ∃ y, w6.cell? ⟨g, o + 3, none⟩ = some y := ⟨_, BB.out.cell (o + 3) (by omega)⟩
  have f3 := BB.out.frozen (o + 3) (by omega)
  have d0 := eq_true (show o < z by omega)
  have d1 := eq_true (show (o : Int) + 1 < (z : Int) by omega)
  have dd1 := eq_true (show (0 : Int) ≤ (o : Int) + 1 by omega)
  have d2 := eq_true (show (o : Int) + 2 < (z : Int) by omega)
  have dd2 := eq_true (show (0 : Int) ≤ (o : Int) + 2 by omega)
  have d3 := eq_true (show (o : Int) + 3 < (z : Int) by omega)
  have dd3 := eq_true (show (0 : Int) ≤ (o : Int) + 3 by omega)
  have HOB := Aside0.mk hob
  have HOZ := Aside0.mk hoz
  have HZZ := Aside0.mk hz
  have HOO := Aside0.mk ho
  have HLN := Aside0.mk hln
  clear ho hz hoz hln h0 ht
  have hw := HWR.out
  simp only [Nat.add_zero] at c0 f0
  go_upto_region 13 with (fail)
  have hb1' : ((wr : Int) / 256) = (b1.toNat : Int) := by rw [← HB1_.out]; omega
  have BB2 := Aside0.mk ((((BB.out.set (o) b0 ((wr : Int) % 256) HB0_.out).set (o + 1) b1 ((wr : Int) / 256) hb1').set (o + 2) b0 ((wr : Int) % 256) HB0_.out).set (o + 3) b1 ((wr : Int) / 256) hb1')
  have HB7 := Aside0.mk (below_set (below_set (below_set (below_set HB6.out HGE.out (j := (o)) (v := (.int .u8 ((wr : Int) % 256)))) HGE.out (j := (o + 1)) (v := (.int .u8 ((wr : Int) / 256)))) HGE.out (j := (o + 2)) (v := (.int .u8 ((wr : Int) % 256)))) HGE.out (j := (o + 3)) (v := (.int .u8 ((wr : Int) / 256))))
  generalize ((((w6.setCell ⟨g, o, none⟩ (.int .u8 ((wr : Int) % 256))).setCell ⟨g, o + 1, none⟩ (.int .u8 ((wr : Int) / 256))).setCell ⟨g, o + 2, none⟩ (.int .u8 ((wr : Int) % 256))).setCell ⟨g, o + 3, none⟩ (.int .u8 ((wr : Int) / 256))) = w7 at BB2 HB7 ⊢
  clear c0 c1 c2 c3 f0 f1 f2 f3 d0 d1 d2 d3 dd1 dd2 dd3 hw hb1' BB HB6 hob
  obtain ⟨u, hu⟩ : ∃ u, ((((a0 ++ t).data.toList.set o b0).set (o + 1) b1).set (o + 2) b0).set (o + 3) b1 = u := ⟨_, rfl⟩
  rw [hu] at F2 BB2
  have hul : u.length = z := by rw [← hu]; simp only [List.length_set]; exact HLN.out
  clear hu
  have hcv := run_convert_bytes_back w7 37 9 5 ⟨g, 0, none⟩ cap u Try.underlying37 Try.underlying5 Try.underlying9 (fun j hj => by rw [show (⟨g, 0, none⟩ : Addr).add j = ⟨g, j, none⟩ by rcases j with _ | j <;> simp [Addr.add]]; exact BB2.out.cell j hj)
  rw [hul] at hcv
  clear hul
  go_upto_region 14 with (go_at_call 8; (with_reducible refine (tail_Find.calls k ⟨u.toArray⟩ q1 q2 q3 q4 q5 q6 q7 _ F2.out).mono ?_); rintro e w8 ⟨rfl, hb⟩; have HB8 := Aside0.mk (below_step HB7.out hb); clear hb)
  have HB9 := Aside0.mk (below_alloc HB8.out (.cells #[.int .i64 q1, .int .u64 q2, .int .u64 q3, .int .u64 q4, .string q5, .bool q6] 25))
  have HQ := Aside0.mk (heap_alloc_new w8 (.cells #[.int .i64 q1, .int .u64 q2, .int .u64 q3, .int .u64 q4, .string q5, .bool q6] 25))
  generalize w8.alloc (.cells #[.int .i64 q1, .int .u64 q2, .int .u64 q3, .int .u64 q4, .string q5, .bool q6] 25) = w9 at HB9 HQ ⊢
  generalize w8.heap.size = gq at HQ ⊢
  clear hcv HB8 HB7 BB2
  have k1 := blk_cell HQ.out 1
  have k5 := blk_cell HQ.out 5
  simp only [List.getElem?_toArray, List.getElem?_cons_zero, List.getElem?_cons_succ] at k1 k5
  have hu := u64_id (x := (wr : Int)) (by omega) (by have := HWR.out; omega)
  have hB := H_B.out
  have hA := H_A.out
  by_cases c1 : wr = 65535
  · rw [if_pos (.inl c1)] at hB
    obtain ⟨rfl, rfl, rfl⟩ := hB
    have z1 : ((wr : Int) == 65535) = true := beq_iff_eq.2 (by omega)
    clear c1
    rcases hA with rfl | rfl | ⟨rfl, h76⟩
    · go_wp2
      go_ret
      exact ⟨rfl, HB9.out⟩
    · cases bare
      all_goals
        go_wp2
        go_ret
        exact ⟨rfl, HB9.out⟩
    · have g1 : decide ((76 : Int) ≤ (a0.size : Int)) = true := decide_eq_true (by omega)
      have g2 : decide (76 ≤ a0.size) = true := decide_eq_true h76
      cases bare
      all_goals
        go_wp2
        go_ret
        exact ⟨rfl, HB9.out⟩
  have z1 : ((wr : Int) == 65535) = false := beq_eq_false_iff_ne.2 (by omega)
  by_cases c2 : wr = n
  · rw [if_pos (.inr c2)] at hB
    obtain ⟨rfl, rfl, rfl⟩ := hB
    have z2 : ((wr : Int) == (n : Int)) = true := beq_iff_eq.2 (by omega)
    clear c2 c1
    rcases hA with rfl | rfl | ⟨rfl, h76⟩
    · go_wp2
      go_ret
      exact ⟨rfl, HB9.out⟩
    · cases bare
      all_goals
        go_wp2
        go_ret
        exact ⟨rfl, HB9.out⟩
    · have g1 : decide ((76 : Int) ≤ (a0.size : Int)) = true := decide_eq_true (by omega)
      have g2 : decide (76 ≤ a0.size) = true := decide_eq_true h76
      cases bare
      all_goals
        go_wp2
        go_ret
        exact ⟨rfl, HB9.out⟩
  rw [if_neg (fun q => q.elim c1 c2)] at hB
  subst hB
  have z2 : ((wr : Int) == (n : Int)) = false := beq_eq_false_iff_ne.2 (by omega)
  clear c2 c1
  rcases hA with rfl | rfl | ⟨rfl, h76⟩
  · go_wp2
    go_ret
    exact ⟨rfl, HB9.out⟩
  · cases bare
    all_goals
      go_wp2
      go_ret
      exact ⟨rfl, HB9.out⟩
  · have g1 : decide ((76 : Int) ≤ (a0.size : Int)) = true := decide_eq_true (by omega)
    have g2 : decide (76 ≤ a0.size) = true := decide_eq_true h76
    cases bare
    all_goals
      go_wp2
      go_ret
      exact ⟨rfl, HB9.out⟩
end Go.Proofs.Ytdooampgkiodjaa.Walk
namespace Go.Proofs.Ytdooampgkiodjaa.Walk
set_option linter.unusedVariables false
set_option linter.unusedSimpArgs false
open Go Go.RowKit Go.Proofs.Ytdooampgkiodjaa.P Go.Proofs.Ytdooampgkiodjaa.B Go.Proofs.Ytdooampgkiodjaa.D18 Go.Proofs.Ytdooampgkiodjaa.Num Go.Proofs.Ytdooampgkiodjaa.Cur Go.Proofs.YtdooampgkiodjaaW.PrintWords Go.Proofs.YtdooampgkiodjaaW.PrintLast Go.Proofs.YtdooampgkiodjaaW.PrintMore
theorem suffix_total (a b : ByteArray) (ha : a.size ≤ 1000000) (hb : b.size ≤ 1000000) : ∃ r, strings_HasSuffix.f a b = some r := by
  unfold strings_HasSuffix.f stringslite_HasSuffix.f
  by_cases h : (b.size : Int) ≤ (a.size : Int)
  · rw [wrap_id (by omega) (by omega)]
    repeat first
      | rw [if_pos (by omega)]
      | rw [if_neg (by omega)]
      | split
    all_goals exact ⟨_, rfl⟩
  · repeat first
      | rw [if_neg (by omega)]
      | split
    all_goals exact ⟨_, rfl⟩
theorem set_end (X : List UInt8) (wr : Nat) (x : Nat) (hx : x = X.length + 8) :
    ((((X ++ endB 65535 4294967295 4294967295 []).set x (UInt8.ofNat (wr % 256))).set (x + 1) (UInt8.ofNat (wr / 256 % 256))).set (x + 2) (UInt8.ofNat (wr % 256))).set (x + 3) (UInt8.ofNat (wr / 256 % 256)) = X ++ endB wr 4294967295 4294967295 [] := by
  subst hx
  rw [List.set_append_right _ _ (by omega), List.set_append_right _ _ (by omega), List.set_append_right _ _ (by omega), List.set_append_right _ _ (by omega)]
  rw [show X.length + 8 - X.length = 8 by omega, show X.length + 8 + 1 - X.length = 9 by omega, show X.length + 8 + 2 - X.length = 10 by omega, show X.length + 8 + 3 - X.length = 11 by omega]
  rfl
theorem TailWide (a0 : ByteArray) (a1 a2 : Int) (w : World) (w0 : a0.size ≤ 140737488351232) (w1 : (Lit.int .u64 a1).wf = true) (w2 : (Lit.int .u16 a2).wf = true) :
    Calls Try.prog 4 #[.string a0, .int .u64 a1, .int .u16 a2] w fun e w' => e = .returned (.bool true) ∧ Below w.heap.size w w' := by
  by_cases h0 : 1000 < a0.size
  · exact wide_big a0 a1 a2 w h0
  have b1 := wf_u64 w1
  have b2 := wf_u16 w2
  obtain ⟨n, rfl⟩ : ∃ n : Nat, a1 = (n : Int) := ⟨a1.toNat, by omega⟩
  obtain ⟨wr, rfl⟩ : ∃ m : Nat, a2 = (m : Int) := ⟨a2.toNat, by omega⟩
  have hn : n < 18446744073709551616 := by omega
  have hwr : wr < 65536 := by omega
  have hal : a0.data.toList.length = a0.size := toList_length a0
  obtain ⟨P, hPd⟩ : ∃ P, wideB n 0 a0.data.toList.length = P := ⟨_, rfl⟩
  have hPl : P.length = 76 := by
    rw [← hPd, wideB_eq n 0 _ a0.data.toList.length (by omega), List.length_append, wide_len, loc_len]
  obtain ⟨t, ht⟩ : ∃ t, strN (P ++ endB 65535 4294967295 4294967295 []) = t := ⟨_, rfl⟩
  have htl : t.data.toList = P ++ endB 65535 4294967295 4294967295 [] := by rw [← ht, Cur.strN_data]
  have hts : t.size = 98 := by rw [← toList_length, htl, List.length_append, hPl, endB_len]; rfl
  have fp : tail_Print.f 0 (n : Int) 0 (a0.size : Int) (⟨#[]⟩ : ByteArray) true = some (t, 0) := by
    unfold tail_Print.f tailGo
    rw [if_pos (by omega), Int.toNat_natCast, show (0 : Int).toNat = 0 from rfl, Int.toNat_natCast, if_neg (by decide), if_pos rfl, ← hal, hPd, ← ht]
  have hx1 : (a0 ++ t.extract 76 98).data.toList = a0.data.toList ++ endB 65535 4294967295 4294967295 [] := by
    rw [ByteArray.data_append, Array.toList_append, extract_list, htl, List.take_of_length_le (by rw [List.length_append, hPl, endB_len]; decide), List.drop_append_of_le_length (by omega), List.drop_of_length_le (by omega), List.nil_append]
  obtain ⟨p1, p2, p3, p4, p5, p6, p7, hp, hA⟩ := find_bare_wide _ _ hx1
  have f1 := find_eq (a0 ++ t.extract 76 98) (by rw [ByteArray.size_append]; simp; omega) 6000 (by omega)
  rw [hp] at f1
  obtain ⟨bare, hbare⟩ := suffix_total a0 (t.extract 0 76) (by omega) (by simp; omega)
  have hset := set_end (a0.data.toList ++ P) wr (a0.size + 84) (by rw [List.length_append, hPl, hal])
  obtain ⟨u, hu⟩ : ∃ u, (a0.data.toList ++ P) ++ endB wr 4294967295 4294967295 [] = u := ⟨_, rfl⟩
  have hul : u.length = a0.size + 98 := by rw [← hu, List.length_append, List.length_append, hPl, hal, endB_len]; rfl
  rw [hu] at hset
  have hlist : (a0 ++ t).data.toList = (a0.data.toList ++ P) ++ endB 65535 4294967295 4294967295 [] := by rw [ByteArray.data_append, Array.toList_append, htl, List.append_assoc]
  obtain ⟨q1, q2, q3, q4, q5, q6, q7, hq, hB⟩ := find_own ⟨u.toArray⟩ a0.data.toList n wr hn hwr (by omega) (by rw [hPd, hu])
  have f2 := find_eq ⟨u.toArray⟩ (by show u.toArray.size ≤ 5000; simp; omega) 6000 (by omega)
  rw [hq] at f2
  refine wide_core a0 n wr w t 6000 bare h0 hts fp q1 q2 q3 q4 q5 q6 q7 (UInt8.ofNat (wr % 256)) (UInt8.ofNat (wr / 256 % 256)) (by simp) (by simp) hwr ?_ p1 p2 p3 p4 p5 p6 p7 f1 hbare (.inr (by rw [hal] at hA; exact hA)) hB
  rw [hlist, hset]
  exact f2
end Go.Proofs.Ytdooampgkiodjaa.Walk
