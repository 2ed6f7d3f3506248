/- Texts of dates: their order is the dates'. -/
import Derived.Test.YtpolblaahifjiaaDoorGivestamptext
namespace Go.Proofs.YtpolblaahifjiaaDoor.Cal
set_option linter.unusedVariables false
set_option linter.unusedSimpArgs false
open Go Go.RowKit Go.Lib Go.Proofs Go.Proofs.YtpolblaahifjiaaDoor.P Go.Proofs.YtpolblaahifjiaaDoor.Fmt
/-- Two digits. -/
def d2 (n : Nat) : List UInt8 := [UInt8.ofNat (48 + n / 10), UInt8.ofNat (48 + n % 10)]
theorem dig2 (n : Nat) (h : n < 100) : digL n 2 = d2 n := by
  unfold digL d2
  by_cases h1 : n < 10
  · rw [Lib.decDigits_one h1, show n / 10 = 0 by omega, show n % 10 = n by omega]; rfl
  · rw [Lib.decDigits_two h1 h]; rfl
theorem dig4 (n : Nat) (h : n < 10000) : digL n 4 = d2 (n / 100) ++ d2 (n % 100) := by
  unfold digL d2
  by_cases h1 : n < 10
  · rw [Lib.decDigits_one h1, show n / 100 = 0 by omega, show n % 100 = n by omega, show n / 10 = 0 by omega, show n % 10 = n by omega]; rfl
  by_cases h2 : n < 100
  · rw [Lib.decDigits_two h1 h2, show n / 100 = 0 by omega, show n % 100 = n by omega]; rfl
  have e1 : Lib.decDigits n = Lib.decDigits (n / 10) ++ [UInt8.ofNat (48 + n % 10)] := by rw [Lib.decDigits, dif_neg h1]
  by_cases h3 : n < 1000
  · rw [e1, Lib.decDigits_two (by omega) (by omega), show n / 100 / 10 = 0 by omega, show n / 100 % 10 = n / 10 / 10 by omega, show n % 100 / 10 = n / 10 % 10 by omega, show n % 100 % 10 = n % 10 by omega]; rfl
  have e2 : Lib.decDigits (n / 10) = Lib.decDigits (n / 10 / 10) ++ [UInt8.ofNat (48 + n / 10 % 10)] := by rw [Lib.decDigits, dif_neg (by omega)]
  rw [e1, e2, Lib.decDigits_two (by omega) (by omega), show n / 100 / 10 = n / 10 / 10 / 10 by omega, show n / 100 % 10 = n / 10 / 10 % 10 by omega, show n % 100 / 10 = n / 10 % 10 by omega, show n % 100 % 10 = n % 10 by omega]; rfl
theorem dig_lt : ∀ a < 10, ∀ b < 10, (decide (UInt8.ofNat (48 + a) < UInt8.ofNat (48 + b)) = decide (a < b) ∧ (UInt8.ofNat (48 + a) == UInt8.ofNat (48 + b)) = (a == b)) := by decide +kernel
theorem less_cons (a b : UInt8) (x y : List UInt8) : Op.bytesLess (a :: x) (b :: y) = (decide (a < b) || (a == b && Op.bytesLess x y)) := rfl
theorem ord2 (n n' : Nat) (x y : List UInt8) (hn : n < 100) (hn' : n' < 100) (h : n ≤ n') (hr : n = n' → Op.bytesLess y x = false) : Op.bytesLess (d2 n' ++ y) (d2 n ++ x) = false := by
  show Op.bytesLess (UInt8.ofNat (48 + n' / 10) :: UInt8.ofNat (48 + n' % 10) :: y) (UInt8.ofNat (48 + n / 10) :: UInt8.ofNat (48 + n % 10) :: x) = false
  rw [less_cons, less_cons, (dig_lt (n' / 10) (by omega) (n / 10) (by omega)).1, (dig_lt (n' / 10) (by omega) (n / 10) (by omega)).2, (dig_lt (n' % 10) (by omega) (n % 10) (by omega)).1, (dig_lt (n' % 10) (by omega) (n % 10) (by omega)).2]
  by_cases he : n = n'
  · subst he
    simp [hr rfl]
  · rw [decide_eq_false (by omega)]
    by_cases hq : n' / 10 = n / 10
    · rw [decide_eq_false (by omega), show (n' % 10 == n % 10) = false from beq_eq_false_iff_ne.mpr (by omega)]; simp
    · rw [show (n' / 10 == n / 10) = false from beq_eq_false_iff_ne.mpr hq]; simp
theorem ord1 (c : UInt8) (x y : List UInt8) (hr : Op.bytesLess y x = false) : Op.bytesLess (c :: y) (c :: x) = false := by
  rw [less_cons, hr]
  simp
theorem text_eq (y m d h mi s : Nat) (hy : y < 10000) (hm : m < 100) (hd : d < 100) (hh : h < 100) (hi : mi < 100) (hs : s < 100) : textL y m d h mi s = d2 (y / 100) ++ (d2 (y % 100) ++ (45 :: (d2 m ++ (45 :: (d2 d ++ (84 :: (d2 h ++ (58 :: (d2 mi ++ (58 :: (d2 s ++ []))))))))))) := by
  unfold textL
  rw [dig4 y hy, dig2 m hm, dig2 d hd, dig2 h hh, dig2 mi hi, dig2 s hs]
  simp only [List.append_assoc, List.cons_append, List.nil_append, List.append_nil]
theorem text_le (y m d h mi s y' m' d' h' mi' s' : Nat) (hy : y < 10000) (hm : m < 100) (hd : d < 100) (hh : h < 100) (hi : mi < 100) (hs : s < 100) (hy' : y' < 10000) (hm' : m' < 100) (hd' : d' < 100) (hh' : h' < 100) (hi' : mi' < 100) (hs' : s' < 100)
    (l1 : y ≤ y') (l2 : y = y' → m ≤ m') (l3 : y = y' → m = m' → d ≤ d') (l4 : y = y' → m = m' → d = d' → h ≤ h') (l5 : y = y' → m = m' → d = d' → h = h' → mi ≤ mi') (l6 : y = y' → m = m' → d = d' → h = h' → mi = mi' → s ≤ s') :
    Op.bytesLess (textL y' m' d' h' mi' s') (textL y m d h mi s) = false := by
  rw [text_eq y m d h mi s hy hm hd hh hi hs, text_eq y' m' d' h' mi' s' hy' hm' hd' hh' hi' hs']
  refine ord2 _ _ _ _ (by omega) (by omega) (by omega) (fun e1 => ?_)
  refine ord2 _ _ _ _ (by omega) (by omega) (by omega) (fun e2 => ?_)
  have ey : y = y' := by omega
  refine ord1 _ _ _ (ord2 _ _ _ _ hm hm' (l2 ey) (fun e3 => ?_))
  refine ord1 _ _ _ (ord2 _ _ _ _ hd hd' (l3 ey e3) (fun e4 => ?_))
  refine ord1 _ _ _ (ord2 _ _ _ _ hh hh' (l4 ey e3 e4) (fun e5 => ?_))
  refine ord1 _ _ _ (ord2 _ _ _ _ hi hi' (l5 ey e3 e4 e5) (fun e6 => ?_))
  exact ord1 _ _ _ (ord2 _ _ _ _ hs hs' (l6 ey e3 e4 e5 e6) (fun _ => rfl))
end Go.Proofs.YtpolblaahifjiaaDoor.Cal
