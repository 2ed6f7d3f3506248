/- stamp.digits: a number's digits, so wide at least: the walk. -/
import Derived.Test.YtpolblaahifjiaaDoorGivefmt
import Derived.Test.YtpolblaahifjiaaDoorGiverepeat
namespace Go.Proofs.YtpolblaahifjiaaDoor.Fmt
set_option linter.unusedVariables false
set_option linter.unusedSimpArgs false
open Go Go.RowKit Go.Lib Go.Proofs Go.Proofs.YtpolblaahifjiaaDoor.P Go.Proofs.YtpolblaahifjiaaDoorW.PrintWords Go.Proofs.YtpolblaahifjiaaDoorW.PrintLast Go.Proofs.YtpolblaahifjiaaDoorW.PrintMore
attribute [local go_sem] max2_int min2_int max_two min_two
/-- A number's digits, so wide at least. -/
def digL (n wide : Nat) : List UInt8 := List.replicate (wide - (Lib.decDigits n).length) 48 ++ Lib.decDigits n
theorem repeatOne (b : UInt8) : ∀ n, Lib.repeatL [b] n = List.replicate n b
  | 0 => rfl
  | n + 1 => by
    have := repeatOne b n
    simp only [Lib.repeatL, this]
    rfl
theorem digits_le (n : Nat) (hn : n < 18446744073709551616) : (Lib.decDigits n).length ≤ 20 := by
  rw [Lib.decDigits_length]
  by_cases h : 1 ≤ n
  · have := Lib.numDigits_eq n h hn; split at this <;> omega
  · have : n = 0 := by omega
    subst this
    rw [Lib.nDigits_small (by omega)]; omega
set_option maxHeartbeats 12800000 in
set_option maxRecDepth 100000 in
theorem digits_calls (n wide : Nat) (hn : n < 9223372036854775808) (hw : wide ≤ 100) (w : World) (htab : Tab w) :
    Calls Tryd.prog 23 #[.int .i64 n, .int .i64 wide] w fun e w' => e = .returned (.string ⟨(digL n wide).toArray⟩) ∧ Below w.heap.size w w' := by
  have hl := digits_le n (by omega)
  obtain ⟨S, hS⟩ : ∃ S : ByteArray, S = ⟨(Lib.decDigits n).toArray⟩ := ⟨_, rfl⟩
  have hSz : S.size = (Lib.decDigits n).length := by rw [hS]; simp [ByteArray.size]
  obtain ⟨c, hc⟩ : ∃ c : Nat, c = wide - (Lib.decDigits n).length := ⟨_, rfl⟩
  obtain ⟨R, hR⟩ : ∃ R : ByteArray, R = ⟨(Lib.repeatL [48] c).toArray⟩ := ⟨_, rfl⟩
  have hRz : R.size = c := by rw [hR, repeatOne]; simp [ByteArray.size]
  have hrep : ∀ w, Calls Tryd.prog 30 #[.string ⟨#[48]⟩, .int .i64 c] w fun e w' => e = .returned (.string R) ∧ Below w.heap.size w w' := fun w => strings_Repeat.calls _ _ _ w (by
    unfold strings_Repeat.f
    rw [if_pos ⟨by omega, by simp only [ByteArray.size]; simp; omega, by omega⟩, hR]
    simp)
  have hfm : ∀ w, Tab w → Calls Tryd.prog 29 #[.int .u64 n, .int .i64 10] w fun e w' => e = .returned (.string S) ∧ Below w.heap.size w w' := fun w ht => by
    rw [hS]; exact format_calls n (by omega) w ht
  have hneg : decide ((n : Int) < 0) = false := decide_eq_false (by omega)
  have hwr : IntKind.u64.wrap (n : Int) = (n : Int) := by rw [IntKind.wrap_u64]; omega
  have hsz : S.size ≤ 20 := by omega
  have hRs : R.size ≤ 100 := by omega
  have hmx : (if S.size < wide then (wide : Int) - (S.size : Int) else 0) = (c : Int) := by split <;> omega
  have HE := Aside0.mk (show R ++ S = ⟨(digL n wide).toArray⟩ by
    rw [hR, hS, repeatOne, hc]; rfl)
  have HR := Aside0.mk hrep
  have HF := Aside0.mk hfm
  have HT := Aside0.mk htab
  clear hR hS hrep hfm htab hRz hl hSz hc
  go_enter Tryd.func23, Tryd.ntmps23
  go_wp2_with (first
    | (go_at_call 29; (with_reducible refine (HF.out _ HT.out).mono ?_); rintro e w1 ⟨rfl, hb⟩; have HB := Aside0.mk hb; clear hb)
    | (go_at_call 30; (with_reducible refine (HR.out _).mono ?_); rintro e w2 ⟨rfl, hb⟩; have HB2 := Aside0.mk (below_step HB.out hb); clear hb))
  go_ret
  exact ⟨by rw [← HE.out]; simp; exact ByteArray.empty_append, HB2.out⟩
end Go.Proofs.YtpolblaahifjiaaDoor.Fmt
