/- BitsTurns: turned twice, bits are as they were: the walk through the law's own code. -/
import Derived.Test.YtdbekngboogaoaaAwake
import Derived.Test.YtdbekngboogaoaaTurn
namespace Go.Proofs.Ytdbekngboogaoaa.Walk
set_option linter.unusedVariables false
set_option linter.unusedSimpArgs false
open Go Go.RowKit Go.Proofs.Ytdbekngboogaoaa.P Go.Proofs.Ytdbekngboogaoaa.B Go.Proofs.Ytdbekngboogaoaa.Bn Go.Proofs.Ytdbekngboogaoaa.D3 Go.Proofs.YtdbekngboogaoaaW.PrintWords Go.Proofs.YtdbekngboogaoaaW.PrintLast Go.Proofs.YtdbekngboogaoaaW.PrintMore

set_option maxHeartbeats 4000000 in
set_option maxRecDepth 100000 in
theorem BitsTurns (v n a : Int) (w : World) (hv : (Lit.int .u32 v).wf = true) (hn : (Lit.int .i64 n).wf = true) (ha : (Lit.int .u8 a).wf = true) :
    Calls Try.prog 3 #[.int .u32 v, .int .i64 n, .int .u8 a] w fun e w' => e = .returned (.bool true) ∧ Below w.heap.size w w' := by
  have hv' := wf_u32 hv
  have ha' := wf_u8 ha
  obtain ⟨v, rfl⟩ : ∃ x : Nat, v = (x : Int) := ⟨v.toNat, by omega⟩
  obtain ⟨a, rfl⟩ : ∃ x : Nat, a = (x : Int) := ⟨a.toNat, by omega⟩
  clear hv ha
  by_cases hout : n < 1 ∨ 32 < n
  · have HT := Aside0.mk (turn_out v n hout)
    by_cases h1 : n < 1
    · have h1b : decide (n < 1) = true := decide_eq_true h1
      go_enter Try.func3, Try.ntmps3
      go_wp2_with (first
        | (go_at_call 8; refine (awake_calls _).mono ?_; rintro e w1 ⟨rfl, hb⟩)
        | (go_at_call 9; refine (bits_Turn.calls 40 _ _ _ _ HT.out).mono ?_; rintro e w2 ⟨rfl, ⟨nd, rfl⟩⟩))
      go_ret
      exact ⟨rfl, pw_below_drewN (by assumption) _⟩
    · have h1b : decide (n < 1) = false := decide_eq_false h1
      have h2b : decide (32 < n) = true := decide_eq_true (by omega)
      go_enter Try.func3, Try.ntmps3
      go_wp2_with (first
        | (go_at_call 8; refine (awake_calls _).mono ?_; rintro e w1 ⟨rfl, hb⟩)
        | (go_at_call 9; refine (bits_Turn.calls 40 _ _ _ _ HT.out).mono ?_; rintro e w2 ⟨rfl, ⟨nd, rfl⟩⟩))
      go_ret
      exact ⟨rfl, pw_below_drewN (by assumption) _⟩
  obtain ⟨n, rfl⟩ : ∃ x : Nat, n = (x : Int) := ⟨n.toNat, by omega⟩
  have h1 : 1 ≤ n := by omega
  have h32 : n ≤ 32 := by omega
  have hrl := rev_lt v n
  have hp : 2 ^ n ≤ 2 ^ 32 := Nat.pow_le_pow_right (by decide) h32
  have HT1 := Aside0.mk (turn_in v n (by omega) h1 h32)
  have HT2 := Aside0.mk (turn_in (rev v n) n (by omega) h1 h32)
  have hb1 : decide ((n : Int) < 1) = false := decide_eq_false (by omega)
  have hb2 : decide ((32 : Int) < (n : Int)) = false := decide_eq_false (by omega)
  have hb3 : decide (32 < n) = false := decide_eq_false (by omega)
  have hlow := and_low v n (by omega) h32
  obtain ⟨k, hk⟩ : ∃ k, a % n = k := ⟨_, rfl⟩
  have hkn : k < n := by rw [← hk]; exact Nat.mod_lt _ (by omega)
  have hk' : (a : Int) % (n : Int) = (k : Int) := by rw [← hk]; simp
  have hat := rev_at v n k hkn
  have hrr := rev_rev v n
  obtain ⟨r, hr⟩ : ∃ r, rev v n = r := ⟨_, rfl⟩
  rw [hr] at hrl HT1 HT2 hat hrr
  rw [hrr] at HT2
  clear hk hr hrr
  have hm : v % 2 ^ n < 4294967296 := by have := Nat.mod_lt v (Nat.pow_pos (n := n) (show 0 < 2 by decide)); omega
  obtain ⟨m, hm2⟩ : ∃ m, v % 2 ^ n = m := ⟨_, rfl⟩
  rw [hm2] at hm HT2 hlow
  have hA := and1 (r / 2 ^ k) (Nat.lt_of_le_of_lt (Nat.div_le_self _ _) (by omega))
  have hB := and1 (v / 2 ^ (n - 1 - k)) (Nat.lt_of_le_of_lt (Nat.div_le_self _ _) (by omega))
  rw [hat] at hA
  have hcmp : (Go.bits .and .u32 ((r : Int) / 2 ^ k) 1 == Go.bits .and .u32 ((v : Int) / 2 ^ (n - 1 - k)) 1) = true := by
    have e1 : ((r / 2 ^ k : Nat) : Int) = (r : Int) / 2 ^ k := by simp
    have e2 : ((v / 2 ^ (n - 1 - k) : Nat) : Int) = (v : Int) / 2 ^ (n - 1 - k) := by simp
    rw [e1] at hA
    rw [e2] at hB
    rw [hA, hB]; simp
  clear hA hB hat
  have HQ1 := Aside0.mk (fun W : World => (show Calls Try.prog 9 #[.int .u32 v, .int .i64 n] W fun e w' => e = .returned (.int .u32 r) ∧ ∃ m, w' = W.drewN m from (bits_Turn.calls 40 _ _ _ W HT1.out).mono (fun e w' ⟨h, ⟨m, hm⟩⟩ => ⟨h, m, hm⟩)))
  have HQ2 := Aside0.mk (fun W : World => (show Calls Try.prog 9 #[.int .u32 r, .int .i64 n] W fun e w' => e = .returned (.int .u32 m) ∧ ∃ m, w' = W.drewN m from (bits_Turn.calls 40 _ _ _ W HT2.out).mono (fun e w' ⟨h, ⟨m, hm⟩⟩ => ⟨h, m, hm⟩)))
  go_enter Try.func3, Try.ntmps3
  go_upto_region 6 with (go_at_call 8; refine (awake_calls _).mono ?_; rintro e w1 ⟨rfl, hb⟩)
  go_quiet (first | (go_at_call 9; with_reducible exact Calls.quiet_of (HQ1.out _)) | (go_at_call 9; with_reducible exact Calls.quiet_of (HQ2.out _)))
  go_wp2
  go_ret
  exact ⟨hcmp ▸ rfl, pw_below_drewN (by assumption) _⟩
end Go.Proofs.Ytdbekngboogaoaa.Walk
