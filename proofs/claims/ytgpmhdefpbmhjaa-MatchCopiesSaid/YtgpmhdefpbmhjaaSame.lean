/- (*finder).same: how many bytes are alike at two places: the walk. -/
import Derived.Test.YtgpmhdefpbmhjaaFinder
import Derived.Deep.QuietTactic
import Derived.BigQuiet
import Derived.IntWalk
namespace Go.Proofs.Ytgpmhdefpbmhjaa.Fi
set_option linter.unusedVariables false
set_option linter.unusedSimpArgs false
open Go Go.RowKit Go.Proofs.Ytgpmhdefpbmhjaa.P Go.Proofs.Ytgpmhdefpbmhjaa.B Go.Proofs.Ytgpmhdefpbmhjaa.D7 Go.Proofs.Ytgpmhdefpbmhjaa.Ch Go.Proofs.Ytgpmhdefpbmhjaa.MapG Go.Proofs.Ytgpmhdefpbmhjaa.MapV Go.Proofs.YtgpmhdefpbmhjaaW.PrintWords Go.Proofs.YtgpmhdefpbmhjaaW.PrintLast Go.Proofs.YtgpmhdefpbmhjaaW.PrintMore
set_option maxHeartbeats 8000000 in
set_option maxRecDepth 100000 in
theorem same_calls (F : Nat) (s : ByteArray) (a b : Nat) (w : World) (hs : s.size ≤ 1048576) (hab : a ≤ b) (hb : b ≤ s.size) (hc : w.cell? ⟨F, 0, none⟩ = some (.string s)) :
    Calls Try.prog 23 #[.pointer (some ⟨F, 0, none⟩), .int .i64 a, .int .i64 b] w fun e w' => e = .returned (.int .i64 (sameN s a b : Int)) ∧ Below w.heap.size w w' := by
  obtain ⟨R, hR⟩ : ∃ R, sameN s a b = R := ⟨_, rfl⟩
  rw [hR]
  have HR := Aside0.mk hR
  have HC := Aside0.mk hc
  clear hR hc
  go_enter Try.func23, Try.ntmps23
  go_wp2
  go_loopw [7] (fun v wr => ∃ n : Nat, v = .int .i64 n ∧ n ≤ 258 ∧ b + n ≤ s.size ∧ Aside0 (sameGo s a b (258 - n) n = R) ∧ Aside0 (Below w.heap.size w wr))
    (fun v _ => 258 - (intOf v).toNat)
  case atStart => exact ⟨0, rfl, by omega, by omega, HR, ⟨Below.refl _ _⟩⟩
  case round =>
    clear HR
    obtain ⟨n, rfl, hn, hbn, HS, HB⟩ := hrel
    have hcr := pw_cell_below HB.out HC.out
    by_cases h1 : n < 258
    · have d1 : decide ((n : Int) < 258) = true := decide_eq_true (by omega)
      have d1n : decide (n < 258) = true := decide_eq_true h1
      have k0 : IntKind.i64.wrap ((b : Int) + (n : Int)) = (b : Int) + (n : Int) := IntWalk.i64_in _ (by omega)
      have k1 : IntKind.i64.wrap ((a : Int) + (n : Int)) = (a : Int) + (n : Int) := IntWalk.i64_in _ (by omega)
      by_cases h2 : b + n < s.size
      · have d2 : decide ((b : Int) + (n : Int) < (s.size : Int)) = true := decide_eq_true (by omega)
        have d2n : decide (b + n < s.size) = true := decide_eq_true h2
        have ga : (a : Int) + (n : Int) < (s.size : Int) := by omega
        have gb : (b : Int) + (n : Int) < (s.size : Int) := by omega
        have fa : 0 ≤ (a : Int) + (n : Int) := by omega
        have fb : 0 ≤ (b : Int) + (n : Int) := by omega
        have ta : ((a : Int) + (n : Int)).toNat = a + n := by omega
        have tb : ((b : Int) + (n : Int)).toNat = b + n := by omega
        obtain ⟨x, hx⟩ : ∃ x, bt s ((a + n : Nat) : Int) = x := ⟨_, rfl⟩
        obtain ⟨y, hy⟩ : ∃ y, bt s ((b + n : Nat) : Int) = y := ⟨_, rfl⟩
        have hxa : ∀ h : a + n < s.size, ((s[a + n]'h).toNat : Int) = x := fun h => (bt_at s ((a + n : Nat) : Int) h).trans hx
        have hxb : ∀ h : b + n < s.size, ((s[b + n]'h).toNat : Int) = y := fun h => (bt_at s ((b + n : Nat) : Int) h).trans hy
        have hs1 := HS.out
        rw [show 258 - n = (258 - (n + 1)) + 1 by omega, sameGo, hx, hy] at hs1
        by_cases h3 : x = y
        · have d3 : (x == y) = true := by simp [h3]
          rw [if_pos ⟨h2, h3⟩] at hs1
          have HS1 := Aside0.mk hs1
          clear hs1 hx hy h3 HS hs
          go_wp2
          go_quiet (fail)
          go_wp2
          go_roundw
          case rel => exact ⟨n + 1, by go_num, by omega, by omega, HS1, ⟨pw_below_drewN HB.out _⟩⟩
          case measure => simp [intOf]; omega
        · have d3 : (x == y) = false := by simp [h3]
          rw [if_neg (fun q => h3 q.2)] at hs1
          subst hs1
          clear hx hy h3 HS hs
          go_wp2
          go_quiet (fail)
          go_wp2
          go_ret
          exact ⟨rfl, pw_below_drewN HB.out _⟩
      · have d2 : decide ((b : Int) + (n : Int) < (s.size : Int)) = false := decide_eq_false (by omega)
        have d2n : decide (b + n < s.size) = false := decide_eq_false h2
        have hs1 := HS.out
        rw [show 258 - n = (258 - (n + 1)) + 1 by omega, sameGo, if_neg (fun q => h2 q.1)] at hs1
        subst hs1
        clear HS hs
        go_wp2
        go_quiet (fail)
        go_wp2
        go_ret
        exact ⟨rfl, pw_below_drewN HB.out _⟩
    · have d1 : decide ((n : Int) < 258) = false := decide_eq_false (by omega)
      have d1n : decide (n < 258) = false := decide_eq_false h1
      have hs1 := HS.out
      rw [show 258 - n = 0 by omega, sameGo] at hs1
      subst hs1
      clear HS hs
      go_wp2
      go_quiet (fail)
      go_wp2
      go_ret
      exact ⟨rfl, pw_below_drewN HB.out _⟩
end Go.Proofs.Ytgpmhdefpbmhjaa.Fi
