/- The reference's ParseOwner: two numbers of so many bytes each, in an array of two: the walk. -/
import Derived.Test.YtloojhhjljneeaaNumNR
import Derived.Test.YtloojhhjljneeaaArr
namespace Go.Proofs.Ytloojhhjljneeaa.P
set_option linter.unusedVariables false
set_option linter.unusedSimpArgs false
open Go Go.RowKit Go.Proofs.Ytloojhhjljneeaa.B Go.Proofs.Ytloojhhjljneeaa.Ar Go.Proofs.Ytloojhhjljneeaa.Num Go.Proofs.YtloojhhjljneeaaW.PrintWords Go.Proofs.YtloojhhjljneeaaW.PrintLast Go.Proofs.YtloojhhjljneeaaW.PrintMore

/-- One number, and what is behind it. -/
def ownOne (s : ByteArray) : Option (Int × ByteArray) :=
  if s.size = 0 then none else if 8 < bt s 0 then none else if (s.size : Int) < 1 + bt s 0 then none
  else some ((leN (s.extract 1 (1 + bt s 0).toNat).data.toList : Int), s.extract (1 + bt s 0).toNat s.size)
def ownEnd (x0 x1 : Int) (s : ByteArray) : Int × Int × Int := if 0 < s.size then (0, 0, 24) else if 4294967295 < x0 then (0, 0, 8) else if 4294967295 < x1 then (0, 0, 8) else (x0, x1, 0)
def ownRest (j : Nat) (x0 x1 : Int) (s : ByteArray) : Int × Int × Int :=
  if j = 2 then ownEnd x0 x1 s
  else if j = 1 then (match ownOne s with | none => (0, 0, 24) | some (v, t) => ownEnd x0 v t)
  else (match ownOne s with | none => (0, 0, 24) | some (v, t) => match ownOne t with | none => (0, 0, 24) | some (v2, t2) => ownEnd v v2 t2)
theorem ownRest_none (j : Nat) (hj : j < 2) (x0 x1 : Int) (s : ByteArray) (h : ownOne s = none) : ownRest j x0 x1 s = (0, 0, 24) := by
  unfold ownRest
  rw [if_neg (by omega), h]
  simp
theorem ownRest_some (j : Nat) (hj : j < 2) (x0 x1 v : Int) (s t : ByteArray) (h : ownOne s = some (v, t)) : ownRest j x0 x1 s = ownRest (j + 1) (if j = 0 then v else x0) (if j = 0 then x1 else v) t := by
  have hj2 : j = 0 ∨ j = 1 := by omega
  rcases hj2 with rfl | rfl <;> simp [ownRest, h]
def portmanteauref14_ParseOwner.f (s : ByteArray) : Option (Int × Int × Int) :=
  if s.size ≤ 1000000 then (if s.size < 2 then some (0, 0, 24) else if bt s 0 = 1 then some (ownRest 0 0 0 (s.extract 1 s.size)) else some (0, 0, 24)) else none
set_option maxHeartbeats 4000000 in
set_option maxRecDepth 100000 in
theorem portmanteauref14_ParseOwner.calls (a0 : ByteArray) (r1 r2 r3 : Int) (w : World) (h : portmanteauref14_ParseOwner.f a0 = some (r1, r2, r3)) :
    Calls Try.prog 8 #[.string a0] w fun e w' => e = .returned (.tuple #[.int .u32 r1, .int .u32 r2, .int .i64 r3]) ∧ Below w.heap.size w w' := by
  unfold portmanteauref14_ParseOwner.f at h
  split at h
  case isFalse => cases h
  case isTrue hbig =>
  by_cases h2 : a0.size < 2
  · rw [if_pos h2] at h
    obtain ⟨rfl, rfl, rfl⟩ : r1 = 0 ∧ r2 = 0 ∧ r3 = 24 := by simpa [eq_comm] using h
    have hd : decide (a0.size < 2) = true := decide_eq_true h2
    go_enter Try.func8, Try.ntmps8
    go_wp2
    first | go_ret3 | go_ret
    exact ⟨rfl, Below.refl _ _⟩
  rw [if_neg h2] at h
  have hd : decide (a0.size < 2) = false := decide_eq_false h2
  have p0 := eq_true (show (0 : Int) ≤ 0 by omega)
  have q0 := eq_true (show (0 : Int) < (a0.size : Int) by omega)
  have q1 := eq_true (show (1 : Int) ≤ (a0.size : Int) by omega)
  have hx0 : ∀ h : 0 < a0.size, ((a0[0]'h).toNat : Int) = bt a0 0 := bt_at a0 0
  by_cases h1 : bt a0 0 = 1
  · rw [if_pos h1] at h
    have hb : (bt a0 0 != 1) = false := by simp [h1]
    have hr : ownRest 0 0 0 (a0.extract 1 a0.size) = (r1, r2, r3) := Option.some.inj h
    have hsz : (a0.extract 1 a0.size).size ≤ 1000000 := by simp; omega
    obtain ⟨s0, hs0⟩ : ∃ s, a0.extract 1 a0.size = s := ⟨_, rfl⟩
    rw [hs0] at hr hsz
    have HR := Aside0.mk hr
    have HSZ := Aside0.mk hsz
    clear h hr hsz
    go_enter Try.func8, Try.ntmps8
    go_wp2
    have hz : (#[.int .u64 0, .int .u64 0] : Array Value) = (ints .u64 [0, 0]).toArray := rfl
    have HZ := Aside0.mk hz
    clear hz
    have HA := Aside0.mk (Arr.new w 66 .u64 [0, 0])
    have HB := Aside0.mk (below_alloc (Below.refl w.heap.size w) (.cells (ints .u64 [0, 0]).toArray 66))
    clear hx0 h1 hb q1 p0 q0 hd h2 hbig
    go_loopw [0, 6, 7] (fun v0 v6 v7 wr => ∃ (s : ByteArray) (j : Nat) (x0 x1 : Int), v0 = .string s ∧ v6 = .int .i64 j ∧ j ≤ 2 ∧ Aside0 (s.size ≤ 1000000) ∧ Aside0 (ownRest j x0 x1 s = (r1, r2, r3)) ∧ Aside0 (0 ≤ x0 ∧ 0 ≤ x1) ∧ Aside0 (Arr wr w.heap.size 66 .u64 [x0, x1]) ∧ Aside0 (Below w.heap.size w wr))
      (fun _ v6 _ _ => 2 - (intOf v6).toNat)
    case atStart => exact ⟨s0, 0, 0, 0, rfl, rfl, by omega, HSZ, HR, ⟨by omega, by omega⟩, HA, HB⟩
    case round =>
      clear HR HSZ HA HB
      obtain ⟨s, j, x0, x1, rfl, rfl, hj, HSZ, HR, HX, HA, HB⟩ := hrel
      by_cases hlt : j < 2
      · have hd : decide (j < 2) = true := decide_eq_true hlt
        by_cases hz0 : s.size = 0
        · have hn : ownOne s = none := by unfold ownOne; rw [if_pos hz0]
          obtain ⟨rfl, rfl, rfl⟩ : r1 = 0 ∧ r2 = 0 ∧ r3 = 24 := by have := HR.out; rw [ownRest_none j hlt x0 x1 s hn] at this; simpa [eq_comm] using this
          have hd0 : ((s.size : Int) == 0) = true := by simp [hz0]
          go_wp2
          first | go_ret3 | go_ret
          exact ⟨rfl, HB.out⟩
        have hd0 : ((s.size : Int) == 0) = false := by simp [hz0]
        have hx0 : ∀ h : 0 < s.size, ((s[0]'h).toNat : Int) = bt s 0 := bt_at s 0
        have p0 := eq_true (show (0 : Int) ≤ 0 by omega)
        have q0 := eq_true (show (0 : Int) < (s.size : Int) by omega)
        obtain ⟨b0, b1⟩ := bt_range s 0
        obtain ⟨n, hn⟩ : ∃ n : Nat, bt s 0 = (n : Int) := ⟨(bt s 0).toNat, by omega⟩
        rw [hn] at hx0 b0 b1
        by_cases h8 : 8 < n
        · have hno : ownOne s = none := by unfold ownOne; rw [if_neg hz0, if_pos (by omega)]
          obtain ⟨rfl, rfl, rfl⟩ : r1 = 0 ∧ r2 = 0 ∧ r3 = 24 := by have := HR.out; rw [ownRest_none j hlt x0 x1 s hno] at this; simpa [eq_comm] using this
          have hd8 : decide (8 < n) = true := decide_eq_true h8
          go_wp2
          first | go_ret3 | go_ret
          exact ⟨rfl, HB.out⟩
        have hd8 : decide (8 < n) = false := decide_eq_false h8
        by_cases hc : s.size < 1 + n
        · have hno : ownOne s = none := by unfold ownOne; rw [if_neg hz0, if_neg (by omega), if_pos (by omega)]
          obtain ⟨rfl, rfl, rfl⟩ : r1 = 0 ∧ r2 = 0 ∧ r3 = 24 := by have := HR.out; rw [ownRest_none j hlt x0 x1 s hno] at this; simpa [eq_comm] using this
          have hdc : decide ((s.size : Int) < 1 + (n : Int)) = true := decide_eq_true (by omega)
          go_wp2
          first | go_ret3 | go_ret
          exact ⟨rfl, HB.out⟩
        have hdc : decide ((s.size : Int) < 1 + (n : Int)) = false := decide_eq_false (by omega)
        have hone : ownOne s = some ((leN (s.extract 1 (1 + n)).data.toList : Int), s.extract (1 + n) s.size) := by
          unfold ownOne
          rw [if_neg hz0, if_neg (by omega), if_neg (by omega), hn, show (1 + (n : Int)).toNat = 1 + n by omega]
        have hsz1 : (s.extract 1 (1 + n)).size ≤ 8 := by simp; omega
        have hsz2 : (s.extract (1 + n) s.size).size ≤ 1000000 := by have := HSZ.out; simp; omega
        have hnum := ref_number_eq (s.extract 1 (1 + n)) hsz1 9 (by omega)
        obtain ⟨v, hv⟩ : ∃ v : Int, (leN (s.extract 1 (1 + n)).data.toList : Int) = v := ⟨_, rfl⟩
        rw [hv] at hone hnum
        have HR2 := Aside0.mk (show ownRest (j + 1) (if j = 0 then v else x0) (if j = 0 then x1 else v) (s.extract (1 + n) s.size) = (r1, r2, r3) by rw [← ownRest_some j hlt x0 x1 v s _ hone]; exact HR.out)
        have HN := Aside0.mk hnum
        have hv0 : 0 ≤ v := by rw [← hv]; omega
        have HX2 := Aside0.mk (show 0 ≤ (if j = 0 then v else x0) ∧ 0 ≤ (if j = 0 then x1 else v) by have := HX.out; constructor <;> split <;> omega)
        have HS2 := Aside0.mk hsz2
        have q1 := eq_true (show (1 : Int) ≤ 1 + (n : Int) by omega)
        have q2 := eq_true (show (1 + (n : Int)) ≤ (s.size : Int) by omega)
        have q3 := eq_true (show (0 : Int) ≤ 1 + (n : Int) by omega)
        have q4 := eq_true (show (0 : Int) ≤ 1 by omega)
        have hi1 : decide ((j : Int) < 2) = true := decide_eq_true (by omega)
        have hcell := HA.out.cell j (by simp; omega)
        have hfr := HA.out.frozen j
        clear hv0 hv hone hnum hsz1 hsz2 HR
        go_wp2_with (go_at_call 27; refine (portmanteauref01_Number.calls 9 _ _ _ HN.out).mono ?_; rintro e w1 ⟨rfl, ⟨m, rfl⟩⟩)
        have hset : [x0, x1].set j v = [if j = 0 then v else x0, if j = 0 then x1 else v] := by
          have hj2 : j = 0 ∨ j = 1 := by omega
          rcases hj2 with rfl | rfl <;> rfl
        refine ⟨⟨_, j + 1, _, _, rfl, by go_num, by omega, HS2, HR2, HX2, ⟨?_⟩, ⟨below_set (pw_below_drewN HB.out _) (Nat.le_refl _)⟩⟩, by simp [intOf]; omega⟩
        rw [← hset]
        exact Arr.set (Arr.drewN HA.out _) _ _
      · have hd : decide (j < 2) = false := decide_eq_false hlt
        obtain rfl : j = 2 := by omega
        have hr := HR.out
        rw [show ownRest 2 x0 x1 s = ownEnd x0 x1 s from rfl] at hr
        unfold ownEnd at hr
        have hcell0 := HA.out.cell 0 (by simp)
        have hcell1 := HA.out.cell 1 (by simp)
        simp only [List.getD_cons_zero, List.getD_cons_succ] at hcell0 hcell1
        clear HR
        by_cases hp : 0 < s.size
        · have hdp : decide (0 < s.size) = true := decide_eq_true hp
          rw [if_pos hp] at hr
          obtain ⟨rfl, rfl, rfl⟩ : r1 = 0 ∧ r2 = 0 ∧ r3 = 24 := by simpa [eq_comm] using hr
          go_wp2
          first | go_ret3 | go_ret
          exact ⟨rfl, HB.out⟩
        have hdp : decide (0 < s.size) = false := decide_eq_false hp
        rw [if_neg hp] at hr
        by_cases ha : 4294967295 < x0
        · have hda : decide (4294967295 < x0) = true := decide_eq_true ha
          rw [if_pos ha] at hr
          obtain ⟨rfl, rfl, rfl⟩ : r1 = 0 ∧ r2 = 0 ∧ r3 = 8 := by simpa [eq_comm] using hr
          go_wp2
          first | go_ret3 | go_ret
          exact ⟨rfl, HB.out⟩
        have hda : decide (4294967295 < x0) = false := decide_eq_false ha
        rw [if_neg ha] at hr
        by_cases hb : 4294967295 < x1
        · have hdb : decide (4294967295 < x1) = true := decide_eq_true hb
          rw [if_pos hb] at hr
          obtain ⟨rfl, rfl, rfl⟩ : r1 = 0 ∧ r2 = 0 ∧ r3 = 8 := by simpa [eq_comm] using hr
          go_wp2
          first | go_ret3 | go_ret
          exact ⟨rfl, HB.out⟩
        have hdb : decide (4294967295 < x1) = false := decide_eq_false hb
        rw [if_neg hb] at hr
        obtain ⟨rfl, rfl, rfl⟩ : x0 = r1 ∧ x1 = r2 ∧ r3 = 0 := by simpa [eq_comm] using hr
        obtain ⟨z0, z1⟩ := HX.out
        have w0 : IntKind.u32.wrap x0 = x0 := by simp [IntKind.wrap, IntKind.bits, IntKind.signed]; omega
        have w1 : IntKind.u32.wrap x1 = x1 := by simp [IntKind.wrap, IntKind.bits, IntKind.signed]; omega
        go_wp2
        go_quiet (fail)
        go_wp2
        first | go_ret3 | go_ret
        exact ⟨rfl, pw_below_drewN HB.out _⟩
  · rw [if_neg h1] at h
    obtain ⟨rfl, rfl, rfl⟩ : r1 = 0 ∧ r2 = 0 ∧ r3 = 24 := by simpa [eq_comm] using h
    have hb : (bt a0 0 != 1) = true := by simp [h1]
    go_enter Try.func8, Try.ntmps8
    go_wp2
    first | go_ret3 | go_ret
    exact ⟨rfl, Below.refl _ _⟩
end Go.Proofs.Ytloojhhjljneeaa.P
