/- match.Find: the tokens of a text: its contract in the printer's form. -/
import Derived.Test.YtgpmhdefpbmhjaaFindWalk
namespace Go.Proofs.Ytgpmhdefpbmhjaa.P
set_option linter.unusedVariables false
set_option linter.unusedSimpArgs false
open Go Go.RowKit Go.Proofs.Ytgpmhdefpbmhjaa.B Go.Proofs.Ytgpmhdefpbmhjaa.D7 Go.Proofs.Ytgpmhdefpbmhjaa.Ch Go.Proofs.Ytgpmhdefpbmhjaa.MapG Go.Proofs.Ytgpmhdefpbmhjaa.MapV Go.Proofs.Ytgpmhdefpbmhjaa.Fi Go.Proofs.YtgpmhdefpbmhjaaW.PrintWords Go.Proofs.YtgpmhdefpbmhjaaW.PrintLast Go.Proofs.YtgpmhdefpbmhjaaW.PrintMore
theorem eff_some (l : Int) : match_efforts.f l = some ((effL l).f0, (effL l).f1, (effL l).f2) := by
  unfold match_efforts.f effL
  repeat' split
  all_goals rfl
theorem eff_range (l : Int) : 0 ≤ (effL l).f0 ∧ (effL l).f0 ≤ 5000 := by
  unfold effL
  repeat' split
  all_goals exact ⟨by decide, by decide⟩
theorem bytes_len (s : ByteArray) : (bytesL s).length = s.size := by simp [bytesL]
theorem bytes_snoc (s : ByteArray) (i : Nat) (h : i < s.size) : (bytesL s).take i ++ [(⟨bt s (i : Int), 0, 0⟩ : S25)] = (bytesL s).take (i + 1) := by
  rw [List.take_succ_eq_append_getElem (by rw [bytes_len]; exact h)]
  congr 2
  simp [bytesL]
set_option maxHeartbeats 4000000 in
set_option maxRecDepth 100000 in
theorem find_zero (s : ByteArray) (w : World) (hs : s.size ≤ 1048576) :
    Calls Try.prog 17 #[.string s, .int .i64 0] w fun e w' => ∃ v0_ : Value, e = .returned (.tuple #[v0_, .int .i64 0]) ∧ Kd.R k25 25 w' w.heap.size (fun _ => True) v0_ (bytesL s) ∧ Below w.heap.size w w' := by
  have hd1 : decide (1048576 < s.size) = false := decide_eq_false (by omega)
  have hd2 : decide ((1048576 : Int) < (s.size : Int)) = false := decide_eq_false (by omega)
  have HR0 := Aside0.mk (Kd.R_nil k25 25 w w.heap.size (fun _ => True))
  go_enter Try.func17, Try.ntmps17
  go_wp2
  go_loopw [6, 24] (fun v6 v24 wr => ∃ i : Nat, v24 = .int .i64 i ∧ i ≤ s.size ∧ Aside0 (Kd.R k25 25 wr w.heap.size (fun _ => True) v6 ((bytesL s).take i)) ∧ Aside0 (Below w.heap.size w wr))
    (fun _ v24 _ => s.size - (intOf v24).toNat)
  case atStart => exact ⟨0, rfl, Nat.zero_le _, HR0, ⟨Below.refl _ _⟩⟩
  case round =>
    clear HR0
    obtain ⟨i, rfl, hi, HR, HB⟩ := hrel
    by_cases hlt : i < s.size
    · have dlt : decide ((i : Int) < (s.size : Int)) = true := decide_eq_true (by omega)
      have dltn : decide (i < s.size) = true := decide_eq_true hlt
      have q0 := eq_true (show (0 : Int) ≤ (i : Int) by omega)
      have q1 := eq_true (show (i : Int) < (s.size : Int) by omega)
      have hx0 : ∀ h : i < s.size, ((s[i]'h).toNat : Int) = bt s i := fun h => bt_at s i h
      have hsn := bytes_snoc s i hlt
      obtain ⟨out, hout⟩ : ∃ out, (bytesL s).take i = out := ⟨_, rfl⟩
      have hol : out.length = i := by rw [← hout, List.length_take, bytes_len]; omega
      obtain ⟨b, hb⟩ : ∃ b, bt s (i : Int) = b := ⟨_, rfl⟩
      rw [hb] at hx0 hsn
      rw [hout] at hsn
      have hr := HR.out
      rw [hout] at hr
      have HSN := Aside0.mk hsn
      have HR1 := Aside0.mk hr
      have HOL := Aside0.mk hol
      clear hsn hout hol hb hr HR
      go_wp2_with ((with_reducible refine gate_builtin (b := .append) (xs := #[.tmp 27, .tmp 32]) rfl ?_); at_builtin; refine Kd.R_append k25 (w0 := w) w.heap.size rfl (.tmp 27) (.tmp 32) 22 25 (.agg #[(.int .u8 0), (.int .i64 0), (.int .i64 0)]) 24 rfl Try.underlying22 infoTok rfl (by decide) (by omega) _ out (⟨b, 0, 0⟩ : S25) [.int .u8 b, .int .i64 0, .int .i64 0] (fun _ => True) (fun _ => False) rfl (by first | (go_simp; done) | (go_simp; rfl)) ?aP (fun _ hk => hk.elim) ?aF ?aO ?aB ?aS ?aL ?_; (case aP => exact k25_mkM _ _ _ (⟨b, 0, 0⟩ : S25)); (case aB => exact HB.out); (case aF => exact fun k hk => trivial); (case aO => exact HR1.out); (case aS => exact HB.out.size); (case aL => have := HOL.out; omega); intro v131 w8 ho hb hg hat; rw [HSN.out] at ho; have HR8 := Aside0.mk ho; have HB8 := Aside0.mk hb; clear ho hb hg hat)
      go_roundw
      case rel => exact ⟨i + 1, by go_num, by omega, HR8, HB8⟩
      case measure => simp [intOf] <;> omega
    · have dlt : decide ((i : Int) < (s.size : Int)) = false := decide_eq_false (by omega)
      have dltn : decide (i < s.size) = false := decide_eq_false hlt
      obtain rfl : i = s.size := by omega
      have hr := HR.out
      rw [List.take_of_length_le (by rw [bytes_len]; exact Nat.le_refl _)] at hr
      have HR1 := Aside0.mk hr
      clear hr HR
      go_wp2
      first | go_ret2 | go_ret
      exact ⟨_, rfl, HR1.out, HB.out⟩
set_option maxHeartbeats 4000000 in
set_option maxRecDepth 100000 in
theorem find_deep (s : ByteArray) (l : Int) (w : World) (hs : s.size ≤ 1048576) (h1 : 1 ≤ l) (h9 : l ≤ 9) :
    Calls Try.prog 17 #[.string s, .int .i64 l] w fun e w' => ∃ v0_ : Value, e = .returned (.tuple #[v0_, .int .i64 0]) ∧ Kd.R k25 25 w' w.heap.size (fun _ => True) v0_ (findGo s (effL l) (s.size + 1) 0 []) ∧ Below w.heap.size w w' := by
  have hd1 : decide (1048576 < s.size) = false := decide_eq_false (by omega)
  have hd2 : decide ((1048576 : Int) < (s.size : Int)) = false := decide_eq_false (by omega)
  have l0 : decide (l < 0) = false := decide_eq_false (by omega)
  have l9 : decide ((9 : Int) < l) = false := decide_eq_false (by omega)
  have lz : (l == 0) = false := by simp; omega
  have hmm := @run_makeMap Try.prog
  have HE := Aside0.mk (eff_some l)
  have hrg := eff_range l
  have HRG := Aside0.mk hrg
  obtain ⟨ef, hef⟩ : ∃ ef, effL l = ef := ⟨_, rfl⟩
  rw [hef] at HE HRG hrg ⊢
  clear hef hrg
  go_enter Try.func17, Try.ntmps17
  go_upto_region 14 with (first
    | (go_at_call 19; (with_reducible refine (match_efforts.calls l _ _ _ _ HE.out).mono ?_); rintro e w1 ⟨rfl, hb⟩; have HB1 := Aside0.mk hb; clear hb)
    | (go_at_call 15; (with_reducible refine (chains_calls s _ (by omega)).mono ?_); rintro e w2 ⟨rfl, ho, hb⟩; have HO2 := Aside0.mk ho; have HB2 := Aside0.mk (below_step HB1.out hb); have HW2 := Aside0.mk hb.size; clear ho hb))
  have HF3 := Aside0.mk (Fi.Fin.mk (F := w2.heap.size + 1) (bc := w1.heap.size) (bs := w2.heap.size) (base := w1.heap.size + 1) (s := s) (ch := ef.f0) (gd := ef.f1) (lz := ef.f2) (n := 0) (by have h0 := heap_alloc_new (w2.alloc (.map #[] 0)) (.cells #[.string s, .int .i64 ef.f0, .int .i64 ef.f1, .bool ef.f2, .map (some w1.heap.size), .map (some w2.heap.size)] 57); rwa [show (w2.alloc (.map #[] 0)).heap.size = w2.heap.size + 1 by simp] at h0) (OwnsG.below HO2.out (below_alloc (below_alloc (Below.refl w2.heap.size w2) (.map #[] 0)) (.cells #[.string s, .int .i64 ef.f0, .int .i64 ef.f1, .bool ef.f2, .map (some w1.heap.size), .map (some w2.heap.size)] 57))) (OwnsV.below (MapV.made w2) (below_alloc (Below.refl (w2.alloc (.map #[] 0)).heap.size (w2.alloc (.map #[] 0))) (.cells #[.string s, .int .i64 ef.f0, .int .i64 ef.f1, .bool ef.f2, .map (some w1.heap.size), .map (some w2.heap.size)] 57))))
  have HNE := Aside0.mk (show w1.heap.size ≠ w2.heap.size by have := HO2.out; obtain ⟨es, cl, hm, _⟩ := this; have := (Array.getElem?_eq_some_iff.1 hm).1; omega)
  have HFC := Aside0.mk (find_calls (w2.heap.size + 1) w1.heap.size w2.heap.size (w1.heap.size + 1) s ef _ (by omega) HRG.out HF3.out HNE.out)
  go_wp2_with (go_at_call 20; refine (HFC.out).mono ?_; rintro e w5 ⟨v5, rfl, hr, hg⟩; have HR5 := Aside0.mk hr; have HG5 := Aside0.mk hg; clear hr hg)
  first | go_ret2 | go_ret
  refine ⟨_, rfl, Kd.R_lower HR5.out ?_, ?_⟩
  · have := HB2.out.size; simp; omega
  · have hb3 := below_alloc (below_alloc HB2.out (.map #[] 0)) (.cells #[.string s, .int .i64 ef.f0, .int .i64 ef.f1, .bool ef.f2, .map (some w1.heap.size), .map (some w2.heap.size)] 57)
    exact hb3.grown HG5.out hb3.size (fun k hk => by injection hk with hk; have := HB2.out.size; omega)
set_option maxHeartbeats 4000000 in
theorem find_low (s : ByteArray) (l : Int) (w : World) (h : l < 0 ∨ 9 < l) : Calls Try.prog 17 #[.string s, .int .i64 l] w fun e w' => e = .returned (.tuple #[.slice none 0 0, .int .i64 2]) ∧ w' = w := by
  by_cases h0 : l < 0
  · have l0 : decide (l < 0) = true := decide_eq_true h0
    go_enter Try.func17, Try.ntmps17
    go_wp2
    first | go_ret2 | go_ret
    exact ⟨rfl, rfl⟩
  · have l0 : decide (l < 0) = false := decide_eq_false h0
    have l9 : decide ((9 : Int) < l) = true := decide_eq_true (by omega)
    go_enter Try.func17, Try.ntmps17
    go_wp2
    first | go_ret2 | go_ret
    exact ⟨rfl, rfl⟩
set_option maxHeartbeats 4000000 in
theorem find_big (s : ByteArray) (l : Int) (w : World) (h0 : 0 ≤ l) (h9 : l ≤ 9) (h : 1048576 < s.size) : Calls Try.prog 17 #[.string s, .int .i64 l] w fun e w' => e = .returned (.tuple #[.slice none 0 0, .int .i64 5]) ∧ w' = w := by
  have hd1 : decide (1048576 < s.size) = true := decide_eq_true h
  have hd2 : decide ((1048576 : Int) < (s.size : Int)) = true := decide_eq_true (by omega)
  have l0 : decide (l < 0) = false := decide_eq_false (by omega)
  have l9 : decide ((9 : Int) < l) = false := decide_eq_false (by omega)
  go_enter Try.func17, Try.ntmps17
  go_wp2
  first | go_ret2 | go_ret
  exact ⟨rfl, rfl⟩
def match_Find.f (s : ByteArray) (l : Int) : Option (List S25 × Int) := some (findL s l)
theorem match_Find.calls (a0 : ByteArray) (a1 : Int) (r1 : List S25) (r2 : Int) (w : World) (h : match_Find.f a0 a1 = some (r1, r2)) :
    Calls Try.prog 17 #[.string a0, .int .i64 a1] w fun e w' => ∃ v0_ : Value, e = .returned (.tuple #[v0_, .int .i64 r2]) ∧ Kd.R k25 25 w' w.heap.size (fun _ => True) v0_ r1 ∧ Below w.heap.size w w' := by
  have h := Option.some.inj h
  unfold findL at h
  split at h
  · next hl =>
    injection h with h1 h2
    subst h1 h2
    exact (find_low a0 a1 w hl).mono fun e w' ⟨he, hw⟩ => ⟨_, he, by rw [hw]; exact Kd.R_nil _ _ _ _ _, by rw [hw]; exact Below.refl _ _⟩
  next hl =>
  split at h
  · next hb =>
    injection h with h1 h2
    subst h1 h2
    exact (find_big a0 a1 w (by omega) (by omega) hb).mono fun e w' ⟨he, hw⟩ => ⟨_, he, by rw [hw]; exact Kd.R_nil _ _ _ _ _, by rw [hw]; exact Below.refl _ _⟩
  next hb =>
  split at h
  · next hz =>
    injection h with h1 h2
    subst h1 h2 hz
    exact find_zero a0 w (by omega)
  · next hz =>
    injection h with h1 h2
    subst h1 h2
    exact find_deep a0 a1 w (by omega) (by omega) (by omega)
end Go.Proofs.Ytgpmhdefpbmhjaa.P
