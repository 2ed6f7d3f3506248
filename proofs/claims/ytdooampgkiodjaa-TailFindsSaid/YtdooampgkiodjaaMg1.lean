import Derived.Test.YtdooampgkiodjaaMg2
import Derived.Test.YtdooampgkiodjaaReffind2
import Derived.Test.YtdooampgkiodjaaReffind3
import Derived.Test.YtdooampgkiodjaaReffind4
import Derived.Deep.DeepCutAuto
import Derived.Test.YtdooampgkiodjaaPx14
import Derived.Test.YtdooampgkiodjaaPx15
import Derived.Test.YtdooampgkiodjaaPx16
import Derived.Lib.RabinKarp
import Derived.Test.YtdooampgkiodjaaPx10
import Derived.Test.YtdooampgkiodjaaPx8
namespace Go.Proofs.Ytdooampgkiodjaa.D18
set_option linter.unusedVariables false
set_option linter.unusedSimpArgs false
open Go Go.RowKit Go.Proofs.Ytdooampgkiodjaa.P Go.Proofs.Ytdooampgkiodjaa.B Go.Proofs.Ytdooampgkiodjaa.Num Go.Proofs.Ytdooampgkiodjaa.Cur Go.Proofs.YtdooampgkiodjaaW.PrintWords Go.Proofs.YtdooampgkiodjaaW.PrintLast Go.Proofs.YtdooampgkiodjaaW.PrintMore
theorem j0_true (k : Nat) (x : Int) (e : ByteArray) (a b : Int) : tail_wide.j0 (k + 1) x true e a b = some (0, 0, 0, 0, 0, 0, 0, (⟨#[]⟩ : ByteArray), false) := by
  rw [tail_wide.j0, if_pos rfl]
def wOK (l : List UInt8) (x y : Nat) : Prop := 56 ≤ y - x ∧ fld l x 4 = 101075792 ∧ fld l (x + 4) 8 = y - x - 12 ∧ fld l (x + 16) 4 = 0 ∧ fld l (x + 20) 4 = 0 ∧ fld l (x + 24) 8 = fld l (x + 32) 8
theorem flag_end (P : Prop) (b : Bool) (r0 r1 r2 r3 r4 r5 r6 n4 n5 n6 : Int) (r7 : ByteArray) (h : b = true ↔ P) (h4 : r4 = n4) (h5 : r5 = n5) (h6 : r6 = n6) :
    ∃ s0 s1 s2 s3 s4 s5 s6 s7 c, (some (r0, r1, r2, r3, r4, r5, r6, r7, b) : Option (Int × Int × Int × Int × Int × Int × Int × ByteArray × Bool)) = some (s0, s1, s2, s3, s4, s5, s6, s7, c) ∧ (c = true ↔ P) ∧ (c = true → s4 = n4 ∧ s5 = n5 ∧ s6 = n6) :=
  ⟨_, _, _, _, _, _, _, _, _, rfl, h, fun _ => ⟨h4, h5, h6⟩⟩
theorem flag_no (P : Prop) (n4 n5 n6 : Int) (h : ¬ P) :
    ∃ s0 s1 s2 s3 s4 s5 s6 s7 c, (some (0, 0, 0, 0, 0, 0, 0, (⟨#[]⟩ : ByteArray), false) : Option (Int × Int × Int × Int × Int × Int × Int × ByteArray × Bool)) = some (s0, s1, s2, s3, s4, s5, s6, s7, c) ∧ (c = true ↔ P) ∧ (c = true → s4 = n4 ∧ s5 = n5 ∧ s6 = n6) :=
  ⟨_, _, _, _, _, _, _, _, _, rfl, ⟨(fun e => by cases e), fun e => absurd e h⟩, (fun e => by cases e)⟩
set_option maxHeartbeats 8000000 in
theorem wide_all (s : ByteArray) (x y : Nat) (hxy : x ≤ y) (hy : y ≤ s.size) (hs : s.size ≤ 5000) (k : Nat) (hk : 8 < k) :
    ∃ r0 r1 r2 r3 r4 r5 r6 r7 b, tail_wide.f (k + 1) s (x : Int) (y : Int) = some (r0, r1, r2, r3, r4, r5, r6, r7, b) ∧ (b = true ↔ wOK s.data.toList x y) ∧
      (b = true → r4 = (fld s.data.toList (x + 32) 8 : Int) ∧ r5 = (fld s.data.toList (x + 40) 8 : Int) ∧ r6 = (fld s.data.toList (x + 48) 8 : Int)) := by
  have hl := toList_length s
  obtain ⟨l, hll⟩ : ∃ l, s.data.toList = l := ⟨_, rfl⟩
  have hD : (s.extract x y).data.toList = (l.take y).drop x := by rw [extract_list, hll]
  rw [hll] at hl ⊢
  have hl' : (l.take y).length = y := by rw [List.length_take]; omega
  have hf : ∀ p w, p + w ≤ y → fld (l.take y) p w = fld l p w := by
    intro p w h
    unfold fld
    rw [List.drop_take, List.take_take, Nat.min_eq_left (by omega)]
  obtain ⟨e, he⟩ : ∃ e, s.extract x y = e := ⟨_, rfl⟩
  have hes : e.size ≤ 140737488351232 := by rw [← he]; simp; omega
  rw [he] at hD
  have b1 : (0 : Int) ≤ (x : Int) := by omega
  have b2 : (x : Int) ≤ (y : Int) := by omega
  have b3 : (y : Int) ≤ (s.size : Int) := by omega
  have A0 := At.start e hes
  rw [hD] at A0
  unfold tail_wide.f
  rw [if_pos b1, if_pos b2, if_pos b3, Int.toNat_natCast, Int.toNat_natCast, he, show cursor_Over.f e = some (e, 0, 0) from rfl, Option.bind_some]
  dsimp only
  by_cases h4 : y - x < 4
  · rw [take_fail A0 (.inr (by rw [List.length_drop, hl']; omega)), Option.bind_some]; dsimp only
    rw [eight_bad (by decide) (k + 1) (by omega), Option.bind_some]; dsimp only
    rw [if_neg (by rw [strN_list]; simp), j0_true]
    exact flag_no _ _ _ _ (fun h => by have := h.1; omega)
  obtain ⟨t1, A1⟩ := take_fld (n := 4) A0 (by omega)
  rw [show cursor_Cursor_Take.f e 0 0 4 = _ from t1, Option.bind_some]; dsimp only
  have hmk := mark_iff (l.take y) x 101075792 [80, 75, 6, 6] (by omega) rfl (by decide)
  rw [hf x 4 (by omega)] at hmk
  rw [strN_list]
  by_cases h12 : y - x < 12
  · rw [eight_fail A1 (by rw [List.length_drop, hl']; omega) (k + 1) (by omega), Option.bind_some]; dsimp only
    have hno : ¬ wOK l x y := fun h => by have := h.1; omega
    by_cases hm : fld l x 4 = 101075792
    · rw [if_pos (hmk.2 hm), if_pos (by decide), j0_true]
      exact flag_no _ _ _ _ hno
    · rw [if_neg (fun h => hm (hmk.1 h)), j0_true]
      exact flag_no _ _ _ _ hno
  obtain ⟨t2, A2⟩ := eight_fld A1 (by omega) (k + 1) (by omega)
  rw [hf _ 8 (by omega)] at t2
  rw [t2, Option.bind_some]; dsimp only
  by_cases hm : fld l x 4 = 101075792
  case neg =>
    rw [if_neg (fun h => hm (hmk.1 h)), j0_true]
    exact flag_no _ _ _ _ (fun h => hm h.2.1)
  rw [if_pos (hmk.2 hm)]
  have f2 := fld8 l (x + 4)
  by_cases h44 : fld l (x + 4) 8 < 44
  · rw [if_pos (by omega), j0_true]
    exact flag_no _ _ _ _ (fun h => by have := h.1; have := h.2.2.1; omega)
  rw [if_neg (by omega), wrap_id (x := (y : Int) - (x : Int)) (by omega) (by omega), wrap_id (x := (y : Int) - (x : Int) - 12) (by omega) (by omega), u64_id (x := (y : Int) - (x : Int) - 12) (by omega) (by omega)]
  by_cases hn : fld l (x + 4) 8 = y - x - 12
  case neg =>
    rw [show (((fld l (x + 4) 8 : Nat) : Int) != (y : Int) - (x : Int) - 12) = true from bne_iff_ne.2 (by omega), j0_true]
    exact flag_no _ _ _ _ (fun h => hn h.2.2.1)
  rw [show (((fld l (x + 4) 8 : Nat) : Int) != (y : Int) - (x : Int) - 12) = false from bne_eq_false_iff_eq.2 (by omega)]
  obtain ⟨t3, A3⟩ := take_fld (n := 4) A2 (by omega)
  obtain ⟨t4, A4⟩ := four_fld A3 (by omega) k hk
  obtain ⟨t5, A5⟩ := four_fld A4 (by omega) k hk
  obtain ⟨t6, A6⟩ := eight_fld A5 (by omega) k hk
  obtain ⟨t7, A7⟩ := eight_fld A6 (by omega) k hk
  obtain ⟨t8, A8⟩ := eight_fld A7 (by omega) k hk
  obtain ⟨t9, A9⟩ := eight_fld A8 (by omega) k hk
  rw [hf _ 4 (by omega)] at t4 t5
  rw [hf _ 8 (by omega)] at t6 t7 t8 t9
  have g4 := fld4 l (x + 16)
  have g5 := fld4 l (x + 20)
  rw [tail_wide.j0, if_neg (by decide), show cursor_Cursor_Take.f e (0 + ((4 : Nat) : Int) + 8) 0 4 = _ from t3, Option.bind_some]; dsimp only
  rw [t4, Option.bind_some]; dsimp only
  rw [t5, Option.bind_some]; dsimp only
  rw [t6, Option.bind_some]; dsimp only
  rw [t7, Option.bind_some]; dsimp only
  rw [t8, Option.bind_some]; dsimp only
  rw [t9, Option.bind_some]; dsimp only
  unfold cursor_Cursor_Err.f
  rw [Option.bind_some]; dsimp only
  rw [if_pos rfl, show x + 4 + 8 + 4 = x + 16 from rfl, show x + 16 + 4 = x + 20 from rfl, show x + 20 + 4 = x + 24 from rfl, show x + 24 + 8 = x + 32 from rfl, show x + 32 + 8 = x + 40 from rfl, show x + 40 + 8 = x + 48 from rfl]
  rw [u64_id (x := ((fld l (x + 16) 4 : Nat) : Int)) (by omega) (by omega), u64_id (x := ((fld l (x + 20) 4 : Nat) : Int)) (by omega) (by omega)]
  by_cases q4 : fld l (x + 16) 4 = 0
  · rw [if_pos (by omega)]
    by_cases q5 : fld l (x + 20) 4 = 0
    · rw [if_pos (by omega)]
      refine flag_end _ _ _ _ _ _ _ _ _ _ _ _ _ ?_ rfl rfl rfl
      rw [beq_iff_eq]
      exact ⟨fun h => ⟨by omega, hm, hn, q4, q5, by omega⟩, fun h => by have := h.2.2.2.2.2; omega⟩
    · rw [if_neg (by omega)]
      exact flag_end _ _ _ _ _ _ _ _ _ _ _ _ _ ⟨(fun h => by cases h), fun h => absurd h.2.2.2.2.1 q5⟩ rfl rfl rfl
  · rw [if_neg (by omega)]
    exact flag_end _ _ _ _ _ _ _ _ _ _ _ _ _ ⟨(fun h => by cases h), fun h => absurd h.2.2.2.1 q4⟩ rfl rfl rfl
theorem agree_eq (a b c : Int) : tail_agree.f a b c = some (decide (a = b ∨ a = c)) := by
  unfold tail_agree.f
  by_cases h : a = b
  · rw [if_pos h, decide_eq_true (.inl h)]
  · rw [if_neg h]
    by_cases h2 : a = c
    · rw [decide_eq_true (.inr h2), beq_iff_eq.2 h2]
    · rw [decide_eq_false (by rintro (h3 | h3) <;> contradiction), beq_eq_false_iff_ne.2 h2]
theorem asks_eq (r0 r1 r2 r3 r4 r5 r6 : Int) (c : ByteArray) : tail_record_asks.f r0 r1 r2 r3 r4 r5 r6 c = some (decide (r3 = 65535 ∨ r4 = 65535 ∨ r5 = 4294967295 ∨ r6 = 4294967295)) := by
  unfold tail_record_asks.f
  by_cases h3 : r3 = 65535
  · rw [if_pos h3, decide_eq_true (.inl h3)]
  rw [if_neg h3]
  by_cases h4 : r4 = 65535
  · rw [if_pos h4, decide_eq_true (.inr (.inl h4))]
  rw [if_neg h4]
  by_cases h5 : r5 = 4294967295
  · rw [if_pos h5, decide_eq_true (.inr (.inr (.inl h5)))]
  rw [if_neg h5]
  by_cases h6 : r6 = 4294967295
  · rw [decide_eq_true (.inr (.inr (.inr h6))), beq_iff_eq.2 h6]
  · rw [decide_eq_false (by rintro (h | h | h | h) <;> contradiction), beq_eq_false_iff_ne.2 h6]
set_option maxHeartbeats 8000000 in
theorem find_rest (s : ByteArray) (a n4 n5 n6 n7 : Nat) (ha : a + 22 ≤ s.size) (hs : s.size ≤ 5000) (f5 : n5 < 65536) (f6 : n6 < 4294967296) (f7 : n7 < 4294967296) (e45 : n4 = n5) (c : ByteArray) (k : Nat) (hk : 10 < k) :
    tail_Find.j0 (k + 2) s false (a : Int) 0 0 (n4 : Int) (n5 : Int) (n6 : Int) (n7 : Int) c = some (
      if n5 ≠ 65535 ∧ n6 ≠ 4294967295 ∧ n7 ≠ 4294967295 then ((a : Int), (n5 : Int), (n6 : Int), (n7 : Int), c, false, 0)
      else if a < 20 then noE 31
      else if ¬ (fld s.data.toList (a - 20) 4 = 117853008 ∧ fld s.data.toList (a - 16) 4 = 0 ∧ fld s.data.toList (a - 4) 4 = 1 ∧ fld s.data.toList (a - 12) 8 ≤ a - 20) then noE 31
      else wideE s.data.toList c a n5 n6 n7 (fld s.data.toList (a - 12) 8)) := by
  subst e45
  rw [tail_Find.j0, if_neg (by decide), asks_eq, Option.bind_some, wrap_id (x := (a : Int)) (by omega) (by omega)]
  by_cases hq : n4 ≠ 65535 ∧ n6 ≠ 4294967295 ∧ n7 ≠ 4294967295
  · rw [decide_eq_false (by omega), if_neg (by decide), if_pos hq]
  rw [decide_eq_true (by omega), if_pos rfl, if_neg hq]
  by_cases h20 : a < 20
  · rw [if_pos h20]
    unfold tail_located.f
    rw [if_pos (by omega), Option.bind_some, if_neg (by decide)]; rfl
  rw [if_neg h20, located_all s a (by omega) (by omega) hs (k + 1) (by omega), Option.bind_some]
  by_cases hloc : fld s.data.toList (a - 20) 4 = 117853008 ∧ fld s.data.toList (a - 16) 4 = 0 ∧ fld s.data.toList (a - 4) 4 = 1 ∧ fld s.data.toList (a - 12) 8 ≤ a - 20
  case neg =>
    rw [if_neg hloc, if_pos hloc, if_neg (by decide)]; rfl
  rw [if_pos hloc]
  dsimp only
  rw [if_pos rfl, if_neg (not_not_intro hloc)]
  have hx := hloc.2.2.2
  obtain ⟨x, hxx⟩ : ∃ x, fld s.data.toList (a - 12) 8 = x := ⟨_, rfl⟩
  rw [hxx] at hx ⊢
  rw [show (a : Int) - 20 = ((a - 20 : Nat) : Int) by omega, wrap_id (x := ((a - 20 : Nat) : Int)) (by omega) (by omega)]
  obtain ⟨r0, r1, r2, r3, r4, r5, r6, r7, b, hw, hb, hv⟩ := wide_all s x (a - 20) hx (by omega) hs k (by omega)
  rw [hw, Option.bind_some]
  dsimp only
  unfold wideE
  have hiff : wOK s.data.toList x (a - 20) ↔ ¬ (a - 20 - x < 56) ∧ (fld s.data.toList x 4 = 101075792 ∧ fld s.data.toList (x + 4) 8 = a - 20 - x - 12 ∧ fld s.data.toList (x + 16) 4 = 0 ∧ fld s.data.toList (x + 20) 4 = 0 ∧ fld s.data.toList (x + 24) 8 = fld s.data.toList (x + 32) 8) :=
    ⟨fun h => ⟨by have := h.1; omega, h.2⟩, fun h => ⟨by have := h.1; omega, h.2⟩⟩
  by_cases hok : wOK s.data.toList x (a - 20)
  case neg =>
    have hbf : b = false := by cases b with | false => rfl | true => exact absurd (hb.1 rfl) hok
    rw [hbf, if_neg (by decide)]
    by_cases h56 : a - 20 - x < 56
    · rw [if_pos h56]; rfl
    · rw [if_neg h56, if_pos (fun h => hok (hiff.2 ⟨h56, h⟩))]; rfl
  have hbt := hb.2 hok
  obtain ⟨rfl, rfl, rfl⟩ := hv hbt
  rw [hbt, if_pos rfl, if_neg (hiff.1 hok).1, if_neg (fun h => h (hiff.1 hok).2)]
  rw [agree_eq, Option.bind_some]
  by_cases g1 : n4 = 65535 ∨ n4 = fld s.data.toList (x + 32) 8
  case neg =>
    rw [decide_eq_false (by omega), if_neg (by decide), if_pos (fun h => g1 h.1)]; rfl
  rw [decide_eq_true (by omega), if_pos rfl, agree_eq, Option.bind_some]
  by_cases g2 : n6 = 4294967295 ∨ n6 = fld s.data.toList (x + 40) 8
  case neg =>
    rw [decide_eq_false (by omega), if_neg (by decide), if_pos (fun h => g2 h.2.1)]; rfl
  rw [decide_eq_true (by omega), if_pos rfl, agree_eq, Option.bind_some]
  by_cases g3 : n7 = 4294967295 ∨ n7 = fld s.data.toList (x + 48) 8
  case neg =>
    rw [decide_eq_false (by omega), if_neg (by decide), if_pos (fun h => g3 h.2.2)]; rfl
  rw [decide_eq_true (by omega), if_pos rfl, if_neg (fun h => h ⟨g1, g2, g3⟩)]
theorem j0_bad (k : Nat) (s : ByteArray) (a b c d e f g : Int) (z : ByteArray) : tail_Find.j0 (k + 1) s true a b c d e f g z = some (noE 30) := by
  rw [tail_Find.j0, if_pos rfl]; rfl
theorem find_eq (s : ByteArray) (hs : s.size ≤ 5000) (k : Nat) (hk : 5200 < k) : tail_Find.f k s = some (spec18 s) := by
  obtain ⟨k, rfl⟩ : ∃ m, k = m + 2 := ⟨k - 2, by omega⟩
  unfold tail_Find.f
  rw [last_all s hs (k + 2) (by omega), Option.bind_some]
  unfold spec18
  cases ho : lastOf s.data.toList with
  | none =>
    show (if false = true then _ else _) = _
    rw [if_neg (by decide), j0_bad]
  | some a =>
    have hle := (lastOf_le _ a ho).1
    rw [toList_length] at hle
    unfold la
    dsimp only
    rw [if_pos rfl]
    unfold findE
    dsimp only
    have f1 := fld2 s.data.toList (a + 4)
    have f2 := fld2 s.data.toList (a + 6)
    have f3 := fld2 s.data.toList (a + 8)
    have f4 := fld2 s.data.toList (a + 10)
    have f5 := fld4 s.data.toList (a + 12)
    have f6 := fld4 s.data.toList (a + 16)
    by_cases h1 : fld s.data.toList (a + 4) 2 = 0
    case neg => rw [if_neg (by omega), j0_bad, if_pos (fun h => h1 h.1)]
    rw [if_pos (by omega)]
    by_cases h2 : fld s.data.toList (a + 6) 2 = 0
    case neg => rw [if_neg (by omega), j0_bad, if_pos (fun h => h2 h.2.1)]
    rw [if_pos (by omega)]
    by_cases h3 : fld s.data.toList (a + 8) 2 = fld s.data.toList (a + 10) 2
    case neg => rw [show ((((fld s.data.toList (a + 8) 2 : Nat) : Int)) != ((fld s.data.toList (a + 10) 2 : Nat) : Int)) = true from bne_iff_ne.2 (by omega), j0_bad, if_pos (fun h => h3 h.2.2)]
    rw [show ((((fld s.data.toList (a + 8) 2 : Nat) : Int)) != ((fld s.data.toList (a + 10) 2 : Nat) : Int)) = false from bne_eq_false_iff_eq.2 (by omega), if_neg (fun h => h ⟨h1, h2, h3⟩)]
    rw [h1, h2]
    exact find_rest s a _ _ _ _ hle hs f4 f5 f6 h3 _ k (by omega)
end Go.Proofs.Ytdooampgkiodjaa.D18
namespace Go.Proofs.Ytdooampgkiodjaa.P
set_option linter.unusedVariables false
set_option linter.unusedSimpArgs false
open Go Go.RowKit Go.Proofs.Ytdooampgkiodjaa.B Go.Proofs.YtdooampgkiodjaaW.PrintWords Go.Proofs.YtdooampgkiodjaaW.PrintLast Go.Proofs.YtdooampgkiodjaaW.PrintMore
def portmanteauref18_Find.f (s : ByteArray) : Option (Int × Int × Int × Int × ByteArray × Bool × Int) := if s.size ≤ 5000 then some (D18.spec18 s) else none
theorem portmanteauref18_Find.calls (a0 : ByteArray) (r1 r2 r3 r4 : Int) (r5 : ByteArray) (r6 : Bool) (r7 : Int) (w : World) (h : portmanteauref18_Find.f a0 = some (r1, r2, r3, r4, r5, r6, r7)) :
    Calls Try.prog 9 #[.string a0] w fun e w' => e = .returned (.tuple #[.agg #[.int .i64 r1, .int .u64 r2, .int .u64 r3, .int .u64 r4, .string r5, .bool r6], .int .i64 r7]) ∧ Below w.heap.size w w' := by
  unfold portmanteauref18_Find.f at h
  by_cases hs : a0.size ≤ 5000
  case neg => rw [if_neg hs] at h; cases h
  rw [if_pos hs] at h
  replace h := Option.some.inj h
  have fp := D18.place_eq a0 hs 6000 (by omega)
  unfold D18.spec18 at h
  cases ho : D18.lastOf a0.data.toList with
  | none =>
    rw [ho] at h fp
    simp only [D18.noE, Prod.mk.injEq] at h
    obtain ⟨rfl, rfl, rfl, rfl, rfl, rfl, rfl⟩ := h
    exact find_none a0 w fp
  | some a =>
    have hle := (D18.lastOf_le _ a ho).1
    rw [B.toList_length] at hle
    rw [ho] at h fp
    dsimp only at h
    have fr := D18.ends_row a0 a hle (by omega) 200 (by omega)
    unfold D18.findE at h
    dsimp only at h
    by_cases c1 : D18.fld a0.data.toList (a + 4) 2 = 0 ∧ D18.fld a0.data.toList (a + 6) 2 = 0 ∧ D18.fld a0.data.toList (a + 8) 2 = D18.fld a0.data.toList (a + 10) 2
    case neg =>
      rw [if_pos c1] at h
      simp only [D18.noE, Prod.mk.injEq] at h
      obtain ⟨rfl, rfl, rfl, rfl, rfl, rfl, rfl⟩ := h
      exact find_bad a0 a hle hs w fp _ _ _ _ _ _ _ _ fr c1
    rw [if_neg (not_not_intro c1)] at h
    obtain ⟨h1, h2, h3⟩ := c1
    by_cases c2 : D18.fld a0.data.toList (a + 10) 2 ≠ 65535 ∧ D18.fld a0.data.toList (a + 12) 4 ≠ 4294967295 ∧ D18.fld a0.data.toList (a + 16) 4 ≠ 4294967295
    · rw [if_pos c2] at h
      simp only [Prod.mk.injEq] at h
      obtain ⟨rfl, rfl, rfl, rfl, rfl, rfl, rfl⟩ := h
      exact find_plain a0 a hle hs w fp _ _ _ _ _ _ _ _ fr h1 h2 h3 c2.1 c2.2.1 c2.2.2
    rw [if_neg c2] at h
    by_cases c3 : a < 20
    · rw [if_pos c3] at h
      simp only [D18.noE, Prod.mk.injEq] at h
      obtain ⟨rfl, rfl, rfl, rfl, rfl, rfl, rfl⟩ := h
      exact find_low a0 a hle hs w fp _ _ _ _ _ _ _ _ fr h1 h2 h3 c2 c3
    rw [if_neg c3] at h
    have fl := D18.locators_row a0 (a - 20) (by omega) (by omega) 200 (by omega)
    rw [show a - 20 + 4 = a - 16 by omega, show a - 20 + 8 = a - 12 by omega, show a - 20 + 16 = a - 4 by omega] at fl
    by_cases c4 : D18.fld a0.data.toList (a - 20) 4 = 117853008 ∧ D18.fld a0.data.toList (a - 16) 4 = 0 ∧ D18.fld a0.data.toList (a - 4) 4 = 1 ∧ D18.fld a0.data.toList (a - 12) 8 ≤ a - 20
    case neg =>
      rw [if_pos c4] at h
      simp only [D18.noE, Prod.mk.injEq] at h
      obtain ⟨rfl, rfl, rfl, rfl, rfl, rfl, rfl⟩ := h
      exact find_loc a0 a hle hs w fp _ _ _ _ _ _ _ _ fr h1 h2 h3 c2 (by omega) _ _ _ _ fl c4
    rw [if_neg (not_not_intro c4)] at h
    unfold D18.wideE at h
    obtain ⟨g0, g1, g3, g2⟩ := c4
    by_cases c5 : a - 20 - D18.fld a0.data.toList (a - 12) 8 < 56
    · rw [if_pos c5] at h
      simp only [D18.noE, Prod.mk.injEq] at h
      obtain ⟨rfl, rfl, rfl, rfl, rfl, rfl, rfl⟩ := h
      exact find_short a0 a hle hs w fp _ _ _ _ _ _ _ _ fr h1 h2 h3 c2 (by omega) _ _ _ _ fl g0 g1 g3 g2 c5
    rw [if_neg c5] at h
    have fw := D18.wides_row a0 (D18.fld a0.data.toList (a - 12) 8) (by omega) (by omega) 200 (by omega)
    generalize D18.fld a0.data.toList (a - 12) 8 = x at *
    by_cases c6 : D18.fld a0.data.toList x 4 = 101075792 ∧ D18.fld a0.data.toList (x + 4) 8 = a - 20 - x - 12 ∧ D18.fld a0.data.toList (x + 16) 4 = 0 ∧ D18.fld a0.data.toList (x + 20) 4 = 0 ∧ D18.fld a0.data.toList (x + 24) 8 = D18.fld a0.data.toList (x + 32) 8
    case neg =>
      rw [if_pos c6] at h
      simp only [D18.noE, Prod.mk.injEq] at h
      obtain ⟨rfl, rfl, rfl, rfl, rfl, rfl, rfl⟩ := h
      exact find_wbad a0 a hle hs w fp _ _ _ _ _ _ _ _ fr h1 h2 h3 c2 (by omega) _ _ _ _ fl g0 g1 g3 g2 (by omega) _ _ _ _ _ _ _ _ _ _ fw c6
    rw [if_neg (not_not_intro c6)] at h
    obtain ⟨e0, e1, e4, e5, e6⟩ := c6
    by_cases c7 : (D18.fld a0.data.toList (a + 10) 2 = 65535 ∨ D18.fld a0.data.toList (a + 10) 2 = D18.fld a0.data.toList (x + 32) 8) ∧ (D18.fld a0.data.toList (a + 12) 4 = 4294967295 ∨ D18.fld a0.data.toList (a + 12) 4 = D18.fld a0.data.toList (x + 40) 8) ∧ (D18.fld a0.data.toList (a + 16) 4 = 4294967295 ∨ D18.fld a0.data.toList (a + 16) 4 = D18.fld a0.data.toList (x + 48) 8)
    case neg =>
      rw [if_pos c7] at h
      simp only [D18.noE, Prod.mk.injEq] at h
      obtain ⟨rfl, rfl, rfl, rfl, rfl, rfl, rfl⟩ := h
      exact find_abad a0 a hle hs w fp _ _ _ _ _ _ _ _ fr h1 h2 h3 c2 (by omega) _ _ _ _ fl g0 g1 g3 g2 (by omega) _ _ _ _ _ _ _ _ _ _ fw e0 e1 e4 e5 e6 c7
    rw [if_neg (not_not_intro c7)] at h
    simp only [Prod.mk.injEq] at h
    obtain ⟨rfl, rfl, rfl, rfl, rfl, rfl, rfl⟩ := h
    exact find_wide a0 a hle hs w fp _ _ _ _ _ _ _ _ fr h1 h2 h3 c2 (by omega) _ _ _ _ fl g0 g1 g3 g2 (by omega) _ _ _ _ _ _ _ _ _ _ fw e0 e1 e4 e5 e6 c7
end Go.Proofs.Ytdooampgkiodjaa.P
namespace Go.Proofs.Ytdooampgkiodjaa.D18
set_option linter.unusedVariables false
set_option linter.unusedSimpArgs false
open Go Go.RowKit Go.Proofs.Ytdooampgkiodjaa.P Go.Proofs.Ytdooampgkiodjaa.B Go.Proofs.Ytdooampgkiodjaa.Num Go.Proofs.Ytdooampgkiodjaa.Cur Go.Proofs.YtdooampgkiodjaaW.PrintWords Go.Proofs.YtdooampgkiodjaaW.PrintLast Go.Proofs.YtdooampgkiodjaaW.PrintMore
theorem awake_up (k : Nat) (hk : 1000 < k) : portmanteaulaw18_awake.f k = some true := by
  have h0 : portmanteaulaw18_awake.f 30 = some true := by decide +kernel
  obtain ⟨d, rfl⟩ : ∃ d, k = 30 + d := ⟨k - 30, by omega⟩
  clear hk
  induction d with
  | zero => exact h0
  | succ d ih => exact portmanteaulaw18_awake.mono _ _ ih
theorem w76 (a : Nat) (h : a ≤ 900000) : wrap64 ((a + 76 : Nat) : Int) = ((a + 76 : Nat) : Int) := wrap_id (by omega) (by omega)
theorem w56 (a : Nat) (h : a ≤ 900000) : wrap64 (((a + 76 : Nat) : Int) - 20) = ((a + 56 : Nat) : Int) := by rw [wrap_id (by omega) (by omega)]; omega
theorem wide_len (n z o : Nat) : (wideR n z o).length = 56 := by simp [wideR, ofN_length]
theorem loc_len (x : Nat) : (locB x).length = 20 := by simp [locB, ofN_length]
set_option maxHeartbeats 4000000 in
theorem find_wide (s : ByteArray) (A c E : List UInt8) (n z o : Nat) (hE : E = endB 65535 4294967295 4294967295 c) (h : s.data.toList = A ++ (wideR n z o ++ (locB A.length ++ E))) (hn : n < 18446744073709551616) (hz : z < 18446744073709551616) (ho : o < 18446744073709551616) (hX : A.length ≤ 900000) (hc : c.length ≤ 65535)
    (hm : ∀ j, A.length + 76 < j → j ≤ A.length + 76 + c.length → (s.data.toList.drop j).take 4 ≠ [80, 75, 5, 6]) (k : Nat) (hk : c.length + 20 < k) :
    tail_Find.f (k + 1) s = some ((A.length : Int), (n : Int), (z : Int), (o : Int), strN c, true, 0) := by
  have hEl : E.length = 22 + c.length := by rw [hE, endB_len]
  obtain ⟨X, hXd⟩ : ∃ X, A ++ (wideR n z o ++ locB A.length) = X := ⟨_, rfl⟩
  obtain ⟨Y, hYd⟩ : ∃ Y, A ++ wideR n z o = Y := ⟨_, rfl⟩
  have hXl : X.length = A.length + 76 := by rw [← hXd, List.length_append, List.length_append, wide_len, loc_len]
  have hYl : Y.length = A.length + 56 := by rw [← hYd, List.length_append, wide_len]
  have hX' : s.data.toList = X ++ E := by rw [h, ← hXd]; simp only [List.append_assoc]
  have hY' : s.data.toList = Y ++ (locB A.length ++ E) := by rw [h, ← hYd]; simp only [List.append_assoc]
  have hsz : s.size = A.length + 76 + (22 + c.length) := by rw [← toList_length s, hX', List.length_append, hEl, hXl]
  have hloc := located_eq s Y E A.length hY' (by omega) (by omega) k (by omega)
  rw [hYl, show A.length + 56 + 20 = A.length + 76 by omega] at hloc
  have hl := last_eq s X c 65535 4294967295 4294967295 (by rw [hX', hE]) (by decide) (by decide) (by decide) (by omega) hc (by rw [hXl]; exact hm) (k + 1) (by omega)
  rw [hXl] at hl
  obtain ⟨k, rfl⟩ : ∃ m, k = m + 1 := ⟨k - 1, by omega⟩
  have hwd := wide_eq s A (locB A.length ++ E) n z o h hn hz ho (by omega) k (by omega)
  have h4 := w76 A.length hX
  have h5 := w56 A.length hX
  have hc5 : ((65535 : Nat) : Int) = 65535 := rfl
  have hc6 : ((4294967295 : Nat) : Int) = 4294967295 := rfl
  unfold tail_Find.f
  rw [hl, Option.bind_some]
  dsimp only
  rw [if_pos rfl, if_pos rfl, if_pos rfl, bne_self_eq_false, tail_Find.j0, if_neg (by decide)]
  unfold tail_record_asks.f
  rw [if_pos hc5, Option.bind_some, if_pos rfl, h4, hloc, Option.bind_some]
  dsimp only
  rw [if_pos rfl, h5, hwd, Option.bind_some]
  dsimp only
  rw [if_pos rfl]
  unfold tail_agree.f
  rw [if_pos hc5, Option.bind_some, if_pos rfl, if_pos hc6, Option.bind_some, if_pos rfl, if_pos hc6, Option.bind_some, if_pos rfl]
end Go.Proofs.Ytdooampgkiodjaa.D18
namespace Go.Proofs.Ytdooampgkiodjaa.Walk
set_option linter.unusedVariables false
set_option linter.unusedSimpArgs false
open Go Go.RowKit Go.Proofs.Ytdooampgkiodjaa.P Go.Proofs.Ytdooampgkiodjaa.B Go.Proofs.Ytdooampgkiodjaa.D18 Go.Proofs.YtdooampgkiodjaaW.PrintWords Go.Proofs.YtdooampgkiodjaaW.PrintLast Go.Proofs.YtdooampgkiodjaaW.PrintMore
set_option maxHeartbeats 16000000 in
set_option maxRecDepth 100000 in
theorem finds_big (a0 : ByteArray) (w : World) (h : 5000 < a0.size) :
    Calls Try.prog 3 #[.string a0] w fun e w' => e = .returned (.bool true) ∧ Below w.heap.size w w' := by
  have hz1 : decide (5000 < a0.size) = true := decide_eq_true h
  have hz2 : decide ((5000 : Int) < (a0.size : Int)) = true := decide_eq_true (by omega)
  clear h
  have HB0 := Aside0.mk (Below.refl w.heap.size w)
  have HA := Aside0.mk (awake_up 2000 (by decide))
  go_enter Try.func3, Try.ntmps3
  go_wp2_with (go_at_call 7; (with_reducible refine (portmanteaulaw18_awake.calls 2000 true _ HA.out).mono ?_); rintro e w1 ⟨rfl, hb⟩; have HB1 := Aside0.mk (below_step HB0.out hb); clear hb)
  go_ret
  exact ⟨rfl, HB1.out⟩
set_option maxHeartbeats 16000000 in
set_option maxRecDepth 100000 in
theorem finds_core (a0 : ByteArray) (w : World) (h : ¬ 5000 < a0.size) (k : Nat) (r1 r2 r3 r4 : Int) (r5 : ByteArray) (r6 : Bool) (r7 : Int) (f1 : tail_Find.f k a0 = some (r1, r2, r3, r4, r5, r6, r7)) (f2 : portmanteauref18_Find.f a0 = some (r1, r2, r3, r4, r5, r6, r7)) :
    Calls Try.prog 3 #[.string a0] w fun e w' => e = .returned (.bool true) ∧ Below w.heap.size w w' := by
  have hz1 : decide (5000 < a0.size) = false := decide_eq_false h
  have hz2 : decide ((5000 : Int) < (a0.size : Int)) = false := decide_eq_false (by omega)
  have hu1 := Try.underlying25
  have hu2 := Try.underlying29
  have F1 := Aside0.mk f1
  have F2 := Aside0.mk f2
  clear h f1 f2
  have HB0 := Aside0.mk (Below.refl w.heap.size w)
  have HA := Aside0.mk (awake_up 2000 (by decide))
  go_enter Try.func3, Try.ntmps3
  go_upto_region 5 with (go_at_call 7; (with_reducible refine (portmanteaulaw18_awake.calls 2000 true _ HA.out).mono ?_); rintro e w1 ⟨rfl, hb⟩; have HB1 := Aside0.mk (below_step HB0.out hb); clear hb)
  clear hz1 hz2
  go_upto_region 6 with (go_at_call 8; (with_reducible refine (tail_Find.calls k a0 r1 r2 r3 r4 r5 r6 r7 _ F1.out).mono ?_); rintro e w2 ⟨rfl, hb⟩; have HB2 := Aside0.mk (below_step HB1.out hb); clear hb)
  have HBa := Aside0.mk (below_alloc HB2.out (.cells #[.int .i64 r1, .int .u64 r2, .int .u64 r3, .int .u64 r4, .string r5, .bool r6] 25))
  have HX := Aside0.mk (heap_alloc_new w2 (.cells #[.int .i64 r1, .int .u64 r2, .int .u64 r3, .int .u64 r4, .string r5, .bool r6] 25))
  generalize w2.alloc (.cells #[.int .i64 r1, .int .u64 r2, .int .u64 r3, .int .u64 r4, .string r5, .bool r6] 25) = w3 at HBa HX ⊢
  generalize w2.heap.size = ga at HX ⊢
  go_upto_region 7 with (go_at_call 9; (with_reducible refine (portmanteauref18_Find.calls a0 r1 r2 r3 r4 r5 r6 r7 _ F2.out).mono ?_); rintro e w4 ⟨rfl, hb⟩; have HB4 := Aside0.mk (below_step HBa.out hb); have HX4 := Aside0.mk (blk_below HX.out hb); clear hb)
  have HBb := Aside0.mk (below_alloc HB4.out (.cells #[.int .i64 r1, .int .u64 r2, .int .u64 r3, .int .u64 r4, .string r5, .bool r6] 29))
  have HXb := Aside0.mk (blk_alloc HX4.out (.cells #[.int .i64 r1, .int .u64 r2, .int .u64 r3, .int .u64 r4, .string r5, .bool r6] 29))
  have HY := Aside0.mk (heap_alloc_new w4 (.cells #[.int .i64 r1, .int .u64 r2, .int .u64 r3, .int .u64 r4, .string r5, .bool r6] 29))
  generalize w4.alloc (.cells #[.int .i64 r1, .int .u64 r2, .int .u64 r3, .int .u64 r4, .string r5, .bool r6] 29) = w5 at HBb HXb HY ⊢
  generalize w4.heap.size = gb at HY ⊢
  have x0 := blk_cell HXb.out 0
  have x1 := blk_cell HXb.out 1
  have x2 := blk_cell HXb.out 2
  have x3 := blk_cell HXb.out 3
  have x4 := blk_cell HXb.out 4
  have x5 := blk_cell HXb.out 5
  have y0 := blk_cell HY.out 0
  have y1 := blk_cell HY.out 1
  have y2 := blk_cell HY.out 2
  have y3 := blk_cell HY.out 3
  have y4 := blk_cell HY.out 4
  have y5 := blk_cell HY.out 5
  simp only [List.getElem?_toArray, List.getElem?_cons_zero, List.getElem?_cons_succ] at x0 x1 x2 x3 x4 x5 y0 y1 y2 y3 y4 y5
  go_wp2
  go_ret
  exact ⟨by first | rfl | (simp [*]; done), HBb.out⟩
theorem TailFinds (a0 : ByteArray) (w : World) (w0 : a0.size ≤ 140737488351232) :
    Calls Try.prog 3 #[.string a0] w fun e w' => e = .returned (.bool true) ∧ Below w.heap.size w w' := by
  by_cases h : 5000 < a0.size
  · exact finds_big a0 w h
  obtain ⟨⟨r1, r2, r3, r4, r5, r6, r7⟩, hr⟩ : ∃ r, spec18 a0 = r := ⟨_, rfl⟩
  have f1 := find_eq a0 (by omega) 6000 (by omega)
  have f2 : portmanteauref18_Find.f a0 = some (spec18 a0) := by unfold portmanteauref18_Find.f; rw [if_pos (by omega)]
  rw [hr] at f1 f2
  exact finds_core a0 w h 6000 r1 r2 r3 r4 r5 r6 r7 f1 f2
end Go.Proofs.Ytdooampgkiodjaa.Walk
