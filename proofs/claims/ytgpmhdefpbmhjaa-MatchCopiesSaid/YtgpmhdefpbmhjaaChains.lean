/- Chains: which places each triple of a text begins at. -/
import Derived.Test.YtgpmhdefpbmhjaaMapG
import Derived.Test.YtgpmhdefpbmhjaaBytes
import Derived.DeepKeys4
import Derived.StillTailTactics
import Derived.Maps.OwnRows
import Derived.Test.YtgpmhdefpbmhjaaPx2
namespace Go.Proofs.Ytgpmhdefpbmhjaa.Ch
set_option linter.unusedVariables false
set_option linter.unusedSimpArgs false
open Go Go.RowKit Go.Proofs.Ytgpmhdefpbmhjaa.P Go.Proofs.Ytgpmhdefpbmhjaa.B Go.Proofs.Ytgpmhdefpbmhjaa.MapG Go.Proofs.YtgpmhdefpbmhjaaW.PrintWords Go.Proofs.YtgpmhdefpbmhjaaW.PrintLast Go.Proofs.YtgpmhdefpbmhjaaW.PrintMore

/-- A triple of bytes, and its value. -/
abbrev Tri := UInt8 × UInt8 × UInt8
def encT (t : Tri) : Value := .agg #[.int .u8 (t.1.toNat : Int), .int .u8 (t.2.1.toNat : Int), .int .u8 (t.2.2.toNat : Int)]
theorem encT_inj : ∀ a c : Tri, encT a = encT c → a = c := by
  intro a c h
  unfold encT at h
  injection h with h
  injection h with h
  simp only [List.cons.injEq, Value.int.injEq, true_and, Int.natCast_inj, and_true] at h
  obtain ⟨h1, h2, h3⟩ := h
  exact Prod.ext (UInt8.toNat_inj.1 h1) (Prod.ext (UInt8.toNat_inj.1 h2) (UInt8.toNat_inj.1 h3))
theorem laidOut : laidOutB Try.prog = true := by kernel_rfl
theorem rowT : (40 : TypeId) < Try.prog.types.size := of_decide_eq_true (by kernel_rfl)
theorem wideT : (match Try.prog.underlying 40 with | some (.array _ _) | some (.struct _) => true | _ => false) = true := by rw [Try.underlying40]
theorem keyed : Go.Maps.Keyed Try.prog 40 := Go.Maps.Keyed.of_law (deep_law_laid laidOut (m := 2) (by omega) rowT (by kernel_rfl) wideT)
theorem cellsT : Try.prog.cellsOf 40 = 3 := by kernel_rfl
theorem cells5 : Try.prog.cellsOf 5 = 1 := by kernel_rfl
theorem keyT : Try.prog.keyType 40 = true := by kernel_rfl
theorem zeroM (u : World) : (zeroValue 41).run Try.prog u = .ok (.slice none 0 0) u := by kernel_rfl
theorem wf_byte (a : UInt8) : (Lit.int .u8 (a.toNat : Int)).wf = true := by
  have := a.toNat_lt
  simp [Lit.wf, IntKind.min, IntKind.max, IntKind.signed, IntKind.bits]
  omega
theorem key_ok : ∀ t : Tri, ∃ l, keyOf Try.prog 40 (encT t) = some l := by
  intro t
  obtain ⟨d, hd⟩ : ∃ d, Try.prog.types.size + 1 = d + 2 := ⟨Try.prog.types.size - 1, by have h : (0 : Nat) < Try.prog.types.size := Nat.lt_of_le_of_lt (Nat.zero_le _) rowT; omega⟩
  suffices h : ∃ ls, Try.prog.keyLits (Try.prog.types.size + 1) 40 (encT t).cells.toList = some ls by
    obtain ⟨ls, h⟩ := h
    unfold keyOf
    rw [Try.underlying40]
    simp only [keyT, Bool.true_and]
    rw [if_pos (by simp [Value.formed, encT, Try.underlying40, cellsT]), h]
    exact ⟨_, rfl⟩
  rw [hd]
  unfold encT
  simp [Program.keyLits, Try.underlying40, cellsT, cells5, Try.underlying5, Value.cells, List.range, List.range.loop, wf_byte]

/-- The triple at a place. -/
def tri (s : ByteArray) (i : Nat) : Tri := (s.data.toList.getD i 0, s.data.toList.getD (i + 1) 0, s.data.toList.getD (i + 2) 0)
/-- The chains of the first n places. -/
def chL (s : ByteArray) : Nat → List (Tri × List Int)
  | 0 => []
  | n + 1 => putL (chL s n) (tri s n) (getL (chL s n) (tri s n) ++ [(n : Int)])
theorem tri_at (s : ByteArray) (i : Nat) (h : i < s.size) : bt s (i : Int) = ((s.data.toList.getD i 0).toNat : Int) := by
  have h' : i < s.data.toList.length := by simpa using h
  rw [bt_nat s i h', List.getD_eq_getElem?_getD, List.getElem?_eq_getElem h']
  rfl
theorem tri_val (s : ByteArray) (i : Nat) (h0 : i < s.size) (h1 : i + 1 < s.size) (h2 : i + 2 < s.size) : encT (tri s i) = .agg #[.int .u8 (s[i].toNat : Int), .int .u8 (s[i + 1].toNat : Int), .int .u8 (s[i + 2].toNat : Int)] := by
  have e : ∀ j (h : j < s.size), s.data.toList.getD j 0 = s[j] := by
    intro j h
    have h' : j < s.data.toList.length := by simpa using h
    rw [List.getD_eq_getElem?_getD, List.getElem?_eq_getElem h']
    simp [ByteArray.getElem_eq_getElem_data]
  unfold encT tri
  simp only [e i h0, e (i + 1) h1, e (i + 2) h2]
set_option maxHeartbeats 1000000 in
theorem triple_calls (s : ByteArray) (i : Nat) (w : World) (hs : s.size ≤ 140737488351232) (hi : i + 2 < s.size) :
    Calls Try.prog 18 #[.string s, .int .i64 i] w fun e w' => e = .returned (encT (tri s i)) ∧ Below w.heap.size w w' := by
  have f0 : 0 ≤ (i : Int) := by omega
  have f1 : 0 ≤ (i : Int) + 1 := by omega
  have f2 : 0 ≤ (i : Int) + 2 := by omega
  have g0 : (i : Int) < (s.size : Int) := by omega
  have g1 : (i : Int) + 1 < (s.size : Int) := by omega
  have g2 : (i : Int) + 2 < (s.size : Int) := by omega
  go_enter Try.func18, Try.ntmps18
  go_wp2
  go_region
  go_wp2
  exact bodyPost_ret (v := .agg #[.int .u8 (s[i].toNat : Int), .int .u8 (s[i + 1].toNat : Int), .int .u8 (s[i + 2].toNat : Int)]) (by simp [results, Try.results18, go_sem]) rfl ⟨congrArg _ (tri_val s i _ _ _).symm, below_drew1 (below_alloc (Below.refl _ _) _)⟩
theorem triple_calls' (s : ByteArray) (i : Nat) (w : World) (hs : s.size ≤ 140737488351232) (hi : i + 2 < s.size) :
    Calls Try.prog 18 #[.string s, .int .i64 i] w fun e w' => e = .returned (.agg #[.int .u8 ((tri s i).1.toNat : Int), .int .u8 ((tri s i).2.1.toNat : Int), .int .u8 ((tri s i).2.2.toNat : Int)]) ∧ Below w.heap.size w w' := triple_calls s i w hs hi
/-- No chain is longer than there were places. -/
theorem chL_len (s : ByteArray) : ∀ n, (∀ p ∈ chL s n, p.2.length ≤ n) := by
  intro n
  induction n with
  | zero => intro p hp; cases hp
  | succ n ih =>
    have hg : (getL (chL s n) (tri s n)).length ≤ n := by
      unfold getL
      cases hi : idx (chL s n) (tri s n) with
      | none => simp
      | some j =>
        obtain ⟨q, hq, _⟩ := idx_some hi
        simp only [hq, Option.map_some, Option.getD_some]
        exact ih q (List.mem_of_getElem? hq)
    intro p hp
    rw [chL] at hp
    unfold putL at hp
    cases hi : idx (chL s n) (tri s n) with
    | none =>
      rw [hi] at hp
      rcases List.mem_append.1 hp with hp | hp
      · have := ih p hp; omega
      · rw [List.mem_singleton.1 hp]; simp; omega
    | some j =>
      rw [hi] at hp
      rcases List.mem_or_eq_of_mem_set hp with hp | rfl
      · have := ih p hp; omega
      · simp; omega
theorem get_len (s : ByteArray) (n : Nat) (t : Tri) : (getL (chL s n) t).length ≤ n := by
  unfold getL
  cases hi : idx (chL s n) t with
  | none => simp
  | some j =>
    obtain ⟨q, hq, _⟩ := idx_some hi
    simp only [hq, Option.map_some, Option.getD_some]
    exact chL_len s n q (List.mem_of_getElem? hq)
theorem infoI : (Try.prog.info? 3).map (fun i => (i.zero, i.size, i.bytes)) = some (some (.int .i64 0), 1, 8) := by kernel_rfl
/-- How many places a text has where a triple begins. -/
def places (s : ByteArray) : Nat := if s.size ≤ 1048576 then s.size - 2 else 0

set_option maxHeartbeats 4000000 in
set_option maxRecDepth 100000 in
theorem chains_calls (s : ByteArray) (w : World) (hs : s.size ≤ 140737488351232) :
    Calls Try.prog 15 #[.string s] w fun e w' => e = .returned (.map (some w.heap.size)) ∧ OwnsG Try.prog 40 encT w' w.heap.size (w.heap.size + 1) (chL s (places s)) ∧ Below w.heap.size w w' := by
  have hmm := @run_makeMap Try.prog
  obtain ⟨i0, hi, hz0, hz1, hz2⟩ := info_parts infoI
  have HINF := Aside0.mk (And.intro hi (And.intro hz0 (And.intro hz1 hz2)))
  clear hi hz0 hz1 hz2
  by_cases hbig : s.size > 1048576
  · have hb1 : decide (1048576 < (s.size : Int)) = true := decide_eq_true (by omega)
    have hb2 : decide (1048576 < s.size) = true := decide_eq_true (by omega)
    have hp : places s = 0 := by unfold places; rw [if_neg (by omega)]
    rw [hp]
    clear hp
    go_enter Try.func15, Try.ntmps15
    go_wp2
    go_ret
    exact ⟨rfl, made w, below_alloc (Below.refl _ _) _⟩
  have hb1 : decide (1048576 < (s.size : Int)) = false := decide_eq_false (by omega)
  have hb2 : decide (1048576 < s.size) = false := decide_eq_false (by omega)
  have hp : places s = s.size - 2 := by unfold places; rw [if_pos (by omega)]
  have HP := Aside0.mk hp
  clear hp
  go_enter Try.func15, Try.ntmps15
  go_wp2
  go_loopw [4] (fun v4 wr => ∃ n : Nat, v4 = .int .i64 n ∧ n ≤ s.size - 2 ∧ Aside0 (OwnsG Try.prog 40 encT wr w.heap.size (w.heap.size + 1) (chL s n)) ∧ Aside0 (Below w.heap.size w wr) ∧ Aside0 (w.heap.size + 1 ≤ wr.heap.size))
    (fun v _ => s.size - (intOf v).toNat)
  case atStart => exact ⟨0, rfl, by omega, ⟨made w⟩, ⟨below_alloc (Below.refl _ _) _⟩, ⟨by simp⟩⟩
  case round =>
    obtain ⟨n, rfl, hn, HO, HB, HS⟩ := hrel
    by_cases hlt : n + 3 ≤ s.size
    · have hd : decide ((n : Int) + 3 ≤ (s.size : Int)) = true := decide_eq_true (by omega)
      have hgl := get_len s n (tri s n)
      go_wp2_with (first
        | (go_at_call 18; refine (triple_calls' s n _ hs (by omega)).mono ?_; rintro e w1 ⟨rfl, hb⟩; have HO1 := Aside0.mk (HO.out.below hb); have HB1 := Aside0.mk (below_step HB.out hb); have HS1 := Aside0.mk (Nat.le_trans HS.out hb.size); clear hb)
        | (refine wpList_entry rfl (.tmp 21) (.tmp 22) 37 rfl keyed Try.underlying37 zeroM encT_inj key_ok ((HO1.out.below (below_alloc (Below.refl _ _) _)).below (below_alloc (Below.refl _ _) _)) (by simp; have := HS1.out; omega) (tri s n) rfl rfl ?_; intro v0 st w2 hg2 hr2 hback2; have HG2 := Aside0.mk hg2; have HR2 := Aside0.mk hr2; have HBK := Aside0.mk hback2; clear hg2 hr2 hback2)
        | (at_builtin; refine wpList_append_own_at _ rfl (.tmp 23) (.tmp 25) 41 rfl (w.heap.size + 1) 3 i0 (.int .i64 0) 1 8 Try.underlying41 HINF.out.1 HINF.out.2.1 HINF.out.2.2.1 HINF.out.2.2.2 rfl (by decide) v0 (getL (chL s n) (tri s n)).length ((getL (chL s n) (tri s n)).map (Value.int .i64)) rfl HR2.out ⟨w1.heap.size + 1, 0, none⟩ 1 1 [.int .i64 n] rfl rfl ?cN ?cO ?cM ?cB ?cS ?_; (case cN => exact fun j u hj => HG2.out.cell (by simpa using cell_one_new (w1.alloc (.cells #[.int .u8 ((tri s n).1.toNat : Int), .int .u8 ((tri s n).2.1.toNat : Int), .int .u8 ((tri s n).2.2.toNat : Int)] 40)) (.int .i64 n) 3 j u hj) (by rw [add_block]; have := HS1.out; intro he; injection he with he; have he' : w1.heap.size + 1 = w.heap.size := he; omega)); (case cO => intro u hu; rw [List.mem_singleton.1 hu]; rfl); (case cM => unfold maxLen; omega); (case cB => omega); (case cS => have := HG2.out.size; have := HS1.out; simp at *; omega); intro v3 w3 hown3 hgrow3 _ hloc3; have HR3 := Aside0.mk (show RI w3 (w.heap.size + 1) v3 (getL (chL s n) (tri s n) ++ [(n : Int)]) from by unfold RI; rw [List.length_append, List.map_append]; exact hown3); have HG3 := Aside0.mk hgrow3; have HL3 := Aside0.mk hloc3; clear hown3 hgrow3 hloc3)
        | (refine wpList_store rfl (.tmp 21) (.tmp 28) (.tmp 27) 37 rfl HBK.out rfl rfl rfl HG3.out HR3.out (HL3.out.imp id (fun h => ⟨_, h, Nat.le_refl _⟩)) ?_; intro w4 ho4 hg4; have HO4 := Aside0.mk ho4; have HG4 := Aside0.mk hg4; clear ho4 hg4))
      have hB1 : w.heap.size ≤ w1.heap.size := HB1.out.size
      have HB5 := (((below_alloc (below_alloc HB1.out (.cells #[.int .u8 ((tri s n).1.toNat : Int), .int .u8 ((tri s n).2.1.toNat : Int), .int .u8 ((tri s n).2.2.toNat : Int)] 40)) (.cells #[.int .i64 n] 3)).grown HG2.out (by simp; omega) (fun j hj => by injection hj with hj; omega)).grown HG3.out (by have := HG2.out.size; simp at this; omega) (fun j hj => by have := own_base HR2.out j hj; omega)).grown HG4.out (by have := HG2.out.size; have := HG3.out.size; simp at *; omega) (fun j hj => by injection hj with hj; omega)
      have hS5 : w.heap.size + 1 ≤ w4.heap.size := by have := HG2.out.size; have := HG3.out.size; have := HG4.out.size; have := HS1.out; simp at *; omega
      go_roundw
      case rel => exact ⟨n + 1, by go_num, by omega, HO4, ⟨HB5⟩, ⟨hS5⟩⟩
      case measure => simp [intOf]; omega
    · have hd : decide ((n : Int) + 3 ≤ (s.size : Int)) = false := decide_eq_false (by omega)
      have hn2 : n = s.size - 2 := by omega
      go_wp2
      go_ret
      refine ⟨rfl, ?_, HB.out⟩
      rw [HP.out, ← hn2]
      exact HO.out
end Go.Proofs.Ytgpmhdefpbmhjaa.Ch
