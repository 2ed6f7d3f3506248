/- extra.Print: fields' bytes, by a strings.Builder: the walk. -/
import Derived.Test.YtdlcihbfdbdbbaaBuildLen
import Derived.Test.YtdlcihbfdbdbbaaNumO2
import Derived.Test.YtdlcihbfdbdbbaaPx6
namespace Go.Proofs.Ytdlcihbfdbdbbaa.P
set_option linter.unusedVariables false
set_option linter.unusedSimpArgs false
open Go Go.RowKit Go.Proofs.Ytdlcihbfdbdbbaa.B Go.Proofs.Ytdlcihbfdbdbbaa.Num Go.Proofs.Ytdlcihbfdbdbbaa.Sb Go.Proofs.YtdlcihbfdbdbbaaW.PrintWords Go.Proofs.YtdlcihbfdbdbbaaW.PrintLast Go.Proofs.YtdlcihbfdbdbbaaW.PrintMore

/-- One field's bytes. -/
def fieldB (f : S38) : List UInt8 := ofN 2 f.f0.toNat ++ ofN 2 f.f1.size ++ f.f1.data.toList
def extraGo : List S38 → List UInt8 → ByteArray × Int
  | [], acc => (strN acc, 0)
  | f :: r, acc => if 65535 < f.f1.size then (⟨#[]⟩, 5) else if 65535 < (acc ++ fieldB f).length then (⟨#[]⟩, 5) else extraGo r (acc ++ fieldB f)
def extra_Print.f (l : List S38) : Option (ByteArray × Int) := if ∀ x ∈ l, 0 ≤ x.f0 ∧ x.f0 < 65536 then some (extraGo l []) else none
theorem fieldB_len (f : S38) : (fieldB f).length = 4 + f.f1.size := by
  unfold fieldB
  rw [List.length_append, List.length_append, ofN_length, ofN_length]
  rfl
set_option maxHeartbeats 4000000 in
set_option maxRecDepth 100000 in
theorem extra_Print.calls (A0 : Option Addr) (c0 : Nat) (l0 : List S38) (r1 : ByteArray) (r2 : Int) (w : World) (hr0 : Kd.C k38 w A0 l0.length l0) (hc0 : l0.length ≤ c0) (h : extra_Print.f l0 = some (r1, r2)) :
    Calls Try.prog 10 #[.slice A0 l0.length c0] w fun e w' => e = .returned (.tuple #[.string r1, .int .i64 r2]) ∧ Below w.heap.size w w' := by
  unfold extra_Print.f at h
  split at h
  case isFalse => cases h
  case isTrue hrange =>
  have hres : extraGo l0 [] = (r1, r2) := Option.some.inj h
  clear h
  have HC := Aside0.mk hr0
  have HRES := Aside0.mk hres
  have hl63 : l0.length ≤ 9223372036854775807 := hr0.2.1
  clear hr0 hres
  have HB := Aside0.mk (below_alloc (Below.refl w.heap.size w) (.cells #[.pointer none, .slice none 0 0] 60))
  have HI := Aside0.mk (has_fresh w)
  go_enter Try.func10, Try.ntmps10
  go_wp2
  go_loopw [9] (fun v9 wr => ∃ (j : Nat) (acc : List UInt8), v9 = .int .i64 j ∧ j ≤ l0.length ∧ acc.length ≤ 65535 ∧ Aside0 (extraGo (l0.drop j) acc = (r1, r2)) ∧ Aside0 (Has w.heap.size w.heap.size acc wr) ∧ Aside0 (Below w.heap.size w wr))
    (fun v _ => l0.length - (intOf v).toNat)
  case atStart => exact ⟨0, [], rfl, by omega, by simp, HRES, HI, HB⟩
  case round =>
    clear HI HB HRES
    obtain ⟨j, acc, rfl, hj, hacc, HRES, HI, HB⟩ := hrel
    by_cases hlt : j < l0.length
    · have hd : decide (j < l0.length) = true := decide_eq_true hlt
      obtain ⟨ad, hA, hc0, hc1⟩ := at_T38 (Kd.C_below HC.out HB.out) (j : Int) (by omega) (by omega)
      subst hA
      have hg : rd_T38 l0 (j : Int) = l0[j] := by unfold rd_T38; rw [List.getD_eq_getElem?_getD, Int.toNat_natCast, List.getElem?_eq_getElem hlt]; rfl
      rw [hg] at hc0 hc1
      simp only [Int.toNat_natCast] at hc0 hc1
      obtain ⟨hx0, hx1⟩ := hrange _ (List.getElem_mem hlt)
      have hdrop : l0.drop j = l0[j] :: l0.drop (j + 1) := List.drop_eq_getElem_cons hlt
      have hres := HRES.out
      rw [hdrop] at hres
      obtain ⟨t, ht⟩ : ∃ t, l0[j] = t := ⟨_, rfl⟩
      rw [ht] at hc0 hc1 hx0 hx1 hres
      obtain ⟨f0, f1⟩ := t
      simp only at hc0 hc1 hx0 hx1 hres
      obtain ⟨x, rfl⟩ : ∃ x : Nat, f0 = (x : Int) := ⟨f0.toNat, by omega⟩
      unfold extraGo at hres
      simp only at hres
      have HR2 := Aside0.mk hres
      have HX := Aside0.mk (show x < 65536 by omega)
      clear hg ht hdrop HRES hres hx0 hx1 hrange
      go_upto_region 5 with (fail)
      have H6 := Aside0.mk (heap_alloc_new wr (.cells #[.int .u16 (x : Int), .string f1] 38))
      have HI6 := Aside0.mk (has_below HI.out (below_alloc (Below.refl wr.heap.size wr) (.cells #[.int .u16 (x : Int), .string f1] 38)))
      have HB6 := Aside0.mk (below_alloc HB.out (.cells #[.int .u16 (x : Int), .string f1] 38))
      have hg6 := (has_lt HI.out).2
      generalize hW : wr.alloc (.cells #[.int .u16 (x : Int), .string f1] 38) = wx at H6 HI6 HB6 ⊢
      obtain ⟨g6, hg⟩ : ∃ g, wr.heap.size = g := ⟨_, rfl⟩
      rw [hg] at H6 hg6 ⊢
      have hc0 := blk_cell H6.out 0
      have hc1 := blk_cell H6.out 1
      clear hW hg
      by_cases hbig : 65535 < f1.size
      · obtain ⟨rfl, rfl⟩ : (⟨#[]⟩ : ByteArray) = r1 ∧ 5 = r2 := by have hres := HR2.out; rw [if_pos hbig] at hres; simpa using hres
        clear HR2
        have hd5 : decide (65535 < f1.size) = true := decide_eq_true hbig
        go_wp2
        first | go_ret2 | go_ret
        exact ⟨rfl, HB6.out⟩
      have hd5 : decide (65535 < f1.size) = false := decide_eq_false hbig
      go_upto_region 7 with (fail)
      have HT1 := Aside0.mk (two_eq x (by have := HX.out; omega) 65 (by omega))
      have HT2 := Aside0.mk (two_eq f1.size (by omega) 65 (by omega))
      have hw : IntKind.u16.wrap ((f1.size : Nat) : Int) = ((f1.size : Nat) : Int) := by rw [u16_mod]; omega
      have s1 : (strN (ofN 2 x)).size = 2 := ofN_length 2 x
      have s2 : (strN (ofN 2 f1.size)).size = 2 := ofN_length 2 f1.size
      have hq0 := eq_true (show (strN (ofN 2 x)).size + (strN (ofN 2 f1.size)).size ≤ 9223372036854775807 by omega)
      have hq3 : (9223372036854775807 < (strN (ofN 2 x)).size + (strN (ofN 2 f1.size)).size) = False := eq_false (by omega)
      have hq1 := eq_true (show (strN (ofN 2 x)).size + (strN (ofN 2 f1.size)).size + f1.size ≤ 9223372036854775807 by omega)
      have hq2 : (9223372036854775807 < (strN (ofN 2 x)).size + (strN (ofN 2 f1.size)).size + f1.size) = False := eq_false (by omega)
      have hnew : ((strN (ofN 2 x) ++ strN (ofN 2 f1.size)) ++ f1).data.toList = fieldB ⟨(x : Int), f1⟩ := by simp [fieldB, strN]
      have HNEW := Aside0.mk hnew
      have HS3 := Aside0.mk (show ((strN (ofN 2 x) ++ strN (ofN 2 f1.size)) ++ f1).size ≤ 65539 + 4 by rw [ByteArray.size_append, ByteArray.size_append, s1, s2]; omega)
      clear hnew s1 s2
      go_region_held3 (fun W' => W'.heap[g6]? = some (.cells #[.int .u16 (x : Int), .string f1] 38 (0, 0)) ∧ W'.cell? ⟨g6, 0, none⟩ = some (.int .u16 (x : Int)) ∧ W'.cell? ⟨g6, 1, none⟩ = some (.string f1))
        (first | exact ⟨H6.out, blk_cell H6.out 0, blk_cell H6.out 1⟩ | exact ⟨H6a.out, blk_cell H6a.out 0, blk_cell H6a.out 1⟩)
        (first
          | (go_at_call 28; refine (cursor_Two.calls 65 _ _ _ HT1.out).mono ?_; rintro e w1 ⟨rfl, hb⟩; have H6a := Aside0.mk (blk_below (by exact H6.out) hb); have HI6a := Aside0.mk (has_below (by exact HI6.out) hb); have HB6a := Aside0.mk (below_step (by first | exact HB6.out | exact HB6.out.drew) hb))
          | (go_at_call 28; refine (cursor_Two.calls 65 _ _ _ HT2.out).mono ?_; rintro e w1 ⟨rfl, hb⟩; have H6 := Aside0.mk (blk_below (by exact H6a.out) hb); have HI6 := Aside0.mk (has_below (by exact HI6a.out) hb); have HB6 := Aside0.mk (below_step (by first | exact HB6a.out | exact HB6a.out.drew) hb))
          | (go_at_call 27; refine (writeK_calls w.heap.size w.heap.size acc _ _ HI6.out (by have := HS3.out; omega) (by have := HB6.out.size; exact this)).mono ?_; rintro e w2 ⟨rfl, hat, hb, ho⟩; have H6a := Aside0.mk (oth_blk ho H6.out (by omega) (by decide)); have HI7 := Aside0.mk hat; have HB7 := Aside0.mk ((by first | exact HB6.out | exact HB6.out.drew : Below w.heap.size w _).trans hb)))
      have hi7 := HI7.out
      rw [HNEW.out] at hi7
      have HI8 := Aside0.mk hi7
      have hlen := fieldB_len ⟨(x : Int), f1⟩
      obtain ⟨nw, hnw⟩ : ∃ nw, acc ++ fieldB ⟨(x : Int), f1⟩ = nw := ⟨_, rfl⟩
      have hr := HR2.out
      rw [if_neg hbig, hnw] at hr
      rw [hnw] at HI8
      clear hi7 HI7 HI6 HI6a HB6 HB6a H6 H6a HR2
      by_cases hb2 : 65535 < nw.length
      · rw [if_pos hb2] at hr
        obtain ⟨rfl, rfl⟩ : (⟨#[]⟩ : ByteArray) = r1 ∧ 5 = r2 := by simpa using hr
        clear hr
        have hd8 : decide (65535 < nw.length) = true := decide_eq_true hb2
        go_wp2_with (go_at_call 29; refine (len_calls w.heap.size w.heap.size _ _ HI8.out).mono ?_; rintro e w3 ⟨rfl, rfl⟩)
        first | go_ret2 | go_ret
        exact ⟨rfl, HB7.out⟩
      have hd8 : decide (65535 < nw.length) = false := decide_eq_false hb2
      rw [if_neg hb2] at hr
      have HR3 := Aside0.mk hr
      clear hr
      go_wp2_with (go_at_call 29; refine (len_calls w.heap.size w.heap.size _ _ HI8.out).mono ?_; rintro e w3 ⟨rfl, rfl⟩)
      go_roundw
      case rel => exact ⟨j + 1, nw, by go_num, by omega, by omega, HR3, HI8, HB7⟩
      case measure => simp [intOf]; omega
    · have hd : decide (j < l0.length) = false := decide_eq_false hlt
      obtain rfl : j = l0.length := by omega
      have hr := HRES.out
      rw [List.drop_length] at hr
      obtain ⟨rfl, rfl⟩ : strN acc = r1 ∧ 0 = r2 := by simpa [extraGo] using hr
      clear hr HRES
      go_wp2_with (go_at_call 30; refine (stringK_calls w.heap.size w.heap.size _ _ HI.out (by have := HB.out.size; exact this)).mono ?_; rintro e w2 ⟨rfl, hat, hb, ho⟩; have HB2 := Aside0.mk (HB.out.trans hb); clear hb)
      first | go_ret2 | go_ret
      exact ⟨rfl, HB2.out⟩
end Go.Proofs.Ytdlcihbfdbdbbaa.P
