/- extra.place: the first field of an ID (slices.IndexFunc with a closure), in the printer's form: the walk. -/
import Derived.Test.YtdlcihbfdbdbbaaWMore
import Derived.Shelf.Abstract
import Derived.Test.YtdlcihbfdbdbbaaPx0
namespace Go.Proofs.Ytdlcihbfdbdbbaa.P
set_option linter.unusedVariables false
set_option linter.unusedSimpArgs false
open Go Go.RowKit Go.Shelf Go.Proofs Go.Proofs.YtdlcihbfdbdbbaaW.PrintWords Go.Proofs.YtdlcihbfdbdbbaaW.PrintLast Go.Proofs.YtdlcihbfdbdbbaaW.PrintMore
/-- The place of the first field of an ID; -1. -/
def placeOf (l : List S38) (id : Int) : Int := match l.findIdx? (fun x => x.f0 == id) with | some j => (j : Int) | none => -1
theorem placeOf_hit (l : List S38) (id : Int) (k : Nat) (hk : k < l.length) (h : l[k].f0 = id) (hn : ∀ j (hj : j < k), (l[j]'(by omega)).f0 ≠ id) : placeOf l id = (k : Int) := by
  unfold placeOf
  rw [show l.findIdx? (fun x => x.f0 == id) = some k from List.findIdx?_eq_some_iff_getElem.2 ⟨hk, by simp [h], fun j hj => by simpa using hn j hj⟩]
theorem placeOf_miss (l : List S38) (id : Int) (hn : ∀ j (hj : j < l.length), l[j].f0 ≠ id) : placeOf l id = -1 := by
  unfold placeOf
  rw [show l.findIdx? (fun x => x.f0 == id) = none from List.findIdx?_eq_none_iff.2 (fun x hx => by
    obtain ⟨j, hj, rfl⟩ := List.mem_iff_getElem.1 hx
    simpa using hn j hj)]
set_option maxHeartbeats 4000000 in
theorem place_closure (B : Nat) (id x : Int) (y : ByteArray) (w : World) (hB : B < w.heap.size) (hcell : w.cell? ⟨B, 0, none⟩ = some (.int .u16 id)) :
    Calls Try.prog 40 #[.agg #[.int .u16 x, .string y], .pointer (some ⟨B, 0, none⟩)] w fun e w' => e = .returned (.bool (x == id)) ∧ Below w.heap.size w w' := by
  have hne : B ≠ w.heap.size := by omega
  have HW := Aside0.mk (below_alloc (Below.refl w.heap.size w) (.cells #[.int .u16 x, .string y] 38))
  go_enter Try.func40, Try.ntmps40
  go_wp2
  go_ret
  exact ⟨rfl, HW.out⟩
theorem rdT_get (l : List S38) (k : Nat) (hk : k < l.length) : rd_T38 l (k : Int) = l[k] := by
  unfold rd_T38
  rw [Int.toNat_natCast, List.getD_eq_getElem?_getD, List.getElem?_eq_getElem hk]
  rfl
set_option maxHeartbeats 4000000 in
set_option maxRecDepth 100000 in
theorem indexfunc_calls (l : List S38) (A : Option Addr) (c : Nat) (id : Int) (B : Nat) (w0 w : World) (hr : Kd.C k38 w0 A l.length l) (hw : Below w0.heap.size w0 w) (hl : l.length ≤ 1000000) (hB : B < w.heap.size) (hcell : w.cell? ⟨B, 0, none⟩ = some (.int .u16 id)) :
    Calls Try.prog 39 #[.slice A l.length c, .func (.func 40) #[] #[.pointer (some ⟨B, 0, none⟩)]] w fun e w' => e = .returned (.int .i64 (placeOf l id)) ∧ Below w.heap.size w w' := by
  have eg : ∀ args w, (callFunc 40 args).run Try.prog w = .ok (.enter 40 args) w := enters_of Try.func40 (by kernel_rfl) rfl
  have HR := Aside0.mk hr
  have HL := Aside0.mk hl
  have HB := Aside0.mk (Below.refl w.heap.size w)
  have HC := Aside0.mk hcell
  have HBB := Aside0.mk hB
  have HW := Aside0.mk hw
  clear hr hl hcell hB hw
  go_enter Try.func39, Try.ntmps39
  go_wp2
  go_loopw [5, 8] (fun _ v8 wr => ∃ k : Nat, v8 = .int .i64 k ∧ k ≤ l.length ∧ Aside0 (∀ j (hj : j < k) (h : j < l.length), l[j].f0 ≠ id) ∧ Aside0 (Below w.heap.size w wr)) (fun _ v8 _ => l.length - (intOf v8).toNat)
  case atStart => exact ⟨0, rfl, by omega, ⟨fun j hj _ => absurd hj (Nat.not_lt_zero _)⟩, HB⟩
  case round =>
    clear HB
    obtain ⟨k, rfl, hk, HN, HB⟩ := hrel
    by_cases hlt : k < l.length
    · have hd : decide (k < l.length) = true := decide_eq_true hlt
      obtain ⟨ad, e1, hx0, hx1⟩ := at_T38 HR.out (k : Int) (by omega) (by omega)
      cases e1
      rw [rdT_get l k hlt, Int.toNat_natCast] at hx0 hx1
      have hbl0 := World.block_lt_of_cell? _ _ hx0
      have hbl1 := World.block_lt_of_cell? _ _ hx1
      replace hx0 := (HW.out.cell hbl0).trans hx0
      replace hx1 := (HW.out.cell hbl1).trans hx1
      replace hx0 := (HB.out.cell (World.block_lt_of_cell? _ _ hx0)).trans hx0
      replace hx1 := (HB.out.cell (World.block_lt_of_cell? _ _ hx1)).trans hx1
      have p1 := eq_true (show (0 : Int) ≤ (k : Int) by omega)
      have q1 := eq_true (show (k : Int) < (l.length : Int) by omega)
      have hlb := HL.out
      have HC' := Aside0.mk (show wr.cell? ⟨B, 0, none⟩ = some (.int .u16 id) from (HB.out.cell (p := ⟨B, 0, none⟩) HBB.out).trans HC.out)
      have HBl := Aside0.mk (show B < wr.heap.size from Nat.lt_of_lt_of_le HBB.out HB.out.size)
      obtain ⟨x, y, hxy⟩ : ∃ x y, l[k] = (⟨x, y⟩ : S38) := ⟨_, _, rfl⟩
      rw [hxy] at hx0 hx1
      dsimp only at hx0 hx1
      have HX := Aside0.mk (show l[k].f0 = x by rw [hxy])
      clear hxy hbl0 hbl1
      cases hq : (x == id) with
      | true =>
        have HQ := Aside0.mk hq
        have hcl := place_closure B id x y wr HBl.out HC'.out
        rw [hq] at hcl
        clear hq
        go_wp2_with (go_at_fn 40; refine hcl.mono ?_; rintro e w1 ⟨rfl, hb⟩; have HB1 := Aside0.mk (HB.out.trans (hb.mono HB.out.size)); clear hb)
        go_ret
        refine ⟨?_, HB1.out⟩
        rw [placeOf_hit l id k hlt (by rw [HX.out]; exact beq_iff_eq.1 HQ.out) (fun j hj => HN.out j hj (by omega))]
        rfl
      | false =>
        have HQ := Aside0.mk hq
        have hcl := place_closure B id x y wr HBl.out HC'.out
        rw [hq] at hcl
        clear hq
        go_wp2_with (go_at_fn 40; refine hcl.mono ?_; rintro e w1 ⟨rfl, hb⟩; have HB1 := Aside0.mk (HB.out.trans (hb.mono HB.out.size)); clear hb)
        go_roundw
        case rel =>
          refine ⟨k + 1, by go_num, by omega, ⟨fun j hj h => ?_⟩, HB1⟩
          by_cases e : j = k
          · subst e; rw [HX.out]; exact beq_eq_false_iff_ne.1 HQ.out
          · exact HN.out j (by omega) h
        case measure => simp [intOf]; omega
    · have hd : decide (k < l.length) = false := decide_eq_false hlt
      have hke : k = l.length := by omega
      go_wp2
      go_ret
      refine ⟨?_, HB.out⟩
      rw [placeOf_miss l id (fun j hj => HN.out j (by omega) hj)]
      rfl
def extra_place.f (l0 : List S38) (a1 : Int) : Option Int := if l0.length ≤ 1000000 then some (placeOf l0 a1) else none
set_option maxHeartbeats 4000000 in
theorem extra_place.calls (A0 : Option Addr) (c0 : Nat) (l0 : List S38) (a1 : Int) (r : Int) (w : World) (hr0 : Kd.C k38 w A0 l0.length l0) (hc0 : l0.length ≤ c0) (h : extra_place.f l0 a1 = some r) :
    Calls Try.prog 32 #[.slice A0 l0.length c0, .int .u16 a1] w fun e w' => e = .returned (.int .i64 r) ∧ Below w.heap.size w w' := by
  unfold extra_place.f at h
  by_cases hl : l0.length ≤ 1000000
  case neg => rw [if_neg hl] at h; cases h
  rw [if_pos hl] at h
  obtain rfl := Option.some.inj h
  have hcon := indexfunc_calls l0 A0 c0 a1 w.heap.size w (w.alloc (.cells #[.int .u16 a1] 36)) hr0 (below_alloc (Below.refl w.heap.size w) _) hl (by simp) (by simp)
  have HH := Aside0.mk hcon
  have HB := Aside0.mk (below_alloc (Below.refl w.heap.size w) (.cells #[.int .u16 a1] 36))
  clear hcon hr0 hc0 h hl
  go_enter Try.func32, Try.ntmps32
  go_wp2_with (go_at_call 39; refine HH.out.mono ?_; rintro e w1 ⟨rfl, hb⟩; have HB1 := Aside0.mk (HB.out.trans (hb.mono HB.out.size)); clear hb)
  go_ret
  exact ⟨rfl, HB1.out⟩
end Go.Proofs.Ytdlcihbfdbdbbaa.P
