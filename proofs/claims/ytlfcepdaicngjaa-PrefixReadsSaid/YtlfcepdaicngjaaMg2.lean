/- Several texts in one (merge.py): append to a full slice that came in: a new row of the call's own.; append([]byte, s...) of a row of the call's own, s a text: where the new row lies, too.; prefix.New where it gives none: the walks.; The chapter's example: the walk.; Plain facts on bytes, little-endian numbers and 64-bit words: no program in sight.; Bits as numbers: bytes, the lowest first; what one step of writing does. Plain Lean.; bits.Reader: Peek and Skip where nothing is wrong. Plain Lean.; portmanteauref03.Bit: a bit of some bytes; texts of bits, one by one. Plain Lean.; bits.Writer: its methods on a number of so many bits.; bits.Writer: Len and Done, without its other methods.; prefix.Code: its methods goes and Length: the walks.; prefix.New at any lengths: one contract.; What the data of a law's argument say of the memory: for any type that is made of whole numbers, bools, strings, structs and slices.; prefix.Code: Length and Sign: the walks.; Bits in the other order. Plain Lean.; prefix.Code: Put: the walk.; portmanteauref04.Sign: the walk. Printed by genrefsign4.py.; Plain: both Signs answer the same.; What New answers, exactly: the program's and the reference's.; portmanteauref03.Writer: its methods: bits, one by one.; portmanteauref04.Put: the walks.; portmanteauref03.Writer: Done: its bits as bytes.; Two writers of bits, of one kind each, that share no row. -/
import Derived.Test.YtlfcepdaicngjaaWMore
import Derived.Test.YtlfcepdaicngjaaWZeros
import Derived.ArgAppend
import Derived.Lib.AppendZerosOnto
import Derived.Maps.AppendAt
import Derived.Test.YtlfcepdaicngjaaMg1
import Derived.Lib.AppendStr
import Derived.Laws.BitsLemmas
import Derived.Test.YtlfcepdaicngjaaPx2
import Derived.Test.YtlfcepdaicngjaaPx3
import Derived.Test.YtlfcepdaicngjaaPx4
import Derived.Test.YtlfcepdaicngjaaPx5
import Derived.Test.YtlfcepdaicngjaaPx9
import Derived.Test.YtlfcepdaicngjaaPx0
import Derived.StillTailTactics
import Derived.ChangeArms
import Derived.DataReads
import Derived.SizedLaws
import Derived.WideShapes
import Derived.Test.YtlfcepdaicngjaaPx1
import Derived.Test.YtlfcepdaicngjaaPx6
import Derived.Test.YtlfcepdaicngjaaPx8
/- append to a full slice that came in: a new row of the call's own. -/
namespace Go.Proofs.Ytlfcepdaicngjaa.Full
set_option linter.unusedVariables false
set_option linter.unusedSimpArgs false
open Go Go.RowKit Go.Proofs.YtlfcepdaicngjaaW.PrintWords Go.Proofs.YtlfcepdaicngjaaW.PrintLast Go.Proofs.YtlfcepdaicngjaaW.PrintMore
section
variable {α : Type} {d : Kd α} {w : World} {ad : Addr} {n : Nat} {xs : List α}
theorem reps_of (h : ∀ j p, xs[j]? = some p → ∃ c, c.length = d.sz ∧ d.K w p c ∧ ∀ i u, c[i]? = some u → w.cell? (ad.add (j * d.sz + i)) = some u) :
    ∃ olds, olds.length = xs.length * d.sz ∧ (∀ j u, olds[j]? = some u → w.cell? (ad.add j) = some u) ∧ Reps (d.K w) d.sz xs olds := by
  have key : ∀ m, m ≤ xs.length → ∃ olds, olds.length = m * d.sz ∧ (∀ j u, olds[j]? = some u → w.cell? (ad.add j) = some u) ∧ Reps (d.K w) d.sz (xs.take m) olds := by
    intro m
    induction m with
    | zero => intro _; exact ⟨[], by simp, by simp, by rw [List.take_zero]; exact Reps.none _ _⟩
    | succ m ih =>
      intro hm
      obtain ⟨olds, hl, hc, hr⟩ := ih (by omega)
      obtain ⟨c, hcl, hk, hcc⟩ := h m xs[m] (List.getElem?_eq_getElem (by omega))
      refine ⟨olds ++ c, by rw [List.length_append, hl, hcl, Nat.add_mul, Nat.one_mul], ?_, ?_⟩
      · intro j u hj
        by_cases h1 : j < olds.length
        · rw [List.getElem?_append_left h1] at hj
          exact hc j u hj
        · rw [List.getElem?_append_right (by omega)] at hj
          have := hcc _ u hj
          rw [hl] at this
          rwa [show m * d.sz + (j - m * d.sz) = j by omega] at this
      · rw [List.take_succ_eq_append_getElem (by omega)]
        exact Reps.snoc hr hk hcl
  obtain ⟨olds, hl, hc, hr⟩ := key xs.length (Nat.le_refl _)
  rw [List.take_length] at hr
  exact ⟨olds, hl, hc, hr⟩
/-- The old cells, as append reads them. -/
theorem olds_of {A : Option Addr} (h : d.C w A xs.length xs) : ∃ olds, olds.length = xs.length * d.sz ∧ Reps (d.K w) d.sz xs olds ∧ ∀ (P : Program) (cap : Nat), (Builtin.firstCells d.sz xs.length (.slice A xs.length cap)).run P w = .ok olds.toArray w ∧ (Builtin.firstCells d.sz xs.length (.slice A xs.length cap)).run P w.drew = .ok olds.toArray w.drew := by
  rcases Nat.eq_zero_or_pos xs.length with h0 | h0
  · have he : xs = [] := List.length_eq_zero_iff.1 h0
    subst he
    refine ⟨[], by simp, Reps.none _ _, fun P cap => ?_⟩
    rcases A with _ | b
    · exact ⟨run_firstCells_none _ _ _ _ _, run_firstCells_none _ _ _ _ _⟩
    · exact ⟨run_firstCells_some (P := P) w d.sz 0 b 0 cap [] (by simp) (by simp), run_firstCells_some (P := P) w.drew d.sz 0 b 0 cap [] (by simp) (by simp)⟩
  · obtain ⟨ad, rfl, hc⟩ := h.2.2 h0
    obtain ⟨olds, hl, hcell, hr⟩ := reps_of hc
    exact ⟨olds, hl, hr, fun P cap => ⟨run_firstCells_some (P := P) w d.sz xs.length ad xs.length cap olds hl hcell, run_firstCells_some (P := P) w.drew d.sz xs.length ad xs.length cap olds hl hcell⟩⟩
theorem reps_replicate {R : α → List Value → Prop} {size : Nat} {z : α} {c : List Value} (hz : R z c) (hc : c.length = size) : ∀ k, Reps R size (List.replicate k z) (List.replicate k c).flatten
  | 0 => Reps.none _ _
  | k + 1 => by
    rw [List.replicate_succ', List.replicate_succ', List.flatten_append]
    simpa using Reps.snoc (reps_replicate hz hc k) hz hc
theorem reps_append {R : α → List Value → Prop} {size : Nat} {xs ys : List α} {cs ds : List Value} (h : Reps R size xs cs) (k : Reps R size ys ds) : Reps R size (xs ++ ys) (cs ++ ds) := by
  refine ⟨by rw [List.length_append, h.1, k.1, List.length_append, Nat.add_mul], fun j p hj => ?_⟩
  rcases Nat.lt_or_ge j xs.length with h1 | h1
  · rw [List.getElem?_append_left h1] at hj
    have h2 : j * size + size ≤ cs.length := by rw [h.1, ← Nat.succ_mul]; exact Nat.mul_le_mul_right _ h1
    have h3 := h.2 j p hj
    rw [List.drop_append_of_le_length (by omega), List.take_append_of_le_length (by rw [List.length_drop]; omega)]
    exact h3
  · rw [List.getElem?_append_right h1] at hj
    have h3 := k.2 _ p hj
    have h4 : j * size = cs.length + (j - xs.length) * size := by rw [h.1, ← Nat.add_mul]; congr 1; omega
    rw [h4, ← List.drop_drop, List.drop_left]
    exact h3
/-- append(xs[:n:n], make([]T, k)...) of a slice that came in. -/
theorem grow_zeros {P : Program} (t tn ty e : TypeId) (kq kn : IntKind) (z : Value) (bytes : Nat) (ht : P.underlying t = some (.slice e)) (htn : P.underlying tn = some (.int kn))
    (hinfo : (P.info? e).map (fun i => (i.zero, i.size, i.bytes)) = some (some z, d.sz, bytes)) (hzs : z.cells.size = d.sz) (hs0 : 0 < d.sz) (z0 : α) (hz0 : d.K w z0 z.cells.toList)
    (hflat : ∀ {x : α} {cs : List Value} {w1 : World} {base : Nat} {ok : Nat → Prop}, d.K w x cs → d.M w1 base ok x cs)
    {A : Option Addr} (h : d.C w A xs.length xs) (cap k : Nat) (h0 : 0 < k) (hg : cap < xs.length + k) (hb : (xs.length + k) * bytes ≤ 140737488355328) (hb0 : 0 < bytes) :
    ∃ v' w', (Builtin.append_ #[t, tn] ty #[.slice A xs.length cap, .int kq (k : Int)]).run P w = .ok v' w' ∧ d.R e w' w.heap.size (fun _ => True) v' (xs ++ List.replicate k z0) ∧ Below w.heap.size w w' := by
  obtain ⟨i, hi, hzz⟩ := Option.map_eq_some_iff.1 hinfo
  simp only [Prod.mk.injEq] at hzz
  obtain ⟨hz, hsz, hby⟩ := hzz
  obtain ⟨olds, hlo, hr, hfc⟩ := olds_of h
  have hle : xs.length + k ≤ 140737488355328 := Nat.le_trans (Nat.le_mul_of_pos_right _ hb0) hb
  have hfc' : (Builtin.firstCells i.size xs.length (.slice A xs.length cap)).run P w.drew = .ok olds.toArray w.drew := by
    rw [hsz]
    exact (hfc P cap).2
  have hrun := Go.Lib.run_append_grow_zeros (P := P) w t tn ty e i z kq kn ht htn hi hz A xs.length cap olds hfc' k h0 (by rw [hsz]; exact hs0) hg (by omega)
    (by rw [hby]; exact Nat.le_trans (Nat.mul_le_mul_right bytes (Nat.le_add_left k xs.length)) (by omega)) (growslice_fits hg (by rw [hby]; exact hb))
  have hge := grownCap_ge w (xs.length + k) cap e
  have hcm : grownCap w (xs.length + k) cap e ≤ maxLen := grownCap_le_maxLen w (xs.length + k) cap e (by unfold maxLen; omega)
  have hzl : (Builtin.zeroCells z.cells k).toList.length = k * d.sz := by rw [Array.length_toList, size_zeroCells, hzs]
  refine ⟨_, _, hrun, ⟨fun _ _ => trivial, olds ++ (Builtin.zeroCells z.cells k).toList, ?_, ?_⟩, ?_⟩
  · have hlen : (olds ++ (Builtin.zeroCells z.cells k).toList).length = (xs.length + k) * d.sz := by rw [List.length_append, hlo, hzl, Nat.add_mul]
    rw [List.length_append, List.length_replicate]
    refine ⟨hlen, .inr ⟨w.heap.size, _, _, rfl, Nat.le_refl _, heap_alloc_new w.drew _, hge, hcm, ?_, ?_⟩⟩
    · simp only [Array.size_append, List.size_toArray, size_zeroCells, hzs, hlo, ← Nat.add_mul]
      congr 1
      omega
    · simp only [Array.toList_append, List.append_assoc]
      rw [← List.append_assoc, ← hlen]
      exact List.take_left
  · exact (reps_append hr (Kd.reps_zeros hzs hs0 hz0 k)).imp_ (fun _ _ hp => hflat hp)
  · exact below_alloc (below_drew1 (Below.refl _ _)) _
/-- A row whose cells stand somewhere is read there. -/
theorem C_of_reps {cs : List Value} (hc : ∀ j u, cs[j]? = some u → w.cell? (ad.add j) = some u) (hr : Reps (d.K w) d.sz xs cs) (hl : xs.length ≤ 9223372036854775807) : d.C w (some ad) xs.length xs := by
  refine ⟨rfl, hl, fun _ => ⟨ad, rfl, fun j p hj => ?_⟩⟩
  have hjl : j < xs.length := (List.getElem?_eq_some_iff.1 hj).1
  have h2 : j * d.sz + d.sz ≤ cs.length := by rw [hr.1, ← Nat.succ_mul]; exact Nat.mul_le_mul_right _ hjl
  refine ⟨(cs.drop (j * d.sz)).take d.sz, by rw [List.length_take, List.length_drop]; omega, hr.2 j p hj, fun i u hi => ?_⟩
  have hid : i < d.sz := by have := (List.getElem?_eq_some_iff.1 hi).1; rw [List.length_take] at this; omega
  rw [List.getElem?_take, if_pos hid, List.getElem?_drop] at hi
  exact hc _ u hi
/-- The cells of a new block. -/
theorem cells_new (W : World) (cs : List Value) (e : TypeId) : ∀ j u, cs[j]? = some u → (W.alloc (.cells cs.toArray e)).cell? ((⟨W.heap.size, 0, none⟩ : Addr).add j) = some u := by
  intro j u hj
  have h0 : (⟨W.heap.size, 0, none⟩ : Addr).add j = ⟨W.heap.size, j, none⟩ := by
    unfold Addr.add
    by_cases h : j = 0
    · simp [h]
    · simp [h]
  rw [h0]
  simp [hj]
/-- append(xs[:n:n], x) of a slice that came in. -/
theorem grow_one {P : Program} (t ty e : TypeId) (z : Value) (bytes : Nat) (ht : P.underlying t = some (.slice e))
    (hinfo : (P.info? e).map (fun i => (i.zero, i.size, i.bytes)) = some (some z, d.sz, bytes)) (hzs : z.cells.size = d.sz) (hs0 : 0 < d.sz)
    (hflat : ∀ {x : α} {cs : List Value} {w1 : World} {base : Nat} {ok : Nat → Prop}, d.K w x cs → d.M w1 base ok x cs)
    {A : Option Addr} (h : d.C w A xs.length xs) (b : Addr) (c : Nat) (x : α) (news : List Value) (hn : news.length = d.sz) (hnews : ∀ j u, news[j]? = some u → w.cell? (b.add j) = some u) (hx : d.K w x news)
    (h1 : ∀ u ∈ news, u.oneCell' = true) (hb : (xs.length + 1) * bytes ≤ 140737488355328) (hb0 : 0 < bytes) :
    ∃ v' w', (Builtin.append_ #[t, t] ty #[.slice A xs.length xs.length, .slice (some b) 1 c]).run P w = .ok v' w' ∧ d.R e w' w.heap.size (fun _ => True) v' (xs ++ [x]) ∧ Below w.heap.size w w' := by
  obtain ⟨i, hi, hzz⟩ := Option.map_eq_some_iff.1 hinfo
  simp only [Prod.mk.injEq] at hzz
  obtain ⟨hz, hsz, hby⟩ := hzz
  have hle : xs.length + 1 ≤ 140737488355328 := Nat.le_trans (Nat.le_mul_of_pos_right _ hb0) hb
  have done : ∀ (v' : Value) (w' : World) (olds : List Value), olds.length = xs.length * d.sz → Reps (d.K w) d.sz xs olds → w'.ownsRow w.heap.size e d.sz v' (xs.length + 1) (olds ++ news) → Below w.heap.size w w' →
      d.R e w' w.heap.size (fun _ => True) v' (xs ++ [x]) ∧ Below w.heap.size w w' := fun v' w' olds hlo hr how hbw =>
    ⟨⟨fun _ _ => trivial, olds ++ news, by rw [List.length_append, List.length_singleton]; exact how, (Reps.snoc hr hx hn).imp_ (fun _ _ hp => hflat hp)⟩, hbw⟩
  rcases A with _ | ad
  · have hx0 : xs = [] := by
      rcases Nat.eq_zero_or_pos xs.length with h0 | h0
      · exact List.length_eq_zero_iff.1 h0
      · obtain ⟨ad, he, _⟩ := h.2.2 h0; cases he
    subst hx0
    obtain ⟨v', w', hrun, how, hg, _, _⟩ := run_append_own_at (P := P) w w.heap.size t ty e i z d.sz bytes ht hi hz hsz hby hzs hs0 (.slice none 0 0) 0 [] (World.ownsRow_nil _ _ _ _) b 1 c news (by rw [hn]; omega) hnews h1 (by unfold maxLen; omega) hb (Nat.le_refl _)
    obtain ⟨r1, r2⟩ := done v' w' [] (by simp) (Reps.none _ _) how (pw_below_grown (Below.refl _ _) none (Nat.le_refl _) hg (fun k hk => by cases hk))
    exact ⟨v', w', hrun, r1, r2⟩
  · obtain ⟨olds, hlo, hr, hc⟩ : ∃ olds, olds.length = xs.length * d.sz ∧ Reps (d.K w) d.sz xs olds ∧ ∀ j u, olds[j]? = some u → w.cell? (ad.add j) = some u := by
      rcases Nat.eq_zero_or_pos xs.length with h0 | h0
      · have he : xs = [] := List.length_eq_zero_iff.1 h0
        subst he
        exact ⟨[], by simp, Reps.none _ _, by simp⟩
      · obtain ⟨ad2, he, hc⟩ := h.2.2 h0
        cases he
        obtain ⟨olds, hl, hcell, hr⟩ := reps_of hc
        exact ⟨olds, hl, hr, hcell⟩
    obtain ⟨v', w', hrun, how, hg⟩ := run_append_arg_grows (P := P) w t ty e i z d.sz bytes ht hi hz hsz hby hzs hs0 ad xs.length xs.length olds hlo hc b 1 c news (by rw [hn]; omega) hnews (by omega) (by unfold maxLen; omega) hb
    obtain ⟨r1, r2⟩ := done v' w' olds hlo hr how (pw_below_grown (Below.refl _ _) none (Nat.le_refl _) hg (fun k hk => by cases hk))
    exact ⟨v', w', hrun, r1, r2⟩
end
section
variable {P : Program} {ops : Array Oper} {rest : List Oper} {o : Oper} {a : Act} {Q : Exit → Act → World → Prop}
/-- append, whose run is known. -/
theorem wpList_append_run {W : World} (hgd : o.guard = none) (s x : Operand) (t tx : TypeId) (ho : o.op = .call { callee := .builtin .append, args := #[s, x], argTypes := #[t, tx] }) (v u v1 : Value) (w1 : World) (hs : a.eval s = v) (hx : a.eval x = u)
    (hrun : (Builtin.append_ #[t, tx] o.type #[v, u]).run P W = .ok v1 w1) (h : wpList P ops Q rest (a.put o.dst v1) w1) : wpList P ops Q (o :: rest) a W := by
  refine wpList_plain hgd fun K hK => ?_
  unfold Oper.wp execOp
  simp only [ho, resolve, invoke, builtin, Sem.run_bind, Sem.run_pure, Result.andThen_ok, List.map_toArray, List.map_cons, List.map_nil, hs, hx, hrun]
  exact hK _ _ h
end
end Go.Proofs.Ytlfcepdaicngjaa.Full

/- append([]byte, s...) of a row of the call's own, s a text: where the new row lies, too. -/
namespace Go.Proofs.Ytlfcepdaicngjaa.Hd
set_option linter.unusedVariables false
set_option linter.unusedSimpArgs false
open Go Go.RowKit Go.Proofs.YtlfcepdaicngjaaW.PrintWords Go.Proofs.YtlfcepdaicngjaaW.PrintLast Go.Proofs.YtlfcepdaicngjaaW.PrintMore
theorem append_str_at {P : Program} (w : World) (base : Nat) (t u ty e : TypeId) (i : TypeInfo) (ht : P.underlying t = some (.slice e)) (hu : P.underlying u = some .string) (hi : P.info? e = some i) (hz : i.zero = some (.int .u8 0))
    (hsize : i.size = 1) (hby : i.bytes = 1) (v : Value) (n : Nat) (xs : List Value) (hown : w.ownsRow base e 1 v n xs) (s : ByteArray) (hbytes : n + s.size ≤ 140737488355328) (hbase : base ≤ w.heap.size) :
    ∃ v' w', (Builtin.append_ #[t, u] ty #[v, .string s]).run P w = .ok v' w' ∧ w'.ownsRow base e 1 v' (n + s.size) (xs ++ Lib.strCells s) ∧ w.grownBy w' v.ownBlock ∧ (v'.ownBlock = v.ownBlock ∨ ∃ b, v'.ownBlock = some b ∧ w.heap.size ≤ b) := by
  obtain ⟨v', w', hrun, how, hg, hnil⟩ := Lib.run_append_own_string (P := P) w base t u ty e i ht hu hi hz hsize hby v n xs hown s (by unfold maxLen; omega) hbytes hbase
  refine ⟨v', w', hrun, how, hg, ?_⟩
  have hxl : xs.length = n := by simpa using hown.1
  rcases hown.2 with ⟨rfl, rfl⟩ | ⟨g, cap, cur, rfl, hbg, hgc, hnc, hcm, hcs, htake⟩
  · by_cases hm : s.size = 0
    · left; rw [hnil.2 ⟨rfl, hm⟩]
    · have hr := run_append_nil_string (P := P) w t u ty e i (.int .u8 0) ht hu hi hz s (by omega) (by omega) (by rw [hby]; omega)
      rw [hr] at hrun
      injection hrun with h1 h2
      exact .inr ⟨w.heap.size, by rw [← h1]; rfl, Nat.le_refl _⟩
  · by_cases hroom : n + s.size ≤ cap
    · have hcs' : cur.size = cap := by simpa using hcs
      have hr := Lib.run_append_room_string (P := P) w t u ty e i ht hu hi hsize g n cap cur hgc s hroom (by omega)
      rw [hr] at hrun
      injection hrun with h1 h2
      left; rw [← h1]; rfl
    · have holds : ∀ j u, xs[j]? = some u → w.cell? ((⟨g, 0, none⟩ : Addr).add j) = some u := World.ownsRow.cells hown (g := g) rfl
      have hr := Lib.run_append_grow_string (P := P) w t u ty e i (.int .u8 0) ht hu hi hz ⟨g, 0, none⟩ n cap xs (by rw [hsize]; simpa using hxl) holds s (by omega) (by omega) (by rw [hby]; exact growslice_fits (by omega) (by omega))
      rw [hr] at hrun
      injection hrun with h1 h2
      exact .inr ⟨w.heap.size, by rw [← h1]; rfl, Nat.le_refl _⟩
/-- The bytes of a text, as numbers. -/
def strN (s : ByteArray) : List Int := s.data.toList.map (fun b => (b.toNat : Int))
theorem strN_len (s : ByteArray) : (strN s).length = s.size := by simp [strN]
theorem append_str {P : Program} (W : World) (base : Nat) (t u ty : TypeId) (ht : P.underlying t = some (.slice 5)) (hu : P.underlying u = some .string) (hinfo : (P.info? 5).map (fun i => (i.zero, i.size, i.bytes)) = some (some (.int .u8 0), 1, 1))
    (v : Value) (xs : List Int) (hR : Kd.R (Kd.int .u8) 5 W base (fun k => some k = v.ownBlock) v xs) (s : ByteArray) (hl : xs.length + s.size ≤ 140737488355328) (hbase : base ≤ W.heap.size) :
    ∃ v' w', (Builtin.append_ #[t, u] ty #[v, .string s]).run P W = .ok v' w' ∧ Kd.R (Kd.int .u8) 5 w' base (fun k => some k = v'.ownBlock) v' (xs ++ strN s) ∧ W.grownBy w' v.ownBlock ∧ (v'.ownBlock = v.ownBlock ∨ ∃ b, v'.ownBlock = some b ∧ W.heap.size ≤ b) := by
  obtain ⟨i0, hi, hzz⟩ := Option.map_eq_some_iff.1 hinfo
  simp only [Prod.mk.injEq] at hzz
  obtain ⟨v', w', hrun, how, hg, hat⟩ := append_str_at (P := P) W base t u ty 5 i0 ht hu hi hzz.1 hzz.2.1 hzz.2.2 v xs.length _ (Kd.own_of_R hR) s hl hbase
  refine ⟨v', w', hrun, Kd.R_of_own ?_ (fun k hk => hk.symm), hg, hat⟩
  have hc : encs (Value.int .u8) (xs ++ strN s) = encs (Value.int .u8) xs ++ Lib.strCells s := by simp [encs, strN, Lib.strCells]
  rw [hc, List.length_append, strN_len]
  exact how
end Go.Proofs.Ytlfcepdaicngjaa.Hd

/- prefix.New where it gives none: the walks. -/
namespace Go.Proofs.Ytlfcepdaicngjaa.Pk
set_option linter.unusedVariables false
set_option linter.unusedSimpArgs false
open Go Go.RowKit Go.Proofs.Ytlfcepdaicngjaa.P Go.Proofs.Ytlfcepdaicngjaa.MapV Go.Proofs.YtlfcepdaicngjaaW.PrintWords Go.Proofs.YtlfcepdaicngjaaW.PrintLast Go.Proofs.YtlfcepdaicngjaaW.PrintMore
set_option maxHeartbeats 8000000 in
set_option maxRecDepth 100000 in
theorem new_bad (A0 : Option Addr) (c0 : Nat) (l0 ws : List Int) (e : Int) (o : Bool) (w : World) (hr0 : Kd.C (Kd.int .u8) w A0 l0.length l0) (hc0 : l0.length ≤ c0)
    (hW : prefix_Words.f l0 = some (ws, e)) (he : e ≠ 0) :
    Calls Try.prog 8 #[.slice A0 l0.length c0, .bool o] w fun x w' => x = .returned (.tuple #[.pointer none, .int .i64 e]) ∧ Below w.heap.size w w' := by
  have HW := Aside0.mk hW
  have HR := Aside0.mk hr0
  have HC := Aside0.mk hc0
  have hb1 : (e != 0) = true := bne_iff_ne.mpr he
  clear hW hr0 hc0 he
  go_enter Try.func8, Try.ntmps8
  go_wp2_with (go_at_call 21; refine (prefix_Words.calls _ _ l0 _ _ _ HR.out HC.out HW.out).mono ?_; rintro e w1 ⟨vw, rfl, hrw, hbw⟩; obtain ⟨A2, c2, rfl, _, hrw⟩ := Kd.R_reads hrw; have HB := Aside0.mk hbw; clear hrw hbw)
  go_ret2
  exact ⟨rfl, HB.out⟩
set_option maxHeartbeats 8000000 in
set_option maxRecDepth 100000 in
theorem new_shut (A0 : Option Addr) (c0 : Nat) (l0 ws : List Int) (n : Int) (o : Bool) (w : World) (hr0 : Kd.C (Kd.int .u8) w A0 l0.length l0) (hc0 : l0.length ≤ c0)
    (hW : prefix_Words.f l0 = some (ws, 0)) (hF : prefix_Fill.f 5000 l0 = some (n, 0)) (hn : n < 32768) (hcond : o = false ∨ o = true ∧ prefix_few.f 5000 l0 = some false) :
    Calls Try.prog 8 #[.slice A0 l0.length c0, .bool o] w fun x w' => x = .returned (.tuple #[.pointer none, .int .i64 10]) ∧ Below w.heap.size w w' := by
  have HW := Aside0.mk hW
  have HF := Aside0.mk hF
  have HR := Aside0.mk hr0
  have HC := Aside0.mk hc0
  have hb1 : decide (n < 32768) = true := decide_eq_true hn
  clear hW hF hr0 hc0 hn
  rcases hcond with rfl | ⟨rfl, hfew⟩
  · go_enter Try.func8, Try.ntmps8
    go_wp2_with (first
      | (go_at_call 21; refine (prefix_Words.calls _ _ l0 _ _ _ HR.out HC.out HW.out).mono ?_; rintro e w1 ⟨vw, rfl, hrw, hbw⟩; obtain ⟨A2, c2, rfl, _, hrw⟩ := Kd.R_reads hrw; have HB := Aside0.mk hbw; clear hrw hbw)
      | (go_at_call 22; refine (prefix_Fill.calls 5000 _ _ l0 _ _ _ (Kd.C_below HR.out HB.out) HC.out HF.out).mono ?_; rintro e w2 ⟨rfl, ⟨nd, rfl⟩⟩))
    go_ret2
    exact ⟨rfl, pw_below_drewN HB.out _⟩
  · have HFEW := Aside0.mk hfew
    clear hfew
    go_enter Try.func8, Try.ntmps8
    go_wp2_with (first
      | (go_at_call 21; refine (prefix_Words.calls _ _ l0 _ _ _ HR.out HC.out HW.out).mono ?_; rintro e w1 ⟨vw, rfl, hrw, hbw⟩; obtain ⟨A2, c2, rfl, _, hrw⟩ := Kd.R_reads hrw; have HB := Aside0.mk hbw; clear hrw hbw)
      | (go_at_call 22; refine (prefix_Fill.calls 5000 _ _ l0 _ _ _ (Kd.C_below HR.out HB.out) HC.out HF.out).mono ?_; rintro e w2 ⟨rfl, ⟨nd0, rfl⟩⟩)
      | (go_at_call 23; refine (prefix_few.calls 5000 _ _ l0 _ _ (Kd.C_below (Kd.C_below HR.out HB.out) (pw_below_drewN (Below.refl _ _) _)) HC.out HFEW.out).mono ?_; rintro e w2 ⟨rfl, ⟨nd1, rfl⟩⟩))
    go_ret2
    exact ⟨rfl, pw_below_drewN HB.out _⟩
end Go.Proofs.Ytlfcepdaicngjaa.Pk

/- The chapter's example: the walk. -/
namespace Go.Proofs.Ytlfcepdaicngjaa.Pk
set_option linter.unusedVariables false
set_option linter.unusedSimpArgs false
open Go Go.RowKit Go.Proofs.Ytlfcepdaicngjaa.P Go.Proofs.Ytlfcepdaicngjaa.MapV Go.Proofs.YtlfcepdaicngjaaW.PrintWords Go.Proofs.YtlfcepdaicngjaaW.PrintLast Go.Proofs.YtlfcepdaicngjaaW.PrintMore
theorem lit_C (W : World) (xs : List Int) (h : xs.length ≤ 9223372036854775807) : Kd.C (Kd.int .u8) (W.alloc (.cells (xs.map (Value.int .u8)).toArray 5)) (some ⟨W.heap.size, 0, none⟩) xs.length xs := by
  have h2 := World.ownsRow_lit (base := W.heap.size) (e := 5) (size := 1) W (xs.map (Value.int .u8)).toArray xs.length (Nat.le_refl _) (by simpa [maxLen] using h) (by simp)
  have hR : (Kd.int .u8).R 5 (W.alloc (.cells (xs.map (Value.int .u8)).toArray 5)) W.heap.size (fun _ => True) (.slice (some ⟨W.heap.size, 0, none⟩) xs.length xs.length) xs := Kd.R_of_own (by simpa [encs] using h2) (fun _ _ => trivial)
  obtain ⟨A, c, he, _, hC⟩ := Kd.R_reads hR
  cases he
  exact hC
theorem fill4 : prefix_Fill.f 5000 [2, 1, 3, 3] = some (32768, 0) := by kernel_rfl
theorem words4 : prefix_Words.f [2, 1, 3, 3] = some ([2, 0, 6, 7], 0) := by kernel_rfl
theorem fill2 : prefix_Fill.f 5000 [1, 1] = some (32768, 0) := by kernel_rfl
theorem words2 : prefix_Words.f [1, 1] = some ([0, 1], 0) := by kernel_rfl
theorem sign_nil (R : Option Addr) (w : World) : Calls Try.prog 11 #[.pointer none, .pointer R] w fun e w' => e = .returned (.tuple #[.int .i64 (-1), .int .i64 1]) ∧ Drawn0 w w' := by
  go_enter Try.func11, Try.ntmps11
  go_wp2
  repeat (go_quiet (fail); try go_wp2)
  first | go_ret | go_end0 | go_ret2
  exact ⟨rfl, ⟨0, rfl⟩⟩
theorem sign_rnil (p : Nat) (w : World) : Calls Try.prog 11 #[.pointer (some ⟨p, 0, none⟩), .pointer none] w fun e w' => e = .returned (.tuple #[.int .i64 (-1), .int .i64 1]) ∧ Drawn0 w w' := by
  go_enter Try.func11, Try.ntmps11
  go_wp2
  repeat (go_quiet (fail); try go_wp2)
  first | go_ret | go_end0 | go_ret2
  exact ⟨rfl, ⟨0, rfl⟩⟩
theorem put_nil (R : Option Addr) (w : World) : Calls Try.prog 13 #[.pointer none, .pointer R, .int .i64 0] w fun e w' => e = .returned (.int .i64 1) ∧ Drawn0 w w' := by
  go_enter Try.func13, Try.ntmps13
  go_wp2
  repeat (go_quiet (fail); try go_wp2)
  first | go_ret | go_end0 | go_ret2
  exact ⟨rfl, ⟨0, rfl⟩⟩
theorem put_wnil (p : Nat) (w : World) : Calls Try.prog 13 #[.pointer (some ⟨p, 0, none⟩), .pointer none, .int .i64 0] w fun e w' => e = .returned (.int .i64 1) ∧ Drawn0 w w' := by
  go_enter Try.func13, Try.ntmps13
  go_wp2
  repeat (go_quiet (fail); try go_wp2)
  first | go_ret | go_end0 | go_ret2
  exact ⟨rfl, ⟨0, rfl⟩⟩
theorem length_nil (w : World) : Calls Try.prog 12 #[.pointer none, .int .i64 0] w fun e w' => e = .returned (.int .i64 0) ∧ Drawn0 w w' := by
  go_enter Try.func12, Try.ntmps12
  go_wp2
  repeat (go_quiet (fail); try go_wp2)
  first | go_ret | go_end0 | go_ret2
  exact ⟨rfl, ⟨0, rfl⟩⟩
theorem signs_nil (w : World) : Calls Try.prog 14 #[.pointer none] w fun e w' => e = .returned (.int .i64 0) ∧ Drawn0 w w' := by
  go_enter Try.func14, Try.ntmps14
  go_wp2
  repeat (go_quiet (fail); try go_wp2)
  first | go_ret | go_end0 | go_ret2
  exact ⟨rfl, ⟨0, rfl⟩⟩
set_option maxHeartbeats 4000000 in
set_option maxRecDepth 100000 in
theorem awake_calls (w : World) : Calls Try.prog 7 #[] w fun e w' => e = .returned (.bool true) ∧ Below w.heap.size w w' := by
  have HA := Aside0.mk (below_alloc (Below.refl w.heap.size w) (.cells #[.int .u8 2, .int .u8 1, .int .u8 3, .int .u8 3] 5))
  go_enter Try.func7, Try.ntmps7
  go_upto_region 2 with (go_at_call 21; refine (prefix_Words.calls _ _ [2, 1, 3, 3] [2, 0, 6, 7] 0 _ (lit_C w [2, 1, 3, 3] (by decide)) (by decide) words4).mono ?_; rintro e w1 ⟨vw, rfl, hrw, hbw⟩; obtain ⟨g2, c2, rfl, _, _, _⟩ := Kd.R_form hrw (by decide); obtain ⟨A2, c3, he, _, hrw⟩ := Kd.R_reads hrw; cases he; have HRW := Aside0.mk hrw; have HB := Aside0.mk (below_step HA.out hbw); clear hrw hbw)
  go_upto_region 3 with (go_at_call 8; refine (new_ok _ _ [2, 1, 3, 3] [2, 0, 6, 7] 32768 false _ (lit_C w1 [2, 1, 3, 3] (by decide)) (by decide) words4 fill4 (by decide) rfl (by decide) (by decide) (.inl (by decide))).mono ?_; rintro e w3 ⟨p, _, rfl, _, hb⟩; have HB3 := Aside0.mk (below_step (below_alloc (Below.refl w1.heap.size w1) (.cells #[.int .u8 2, .int .u8 1, .int .u8 3, .int .u8 3] 5)) hb); clear hb)
  have hC := Kd.C_below HRW.out HB3.out
  obtain ⟨a0, e0, h0⟩ := Kd.at_int hC 0 (by omega) (by decide)
  cases e0
  obtain ⟨a1, e1, h1⟩ := Kd.at_int hC 1 (by omega) (by decide)
  cases e1
  obtain ⟨a2, e2, h2⟩ := Kd.at_int hC 2 (by omega) (by decide)
  cases e2
  obtain ⟨a3, e3, h3⟩ := Kd.at_int hC 3 (by omega) (by decide)
  cases e3
  simp [rd, Addr.add] at h0 h1 h2 h3
  go_wp2
  go_ret
  exact ⟨rfl, below_step HB.out HB3.out⟩
end Go.Proofs.Ytlfcepdaicngjaa.Pk

/- Plain facts on bytes, little-endian numbers and 64-bit words: no program in sight. -/
namespace Go.Proofs.Ytlfcepdaicngjaa.B
set_option linter.unusedVariables false
set_option linter.unusedSimpArgs false
open Go Go.RowKit Go.Proofs.YtlfcepdaicngjaaW.PrintWords Go.Proofs.YtlfcepdaicngjaaW.PrintLast Go.Proofs.YtlfcepdaicngjaaW.PrintMore

theorem wrap_id {x : Int} (h0 : -9223372036854775808 ≤ x) (h1 : x ≤ 9223372036854775807) : wrap64 x = x := by
  unfold wrap64; omega
theorem u64_mod (x : Int) : IntKind.u64.wrap x = x % 18446744073709551616 := by simp [IntKind.wrap, IntKind.bits, IntKind.signed]
theorem u64_id {x : Int} (h0 : 0 ≤ x) (h1 : x < 18446744073709551616) : IntKind.u64.wrap x = x := by rw [u64_mod]; omega
theorem u16_mod (x : Int) : IntKind.u16.wrap x = x % 65536 := by simp [IntKind.wrap, IntKind.bits, IntKind.signed]
theorem wf_u64 {x : Int} (h : (Lit.int .u64 x).wf = true) : 0 ≤ x ∧ x ≤ 18446744073709551615 := by
  simp [Lit.wf, IntKind.min, IntKind.max, IntKind.signed, IntKind.bits] at h; omega
theorem wf_u32 {x : Int} (h : (Lit.int .u32 x).wf = true) : 0 ≤ x ∧ x ≤ 4294967295 := by
  simp [Lit.wf, IntKind.min, IntKind.max, IntKind.signed, IntKind.bits] at h; omega
theorem wf_u16 {x : Int} (h : (Lit.int .u16 x).wf = true) : 0 ≤ x ∧ x ≤ 65535 := by
  simp [Lit.wf, IntKind.min, IntKind.max, IntKind.signed, IntKind.bits] at h; omega
theorem wf_u8 {x : Int} (h : (Lit.int .u8 x).wf = true) : 0 ≤ x ∧ x ≤ 255 := by
  simp [Lit.wf, IntKind.min, IntKind.max, IntKind.signed, IntKind.bits] at h; omega
theorem wf_i64 {x : Int} (h : (Lit.int .i64 x).wf = true) : -9223372036854775808 ≤ x ∧ x ≤ 9223372036854775807 := by
  simp [Lit.wf, IntKind.min, IntKind.max, IntKind.signed, IntKind.bits] at h; omega

/-- The number that bytes are, the lowest first. -/
def leN : List UInt8 → Nat
  | [] => 0
  | b :: l => b.toNat + 256 * leN l
theorem leN_append (a b : List UInt8) : leN (a ++ b) = leN a + 256 ^ a.length * leN b := by
  induction a with
  | nil => simp [leN]
  | cons x a ih => simp only [List.cons_append, leN, ih, List.length_cons, Nat.pow_succ]; rw [Nat.mul_add, Nat.mul_comm (256 ^ a.length) 256, Nat.mul_assoc, Nat.add_assoc]
theorem leN_lt (l : List UInt8) : leN l < 256 ^ l.length := by
  induction l with
  | nil => simp [leN]
  | cons x l ih => simp only [leN, List.length_cons, Nat.pow_succ]; have := x.toNat_lt; omega
/-- The lowest so many bytes of a number. -/
def ofN : Nat → Nat → List UInt8
  | 0, _ => []
  | c + 1, n => UInt8.ofNat (n % 256) :: ofN c (n / 256)
theorem ofN_length (c n : Nat) : (ofN c n).length = c := by
  induction c generalizing n with
  | zero => rfl
  | succ c ih => simp [ofN, ih]
theorem leN_ofN (c n : Nat) : leN (ofN c n) = n % 256 ^ c := by
  induction c generalizing n with
  | zero => simp [ofN, leN, Nat.mod_one]
  | succ c ih =>
    simp only [ofN, leN, ih]
    rw [Nat.pow_succ, Nat.mul_comm (256 ^ c) 256, Nat.mod_mul]
    have : (UInt8.ofNat (n % 256)).toNat = n % 256 := by simp
    rw [this]
theorem ofN_mod (c n : Nat) : ofN c (n % 256 ^ c) = ofN c n := by
  induction c generalizing n with
  | zero => rfl
  | succ c ih =>
    simp only [ofN]
    have h1 : n % 256 ^ (c + 1) % 256 = n % 256 := Nat.mod_mod_of_dvd _ ⟨256 ^ c, by rw [Nat.pow_succ, Nat.mul_comm]⟩
    have h2 : n % 256 ^ (c + 1) / 256 = n / 256 % 256 ^ c := by
      rw [Nat.pow_succ, Nat.mul_comm (256 ^ c) 256, Nat.mod_mul]
      omega
    rw [h1, h2, ih]
theorem ofN_get (c n i : Nat) (h : i < c) : (ofN c n)[i]? = some (UInt8.ofNat (n / 256 ^ i % 256)) := by
  induction c generalizing n i with
  | zero => omega
  | succ c ih =>
    cases i with
    | zero => simp [ofN]
    | succ i => simp only [ofN, List.getElem?_cons_succ]; rw [ih _ _ (by omega), Nat.pow_succ, Nat.mul_comm (256 ^ i) 256, Nat.div_div_eq_div_mul]
theorem ofN_leN (l : List UInt8) : ofN l.length (leN l) = l := by
  induction l with
  | nil => rfl
  | cons b l ih =>
    simp only [List.length_cons, ofN, leN]
    have := b.toNat_lt
    rw [show (b.toNat + 256 * leN l) % 256 = b.toNat by omega, show (b.toNat + 256 * leN l) / 256 = leN l by omega, ih]
    simp

theorem bt_nat (s : ByteArray) (i : Nat) (h : i < s.data.toList.length) : bt s (i : Int) = ((s.data.toList[i]).toNat : Int) := by
  have h' : i < s.size := by simpa using h
  have := bt_at s (i : Int) (by simpa using h')
  rw [← this]
  simp [ByteArray.getElem_eq_getElem_data]
theorem toList_length (s : ByteArray) : s.data.toList.length = s.size := by simp
theorem toL (s : ByteArray) : s.toList = s.data.toList := ByteArray.toList_eq s

/-- One byte more of a number that is put together with | and <<. -/
theorem or_shl (a b i : Nat) (hi : i < 8) (ha : a < 256 ^ i) (hb : b < 256) : Go.bits .or .u64 (a : Int) (shl .u64 (IntKind.u64.wrap (b : Int)) ((8 * i : Nat) : Int)) = ((a + 256 ^ i * b : Nat) : Int) := by
  have e : (256 : Nat) ^ i = 2 ^ (8 * i) := by rw [Nat.pow_mul]
  have hp : 256 ^ i * 256 ≤ 2 ^ 64 := by
    rw [e, show (256 : Nat) = 2 ^ 8 from rfl, ← Nat.pow_add]
    exact Nat.pow_le_pow_right (by decide) (by omega)
  have hm : 256 ^ i * b < 2 ^ 64 := Nat.lt_of_lt_of_le (Nat.mul_lt_mul_of_pos_left hb (Nat.pow_pos (by decide))) hp
  have hs : shl .u64 (IntKind.u64.wrap (b : Int)) ((8 * i : Nat) : Int) = ((256 ^ i * b : Nat) : Int) := by
    unfold shl
    rw [u64_id (x := (b : Int)) (by omega) (by omega), Int.toNat_natCast, Nat.min_eq_left (by simp [IntKind.bits]; omega)]
    have e2 : (b : Int) * 2 ^ (8 * i) = ((256 ^ i * b : Nat) : Int) := by rw [e]; simp [Int.mul_comm]
    rw [e2, u64_id (by omega) (by omega)]
  rw [hs, (bits_nat .u64 64 (by decide) (fun n h0 h1 => u64_id h0 h1) a (256 ^ i * b) (Nat.lt_of_lt_of_le ha (by omega)) hm).2, e, Nat.or_comm, Nat.add_comm,
    Nat.two_pow_add_eq_or_of_lt (by rw [← e]; exact ha)]

end Go.Proofs.Ytlfcepdaicngjaa.B

/- Bits as numbers: bytes, the lowest first; what one step of writing does. Plain Lean. -/
namespace Go.Proofs.Ytlfcepdaicngjaa.Bn
set_option linter.unusedVariables false
set_option linter.unusedSimpArgs false
open Go Go.RowKit Go.Proofs.Ytlfcepdaicngjaa.B Go.Proofs.YtlfcepdaicngjaaW.PrintWords Go.Proofs.YtlfcepdaicngjaaW.PrintLast Go.Proofs.YtlfcepdaicngjaaW.PrintMore

/-- The first c bytes of a number. -/
def byt (N c : Nat) : List Int := (ofN c N).map (fun b => (b.toNat : Int))
theorem byt_len (N c : Nat) : (byt N c).length = c := by simp [byt, ofN_length]
theorem ofN_snoc (c N : Nat) : ofN (c + 1) N = ofN c N ++ [UInt8.ofNat (N / 256 ^ c % 256)] := by
  induction c generalizing N with
  | zero => simp [ofN]
  | succ c ih => rw [ofN, ih (N / 256)]; simp only [ofN, List.cons_append]; rw [Nat.div_div_eq_div_mul, Nat.pow_succ, Nat.mul_comm 256]
theorem byt_snoc (N c : Nat) : byt N (c + 1) = byt N c ++ [((N / 256 ^ c % 256 : Nat) : Int)] := by
  unfold byt
  rw [ofN_snoc, List.map_append]
  simp
theorem byt_zero (N c : Nat) (h : N < 256 ^ c) : byt N (c + 1) = byt N c ++ [0] := by
  rw [byt_snoc, Nat.div_eq_of_lt h]; rfl
theorem byt_mod (N c : Nat) : byt (N % 256 ^ c) c = byt N c := by unfold byt; rw [ofN_mod]
theorem byt_get (N c i : Nat) (h : i < c) : (byt N c)[i]? = some ((N / 256 ^ i % 256 : Nat) : Int) := by
  unfold byt; rw [List.getElem?_map, ofN_get c N i h]; simp
theorem byt_wf (N c : Nat) : ∀ x ∈ byt N c, 0 ≤ x ∧ x ≤ 255 := by
  intro x hx
  obtain ⟨b, _, rfl⟩ := List.mem_map.1 hx
  have := b.toNat_lt
  omega
theorem pow256 (c : Nat) : (256 : Nat) ^ c = 2 ^ (8 * c) := by rw [Nat.pow_mul]
/-- q behind len bits: the last byte alone is another. -/
theorem byt_put (N len c q : Nat) (h0 : N < 2 ^ len) (h1 : 8 * c ≤ len) (h2 : 2 ^ (len - 8 * c) * q + N / 256 ^ c < 256) :
    byt (N + 2 ^ len * q) (c + 1) = (byt N (c + 1)).set c ((N / 256 ^ c + 2 ^ (len - 8 * c) * q : Nat) : Int) := by
  have e : 2 ^ len = 256 ^ c * 2 ^ (len - 8 * c) := by rw [pow256, ← Nat.pow_add]; congr 1; omega
  have e1 : (N + 2 ^ len * q) / 256 ^ c = N / 256 ^ c + 2 ^ (len - 8 * c) * q := by
    rw [e, Nat.mul_assoc, Nat.add_mul_div_left _ _ (Nat.pow_pos (by decide))]
  have e2 : byt (N + 2 ^ len * q) c = byt N c := by
    rw [← byt_mod (N + 2 ^ len * q), ← byt_mod N, e, Nat.mul_assoc, Nat.add_mul_mod_self_left]
  rw [byt_snoc, byt_snoc, e1, e2, Nat.mod_eq_of_lt (by omega)]
  have : (byt N c ++ [((N / 256 ^ c % 256 : Nat) : Int)]).set c ((N / 256 ^ c + 2 ^ (len - 8 * c) * q : Nat) : Int) = (byt N c ++ [((N / 256 ^ c % 256 : Nat) : Int)]).set (byt N c).length ((N / 256 ^ c + 2 ^ (len - 8 * c) * q : Nat) : Int) := by rw [byt_len]
  rw [this]
  simp
/-- byte(rest << last), or'ed to a byte that has last bits: k bits more. -/
theorem or_byte (b rest last n k : Nat) (hl : last < 8) (hb : b < 2 ^ last) (hr : rest < 2 ^ n) (hn : n ≤ 32) (hk : k = min (8 - last) n) :
    Go.bits .or .u8 (b : Int) (IntKind.u64.wrap ((rest : Int) * 2 ^ last) % 256) = ((b + 2 ^ last * (rest % 2 ^ k) : Nat) : Int) ∧ 2 ^ last * (rest % 2 ^ k) + b < 256 := by
  have h8 : (2 : Nat) ^ last * 2 ^ (8 - last) = 256 := by rw [← Nat.pow_add]; rw [show last + (8 - last) = 8 by omega]
  have hrest : rest < 4294967296 := Nat.lt_of_lt_of_le hr (by calc 2 ^ n ≤ 2 ^ 32 := Nat.pow_le_pow_right (by decide) hn
    _ = 4294967296 := by decide)
  have hpl : (2 : Nat) ^ last ≤ 128 := by calc 2 ^ last ≤ 2 ^ 7 := Nat.pow_le_pow_right (by decide) (by omega)
    _ = 128 := by decide
  have hm : rest * 2 ^ last < 18446744073709551616 := by
    calc rest * 2 ^ last ≤ 4294967296 * 128 := Nat.mul_le_mul (by omega) hpl
    _ < _ := by decide
  have e1 : (rest : Int) * 2 ^ last = ((rest * 2 ^ last : Nat) : Int) := by simp
  rw [e1, u64_id (by omega) (by omega)]
  have e2 : ((rest * 2 ^ last : Nat) : Int) % 256 = ((rest * 2 ^ last % 256 : Nat) : Int) := by simp
  have e3 : rest * 2 ^ last % 256 = 2 ^ last * (rest % 2 ^ (8 - last)) := by rw [← h8, Nat.mul_comm rest, Nat.mul_mod_mul_left]
  have e4 : rest % 2 ^ (8 - last) = rest % 2 ^ k := by
    rcases Nat.le_total (8 - last) n with h | h
    · rw [hk, Nat.min_eq_left h]
    · rw [hk, Nat.min_eq_right h, Nat.mod_eq_of_lt hr, Nat.mod_eq_of_lt (Nat.lt_of_lt_of_le hr (Nat.pow_le_pow_right (by decide) h))]
  rw [e2, e3, e4]
  have hq : rest % 2 ^ k < 2 ^ (8 - last) := by rw [← e4]; exact Nat.mod_lt _ (Nat.pow_pos (by decide))
  have hbnd : 2 ^ last * (rest % 2 ^ k) + b < 256 := by
    have : 2 ^ last * (rest % 2 ^ k) + 2 ^ last ≤ 2 ^ last * 2 ^ (8 - last) := by rw [← Nat.mul_succ]; exact Nat.mul_le_mul_left _ hq
    omega
  refine ⟨?_, hbnd⟩
  rw [(bits_nat .u8 8 (by decide) (fun n h0 h1 => by simp [IntKind.wrap, IntKind.bits, IntKind.signed]; omega) b (2 ^ last * (rest % 2 ^ k)) (by omega) (by omega)).2, Nat.or_comm, Nat.add_comm, Nat.two_pow_add_eq_or_of_lt hb]
/-- The low n bits. -/
theorem and_low (v n : Nat) (hv : v < 4294967296) (hn : n ≤ 32) : Go.bits .and .u64 (v : Int) (IntKind.u64.wrap (IntKind.u64.wrap (2 ^ n) - 1)) = ((v % 2 ^ n : Nat) : Int) := by
  have hp : (2 : Nat) ^ n ≤ 4294967296 := by calc 2 ^ n ≤ 2 ^ 32 := Nat.pow_le_pow_right (by decide) hn
    _ = 4294967296 := by decide
  have hp0 : 0 < (2 : Nat) ^ n := Nat.pow_pos (by decide)
  have e1 : (2 : Int) ^ n = ((2 ^ n : Nat) : Int) := by simp
  rw [e1, u64_id (x := ((2 ^ n : Nat) : Int)) (by omega) (by omega)]
  have e2 : ((2 ^ n : Nat) : Int) - 1 = ((2 ^ n - 1 : Nat) : Int) := by omega
  rw [e2, u64_id (by omega) (by omega), (bits_nat .u64 64 (by decide) (fun n h0 h1 => u64_id h0 h1) v (2 ^ n - 1) (by omega) (by omega)).1, Nat.and_two_pow_sub_one_eq_mod]
theorem and7 (x : Nat) (hx : x < 4294967296) : Go.bits .and .i64 (x : Int) 7 = ((x % 8 : Nat) : Int) := by
  have h := (bits_nat .i64 63 (by decide) (fun n h0 h1 => by simp [IntKind.wrap, IntKind.bits, IntKind.signed]; omega) x 7 (by omega) (by omega)).1
  rw [show ((7 : Nat) : Int) = 7 from rfl] at h
  rw [h, show (7 : Nat) = 2 ^ 3 - 1 from rfl, Nat.and_two_pow_sub_one_eq_mod]
theorem add_bits (N len y d k : Nat) : N + 2 ^ len * (y % 2 ^ (d + k)) = N + 2 ^ len * (y % 2 ^ d) + 2 ^ (len + d) * (y / 2 ^ d % 2 ^ k) := by
  rw [Nat.pow_add 2 d k, Nat.mod_mul, Nat.mul_add, Nat.pow_add 2 len d, Nat.mul_assoc, Nat.add_assoc]
theorem lt_bits (M m q k : Nat) (h : M < 2 ^ m) : M + 2 ^ m * (q % 2 ^ k) < 2 ^ (m + k) := by
  have hq : q % 2 ^ k < 2 ^ k := Nat.mod_lt _ (Nat.pow_pos (by decide))
  calc M + 2 ^ m * (q % 2 ^ k) < 2 ^ m + 2 ^ m * (q % 2 ^ k) := by omega
    _ = 2 ^ m * (q % 2 ^ k + 1) := by rw [Nat.mul_succ, Nat.add_comm]
    _ ≤ 2 ^ m * 2 ^ k := Nat.mul_le_mul_left _ hq
    _ = 2 ^ (m + k) := (Nat.pow_add 2 m k).symm
end Go.Proofs.Ytlfcepdaicngjaa.Bn

/- bits.Reader: Peek and Skip where nothing is wrong. Plain Lean. -/
namespace Go.Proofs.Ytlfcepdaicngjaa.Rd
set_option linter.unusedVariables false
set_option linter.unusedSimpArgs false
open Go Go.RowKit Go.Proofs.Ytlfcepdaicngjaa.P Go.Proofs.Ytlfcepdaicngjaa.B Go.Proofs.Ytlfcepdaicngjaa.Bn Go.Proofs.YtlfcepdaicngjaaW.PrintWords Go.Proofs.YtlfcepdaicngjaaW.PrintLast Go.Proofs.YtlfcepdaicngjaaW.PrintMore
/-- n bits from a place on. -/
def num (s : ByteArray) (a n : Nat) : Nat := leN s.data.toList / 2 ^ a % 2 ^ n
theorem num_lt (s : ByteArray) (a n : Nat) : num s a n < 2 ^ n := Nat.mod_lt _ (Nat.pow_pos (by decide))
theorem leN_get (l : List UInt8) (i : Nat) (h : i < l.length) : leN l / 256 ^ i % 256 = (l[i]).toNat := by
  have h1 := ofN_get l.length (leN l) i h
  rw [ofN_leN, List.getElem?_eq_getElem h] at h1
  injection h1 with h1
  rw [h1]; simp
theorem bt_le (s : ByteArray) (i : Nat) (h : i < s.size) : bt s (i : Int) = ((leN s.data.toList / 256 ^ i % 256 : Nat) : Int) := by
  rw [bt_nat s i (by simpa using h), leN_get _ _ (by simpa using h)]
theorem and7b (x : Nat) (hx : x < 4294967296) : Go.bits .and .i64 (x : Int) 7 = ((x % 8 : Nat) : Int) := and7 x hx
theorem nat_hi (x : Nat) (hx : x < 18446744073709551616) : x &&& (2 ^ 64 - (7 + 1)) = x / 8 * 8 := by
  apply Nat.eq_of_testBit_eq
  intro i
  rw [Nat.testBit_and, Nat.testBit_two_pow_sub_succ (by decide), show (7 : Nat) = 2 ^ 3 - 1 from rfl, Nat.testBit_two_pow_sub_one, show x / 8 * 8 = x / 2 ^ 3 * 2 ^ 3 from rfl, Nat.testBit_mul_two_pow, Nat.testBit_div_two_pow]
  by_cases h : i < 3
  · simp [h]; omega
  · by_cases h2 : i < 64
    · simp [h, h2, show 3 ≤ i by omega, show i - 3 + 3 = i by omega]
    · have : x.testBit i = false := Nat.testBit_lt_two_pow (Nat.lt_of_lt_of_le hx (by calc 18446744073709551616 = 2 ^ 64 := by decide
        _ ≤ 2 ^ i := Nat.pow_le_pow_right (by decide) (by omega)))
      simp [h, h2, this, show 3 ≤ i by omega, show i - 3 + 3 = i by omega]
theorem wrap_i64_small (n : Nat) (h : n < 9223372036854775808) : IntKind.i64.wrap (n : Int) = (n : Int) := by
  have e : (n : Int) % 2 ^ 64 = n := Int.emod_eq_of_lt (by omega) (by omega)
  simp only [IntKind.wrap, IntKind.bits, IntKind.signed, e]
  rw [if_neg]
  simp
  omega
theorem andNot7 (x : Nat) (h : x < 9223372036854775807) : Go.bits .andNot .i64 (x : Int) 7 = ((x / 8 * 8 : Nat) : Int) := by
  show IntKind.i64.wrap ((BitVec.ofInt 64 (x : Int) &&& ~~~BitVec.ofInt 64 7).toNat : Int) = _
  have h1 : (BitVec.ofInt 64 7).toNat = 7 := by decide
  have h2 : (BitVec.ofInt 64 (x : Int)).toNat = x := by rw [BitVec.ofInt_natCast, BitVec.toNat_ofNat]; exact Nat.mod_eq_of_lt (by omega)
  rw [BitVec.toNat_and, BitVec.toNat_not, h1, h2, show 2 ^ 64 - 1 - 7 = 2 ^ 64 - (7 + 1) by decide, nat_hi x (by omega)]
  exact wrap_i64_small _ (by omega)
/-- The low n bits, of 64. -/
theorem and_low64 (v n : Nat) (hv : v < 18446744073709551616) (hn : n ≤ 32) : Go.bits .and .u64 (v : Int) (IntKind.u64.wrap ((shl .u64 1 (n : Int)) - 1)) = ((v % 2 ^ n : Nat) : Int) := by
  have hp : (2 : Nat) ^ n ≤ 4294967296 := by calc 2 ^ n ≤ 2 ^ 32 := Nat.pow_le_pow_right (by decide) hn
    _ = 4294967296 := by decide
  have hp0 : 0 < (2 : Nat) ^ n := Nat.pow_pos (by decide)
  have e0 : shl .u64 1 (n : Int) = ((2 ^ n : Nat) : Int) := by
    unfold shl
    rw [Int.toNat_natCast, Nat.min_eq_left (by simp [IntKind.bits]; omega)]
    have e1 : (1 : Int) * (2 : Int) ^ n = ((2 ^ n : Nat) : Int) := by simp
    rw [e1, u64_id (by omega) (by omega)]
  have e2 : ((2 ^ n : Nat) : Int) - 1 = ((2 ^ n - 1 : Nat) : Int) := by omega
  rw [e0, e2, u64_id (by omega) (by omega), (bits_nat .u64 64 (by decide) (fun n h0 h1 => u64_id h0 h1) v (2 ^ n - 1) (by omega) (by omega)).1, Nat.and_two_pow_sub_one_eq_mod]
theorem shr64 (x t : Nat) (ht : t < 64) : shr .u64 (x : Int) (t : Int) = ((x / 2 ^ t : Nat) : Int) := by
  unfold shr
  rw [Int.toNat_natCast, Nat.min_eq_left (by simp [IntKind.bits]; omega)]
  simp
/-- Some bytes' bits. -/
theorem part (N a n c : Nat) (h : n + a % 8 ≤ 8 * c) : N / 256 ^ (a / 8) % 256 ^ c / 2 ^ (a % 8) % 2 ^ n = N / 2 ^ a % 2 ^ n := by
  have e1 : N / 2 ^ a = N / 256 ^ (a / 8) / 2 ^ (a % 8) := by rw [pow256, Nat.div_div_eq_div_mul, ← Nat.pow_add, show 8 * (a / 8) + a % 8 = a by omega]
  rw [e1]
  generalize N / 256 ^ (a / 8) = M
  generalize a % 8 = t at h ⊢
  rw [pow256, ← Nat.mod_mul_right_div_self, ← Nat.mod_mul_right_div_self, ← Nat.pow_add, Nat.mod_mod_of_dvd _ (Nat.pow_dvd_pow 2 (by omega))]
theorem bits_loop (s : ByteArray) (a n : Nat) (e : Int) (hs : s.size ≤ 1000000) (hn : n ≤ 32) (hin : a + n ≤ 8 * s.size) : ∀ (d k i : Nat), i + d = (n + a % 8 + 7) / 8 → d < k →
    bits_Reader_bits.l0 k n ((leN s.data.toList / 256 ^ (a / 8) % 256 ^ i : Nat) : Int) ((a / 8 : Nat) : Int) i s a e = some (((num s a n : Nat) : Int), s, (a : Int), e) := by
  have h7 := and7 a (by omega)
  intro d
  induction d with
  | zero =>
    intro k i hi hk
    obtain ⟨k, rfl⟩ : ∃ m, k = m + 1 := ⟨k - 1, by omega⟩
    have hlt : leN s.data.toList / 256 ^ (a / 8) % 256 ^ i < 18446744073709551616 := by
      refine Nat.lt_of_lt_of_le (Nat.mod_lt _ (Nat.pow_pos (by decide))) ?_
      calc 256 ^ i ≤ 256 ^ 8 := Nat.pow_le_pow_right (by decide) (by omega)
        _ = 18446744073709551616 := by decide
    have hpart := part (leN s.data.toList) a n i (by omega)
    have hnl := num_lt s a n
    have h32 : (2 : Nat) ^ n ≤ 4294967296 := by calc 2 ^ n ≤ 2 ^ 32 := Nat.pow_le_pow_right (by decide) hn
      _ = 4294967296 := by decide
    rw [bits_Reader_bits.l0, h7, wrap_id (by omega) (by omega), wrap_id (by omega) (by omega), if_neg (by omega), if_pos (by omega), if_pos (by omega)]
    unfold num at hnl ⊢
    rw [← hpart] at hnl ⊢
    generalize leN s.data.toList / 256 ^ (a / 8) % 256 ^ i = v at hlt hnl ⊢
    rw [shr64 v (a % 8) (by omega), and_low64 _ n (Nat.lt_of_le_of_lt (Nat.div_le_self _ _) hlt) hn]
    generalize v / 2 ^ (a % 8) % 2 ^ n = z at hnl ⊢
    rw [show ((z : Nat) : Int) % 4294967296 = z by omega]
  | succ d ih =>
    intro k i hi hk
    obtain ⟨k, rfl⟩ : ∃ m, k = m + 1 := ⟨k - 1, by omega⟩
    have hb := bt_le s (a / 8 + i) (by omega)
    have hb2 : leN s.data.toList / 256 ^ (a / 8 + i) % 256 < 256 := Nat.mod_lt _ (by decide)
    rw [bits_Reader_bits.l0, h7, wrap_id (x := (i : Int) * 8) (by omega) (by omega), wrap_id (x := (n : Int) + ((a % 8 : Nat) : Int)) (by omega) (by omega), if_pos (by omega),
      wrap_id (x := ((a / 8 : Nat) : Int) + (i : Int)) (by omega) (by omega), if_pos (by omega), if_pos (by omega), wrap_id (x := 8 * (i : Int)) (by omega) (by omega), if_pos (by omega), wrap_id (x := (i : Int) + 1) (by omega) (by omega),
      show ((a / 8 : Nat) : Int) + (i : Int) = ((a / 8 + i : Nat) : Int) by omega, hb, show 8 * (i : Int) = ((8 * i : Nat) : Int) by omega,
      or_shl _ _ i (by omega) (Nat.mod_lt _ (Nat.pow_pos (by decide))) hb2]
    have e3 : leN s.data.toList / 256 ^ (a / 8) % 256 ^ i + 256 ^ i * (leN s.data.toList / 256 ^ (a / 8 + i) % 256) = leN s.data.toList / 256 ^ (a / 8) % 256 ^ (i + 1) := by
      rw [Nat.pow_succ, Nat.mod_mul, Nat.pow_add, ← Nat.div_div_eq_div_mul]
    rw [e3]
    exact ih k (i + 1) (by omega) (by omega)
theorem bits_in (s : ByteArray) (a n : Nat) (e : Int) (hs : s.size ≤ 1000000) (hn : n ≤ 32) (hin : a + n ≤ 8 * s.size) (k : Nat) (hk : 6 < k) :
    bits_Reader_bits.f k s a e n = some (((num s a n : Nat) : Int), s, (a : Int), e) := by
  unfold bits_Reader_bits.f
  have h := bits_loop s a n e hs hn hin ((n + a % 8 + 7) / 8) k 0 (by omega) (by omega)
  rw [show (256 : Nat) ^ 0 = 1 from rfl, Nat.mod_one] at h
  rw [show ((a : Nat) : Int) / 8 = ((a / 8 : Nat) : Int) by omega]
  exact h
/-- The places a reader may be at. -/
def RPlace (s : ByteArray) (a : Int) : Prop := s.size ≤ 1000000 ∧ ∃ n : Nat, a = n ∧ n ≤ 8 * s.size
theorem left_of {s : ByteArray} {a : Int} (h : RPlace s a) : wrap64 (wrap64 (8 * (s.size : Int)) - a) = 8 * (s.size : Int) - a := by
  obtain ⟨h1, n, rfl, h2⟩ := h
  rw [wrap_id (x := 8 * (s.size : Int)) (by omega) (by omega), wrap_id (by omega) (by omega)]
theorem peek_in (s : ByteArray) (a n : Nat) (hs : s.size ≤ 1000000) (ha : a ≤ 8 * s.size) (hn : n ≤ 32) :
    bits_Reader_Peek.f 50 s a 0 n = some (((num s a (min n (8 * s.size - a)) : Nat) : Int), ((min n (8 * s.size - a) : Nat) : Int), s, (a : Int), 0) := by
  have hl := left_of (s := s) (a := (a : Int)) ⟨hs, a, rfl, ha⟩
  unfold bits_Reader_Peek.f
  rw [if_pos rfl, if_neg (by omega), decide_eq_false (by omega), show (50 : Nat) = 49 + 1 from rfl, bits_Reader_Peek.j0, if_neg (by decide)]
  unfold bits_Reader_left.f
  rw [Option.bind_some]
  dsimp only
  rw [hl]
  have hm : mn (n : Int) (8 * (s.size : Int) - (a : Int)) = ((min n (8 * s.size - a) : Nat) : Int) := by unfold mn; split <;> omega
  rw [hm, bits_in s a (min n (8 * s.size - a)) 0 hs (by omega) (by omega) 49 (by omega), Option.bind_some]
theorem skip_in (s : ByteArray) (a n : Nat) (hs : s.size ≤ 1000000) (ha : a + n ≤ 8 * s.size) : bits_Reader_Skip.f s a 0 n = some (s, ((a + n : Nat) : Int), 0) := by
  have hl := left_of (s := s) (a := (a : Int)) ⟨hs, a, rfl, by omega⟩
  unfold bits_Reader_Skip.f
  rw [if_pos rfl, if_neg (by omega)]
  unfold bits_Reader_left.f
  rw [Option.bind_some]
  dsimp only
  rw [hl, if_neg (by omega), wrap_id (by omega) (by omega), Int.natCast_add]
end Go.Proofs.Ytlfcepdaicngjaa.Rd

/- portmanteauref03.Bit: a bit of some bytes; texts of bits, one by one. Plain Lean. -/
namespace Go.Proofs.Ytlfcepdaicngjaa.Rd
set_option linter.unusedVariables false
set_option linter.unusedSimpArgs false
open Go Go.RowKit Go.Proofs.Ytlfcepdaicngjaa.P Go.Proofs.Ytlfcepdaicngjaa.B Go.Proofs.Ytlfcepdaicngjaa.Bn Go.Proofs.Ytlfcepdaicngjaa.Pk Go.Proofs.YtlfcepdaicngjaaW.PrintWords Go.Proofs.YtlfcepdaicngjaaW.PrintLast Go.Proofs.YtlfcepdaicngjaaW.PrintMore
theorem bit_loop (a : Nat) (b : Nat) (hb : b < 256) : ∀ (d k i : Nat), i + d = a % 8 → d < k → portmanteauref03_Bit.l0 k (a : Int) ((b / 2 ^ i : Nat) : Int) i = some ((b / 2 ^ (a % 8) % 2 : Nat) : Int) := by
  intro d
  induction d with
  | zero =>
    intro k i hi hk
    obtain ⟨k, rfl⟩ : ∃ m, k = m + 1 := ⟨k - 1, by omega⟩
    rw [portmanteauref03_Bit.l0, Int.tmod_eq_emod_of_nonneg (by omega), if_neg (by omega), show a % 8 = i by omega]
    generalize b / 2 ^ i = x
    rw [Int.tmod_eq_emod_of_nonneg (by omega), show ((x : Nat) : Int) % 2 % 4294967296 = ((x % 2 : Nat) : Int) by omega]
  | succ d ih =>
    intro k i hi hk
    obtain ⟨k, rfl⟩ : ∃ m, k = m + 1 := ⟨k - 1, by omega⟩
    have h1 : b / 2 ^ (i + 1) = b / 2 ^ i / 2 := by rw [Nat.pow_succ, Nat.div_div_eq_div_mul]
    have h2 : b / 2 ^ i < 256 := Nat.lt_of_le_of_lt (Nat.div_le_self _ _) hb
    have h3 := ih k (i + 1) (by omega) (by omega)
    rw [h1] at h3
    rw [portmanteauref03_Bit.l0, Int.tmod_eq_emod_of_nonneg (by omega), if_pos (by omega)]
    generalize b / 2 ^ i = x at h2 h3 ⊢
    rw [Int.tdiv_eq_ediv_of_nonneg (by omega), B.wrap_id (by omega) (by omega), B.wrap_id (by omega) (by omega), show ((x : Nat) : Int) / 2 = ((x / 2 : Nat) : Int) by omega]
    exact h3
theorem bit_in (s : ByteArray) (a : Nat) (hs : s.size ≤ 1000000) (hin : a < 8 * s.size) (k : Nat) (hk : 8 < k) : portmanteauref03_Bit.f k s a = some ((leN s.data.toList / 2 ^ a % 2 : Nat) : Int) := by
  have hb2 : leN s.data.toList / 256 ^ (a / 8) % 256 < 256 := Nat.mod_lt _ (by decide)
  have hl := bit_loop a (leN s.data.toList / 256 ^ (a / 8) % 256) hb2 (a % 8) k 0 (by omega) (by omega)
  have hp : leN s.data.toList / 256 ^ (a / 8) % 256 / 2 ^ (a % 8) % 2 = leN s.data.toList / 2 ^ a % 2 := part (leN s.data.toList) a 1 1 (by omega)
  rw [hp, Nat.pow_zero, Nat.div_one] at hl
  unfold portmanteauref03_Bit.f
  rw [Int.tdiv_eq_ediv_of_nonneg (by omega), B.wrap_id (by omega) (by omega), show ((a : Nat) : Int) / 8 = ((a / 8 : Nat) : Int) by omega, if_pos (by omega), if_pos (by omega), bt_le s _ (by omega), B.wrap_id (by omega) (by omega)]
  exact hl
theorem txtN_snoc (v b : Nat) (hb : b < 2) : ∀ l, txtN (2 * v + b) (l + 1) = txtN v l ++ [UInt8.ofNat (48 + b)]
  | 0 => by
    rw [txtN, txtN, txtN, Nat.pow_zero, Nat.div_one, show (2 * v + b) % 2 = b by omega]
    rfl
  | l + 1 => by
    have ih := txtN_snoc v b hb l
    have e : (2 * v + b) / 2 ^ (l + 1) = v / 2 ^ l := by
      rw [Nat.pow_succ, Nat.mul_comm (2 ^ l) 2, ← Nat.div_div_eq_div_mul, show (2 * v + b) / 2 = v by omega]
    rw [txtN, ih, e]
    rfl
theorem txtN_inj (v u : Nat) : ∀ n, v < 2 ^ n → u < 2 ^ n → txtN v n = txtN u n → v = u
  | 0, hv, hu, _ => by omega
  | n + 1, hv, hu, h => by
    rw [txtN, txtN] at h
    injection h with h1 h2
    have hp : 0 < 2 ^ n := Nat.pow_pos (by omega)
    have hv2 : v / 2 ^ n < 2 := by rw [Nat.div_lt_iff_lt_mul hp, Nat.mul_comm, ← Nat.pow_succ]; exact hv
    have hu2 : u / 2 ^ n < 2 := by rw [Nat.div_lt_iff_lt_mul hp, Nat.mul_comm, ← Nat.pow_succ]; exact hu
    have h3 : v / 2 ^ n = u / 2 ^ n := by
      have := congrArg UInt8.toNat h1
      rw [UInt8.toNat_ofNat', UInt8.toNat_ofNat'] at this
      obtain ⟨y, hy⟩ : ∃ y, v / 2 ^ n = y := ⟨_, rfl⟩
      obtain ⟨z, hz⟩ : ∃ z, u / 2 ^ n = z := ⟨_, rfl⟩
      rw [hy] at hv2 this ⊢
      rw [hz] at hu2 this ⊢
      omega
    have hm : ∀ w : Nat, txtN w n = txtN (w % 2 ^ n) n := by
      intro w
      have key : ∀ k, k ≤ n → txtN w k = txtN (w % 2 ^ n) k := by
        intro k
        induction k with
        | zero => intro _; rfl
        | succ k ih =>
          intro hk
          rw [txtN, txtN, ih (by omega)]
          have e : w % 2 ^ n / 2 ^ k = w / 2 ^ k % 2 ^ (n - k) := by
            rw [show 2 ^ n = 2 ^ k * 2 ^ (n - k) by rw [← Nat.pow_add]; congr 1; omega, Nat.mod_mul_right_div_self]
          have e2 : w / 2 ^ k % 2 ^ (n - k) % 2 = w / 2 ^ k % 2 := Nat.mod_mod_of_dvd _ (by rw [show n - k = (n - k - 1) + 1 by omega, Nat.pow_succ]; exact Nat.dvd_mul_left _ _)
          rw [e, e2]
      exact key n (Nat.le_refl _)
    rw [hm v, hm u] at h2
    have h4 := txtN_inj (v % 2 ^ n) (u % 2 ^ n) n (Nat.mod_lt _ hp) (Nat.mod_lt _ hp) h2
    have e1 := Nat.div_add_mod v (2 ^ n)
    have e2 := Nat.div_add_mod u (2 ^ n)
    rw [← e1, ← e2, h3, h4]
end Go.Proofs.Ytlfcepdaicngjaa.Rd

/- bits.Writer: its methods on a number of so many bits. -/
namespace Go.Proofs.Ytlfcepdaicngjaa.Bw
set_option linter.unusedVariables false
set_option linter.unusedSimpArgs false
open Go Go.RowKit Go.Proofs.Ytlfcepdaicngjaa.P Go.Proofs.Ytlfcepdaicngjaa.B Go.Proofs.Ytlfcepdaicngjaa.Bn Go.Proofs.Ytlfcepdaicngjaa.Hd Go.Proofs.YtlfcepdaicngjaaW.PrintWords Go.Proofs.YtlfcepdaicngjaaW.PrintLast Go.Proofs.YtlfcepdaicngjaaW.PrintMore

/-- The writer at g has written the number N, of len bits; its row of bytes is v. -/
def IsBW (base : Nat) (W : World) (g : Nat) (v : Value) (N len : Nat) : Prop :=
  Holds base W g 38 #[v, .int .i64 ((len % 8 : Nat) : Int)] v (byt N ((len + 7) / 8)) ∧ N < 2 ^ len
theorem z5 : (Try.prog.info? 5).map (fun i => (i.zero, i.size, i.bytes)) = some (some (.int .u8 0), 1, 1) := by kernel_rfl
theorem IsBW.bytes {base g N len : Nat} {W : World} {v : Value} (h : IsBW base W g v N len) : ∃ A c, v = .slice A ((len + 7) / 8) c := by
  obtain ⟨A, c, hv, _⟩ := Kd.R_reads h.1.row
  rw [byt_len] at hv
  exact ⟨A, c, hv⟩

attribute [local go_sem] max2_int min2_int
set_option maxHeartbeats 4000000 in
set_option maxRecDepth 100000 in
theorem write_calls (base g : Nat) (v : Value) (N len x : Nat) (n : Nat) (W : World) (hI : IsBW base W g v N len) (hx : x < 4294967296) (h1 : 1 ≤ n) (h32 : n ≤ 32) (hl : len ≤ 1099511627776) :
    Calls Try.prog 29 #[.pointer (some ⟨g, 0, none⟩), .int .u32 x, .int .i64 n] W fun e W' => e = .returned (.tuple #[]) ∧ ∃ v', IsBW base W' g v' (N + 2 ^ len * (x % 2 ^ n)) (len + n) ∧ Wrote W W' g v v' := by
  have HI0 := Aside0.mk hI
  clear hI
  have hn1 : decide ((n : Int) < 1) = false := decide_eq_false (by omega)
  have hn2 : decide ((32 : Int) < (n : Int)) = false := decide_eq_false (by omega)
  have hn3 : decide (32 < n) = false := decide_eq_false (by omega)
  have hlow := and_low x n hx h32
  have hmn : x % 2 ^ n < 2 ^ n := Nat.mod_lt _ (Nat.pow_pos (by decide))
  obtain ⟨y, hy⟩ : ∃ y, x % 2 ^ n = y := ⟨_, rfl⟩
  rw [hy] at hlow hmn ⊢
  have HY := Aside0.mk hmn
  clear hmn hy
  go_enter Try.func29, Try.ntmps29
  go_wp2
  have HIW := Aside0.mk (Wrote.refl W g v)
  go_loopw [2, 6] (fun v2 v6 wr => ∃ (d r : Nat) (v1 : Value), v2 = .int .i64 r ∧ d + r = n ∧ v6 = .int .u64 ((y / 2 ^ d : Nat) : Int) ∧ Aside0 (IsBW base wr g v1 (N + 2 ^ len * (y % 2 ^ d)) (len + d)) ∧ Aside0 (Wrote W wr g v v1))
    (fun v _ _ => (intOf v).toNat)
  case atStart => exact ⟨0, n, v, rfl, by omega, by simp, ⟨by have := HI0.out; simpa [Nat.mod_one] using this⟩, HIW⟩
  case round =>
    clear hlow HI0 HIW hn1 hn2 hn3
    obtain ⟨d, r, v1, rfl, hdr, rfl, HI, HW⟩ := hrel
    by_cases hr : r = 0
    · subst hr
      have hd : d = n := by omega
      subst hd
      go_wp2
      first | go_end0 | ((try simp only [Exit.inBlock, Exit.then]); refine bodyPost_ret (results_none rfl _ _ _) rfl ?_)
      refine ⟨rfl, v1, ?_, HW.out⟩
      have h := HI.out
      rwa [Nat.mod_eq_of_lt HY.out] at h
    have hr1 : decide ((0 : Int) < (r : Int)) = true := decide_eq_true (by omega)
    have hr2 : decide (0 < r) = true := decide_eq_true (by omega)
    obtain ⟨M, hM⟩ : ∃ M, N + 2 ^ len * (y % 2 ^ d) = M := ⟨_, rfl⟩
    obtain ⟨m, hm⟩ : ∃ m, len + d = m := ⟨_, rfl⟩
    obtain ⟨q, hq⟩ : ∃ q, y / 2 ^ d = q := ⟨_, rfl⟩
    rw [hM, hm] at HI
    rw [hq]
    obtain ⟨t, ht⟩ : ∃ t, m % 8 = t := ⟨_, rfl⟩
    have HH := Aside0.mk HI.out.1
    have HN := Aside0.mk HI.out.2
    rw [ht] at HH
    have hmb : m ≤ 1099511627776 + 32 := by omega
    have hne : some g ≠ v1.ownBlock := fun e => HH.out.ne (by decide) g e.symm rfl
    have hc0 : wr.cell? ⟨g, 0, none⟩ = some v1 := (blk_cell HH.out.blk 0).trans rfl
    have hc1 : wr.cell? ⟨g, 1, none⟩ = some (.int .i64 t) := (blk_cell HH.out.blk 1).trans rfl
    go_upto_if 30 with (fail)
    go_cut [] (fun wc => Aside0 (∃ v3, Holds base wc g 38 #[v3, .int .i64 (t : Int)] v3 (byt M (m / 8 + 1)) ∧ Wrote W wc g v v3))
    case first =>
      by_cases h0 : t = 0
      · subst h0
        have e7 : (m + 7) / 8 = m / 8 := by omega
        have hrow := HH.out.row
        rw [e7] at hrow
        have HRow := Aside0.mk hrow
        have hxl : (byt M (m / 8)).length = m / 8 := byt_len _ _
        have hz : byt M (m / 8) ++ [0] = byt M (m / 8 + 1) := (byt_zero M (m / 8) (by rw [pow256]; rw [show 8 * (m / 8) = m by omega]; exact HN.out)).symm
        obtain ⟨xs, hxs⟩ : ∃ xs, byt M (m / 8) = xs := ⟨_, rfl⟩
        rw [hxs] at HRow hxl hz
        clear hrow hxs
        go_wp2_with ((with_reducible refine gate_builtin (b := .append) (xs := #[.tmp 35, .tmp 36]) rfl ?_); at_builtin; refine Kd.R_append (Kd.int .u8) (w0 := wr) base rfl (.tmp 35) (.tmp 36) 22 5 (.int .u8 0) 1 rfl Try.underlying22 z5 rfl (by decide) (by omega) v1 xs (0 : Int) [.int .u8 0] (fun k => some k = v1.ownBlock ∨ wr.heap.size ≤ k) (fun _ => False) rfl rfl ?aP (fun _ hk => hk.elim) ?aF ?aO ?aB ?aS ?aL ?_; (case aP => rfl); (case aF => exact (fun _ hk => .inr hk)); (case aO => exact Kd.R_mono HRow.out (fun _ hk => .inl hk)); (case aB => exact Below.refl _ _); (case aS => exact Nat.le_of_lt (Nat.lt_of_le_of_lt HH.out.ge HH.out.lt)); (case aL => omega); intro v6 w6 ho hb hg hat; obtain ⟨A6, c6, rfl⟩ := Kd.R_slice ho; obtain ⟨v6, hv6⟩ : ∃ v6 : Value, Value.slice A6 (xs ++ [0]).length c6 = v6 := ⟨_, rfl⟩; have hv6' := Aside0.mk hv6.symm; (try rw [hv6] at ho hat); have HO6 := Aside0.mk (Kd.R_reok rfl ho (fun k hk => hk.symm) : Kd.R (Kd.int .u8) 5 w6 base (fun k => some k = v6.ownBlock) v6 (xs ++ [0])); have HB6 := Aside0.mk (blk_grown HH.out.blk hg hne); have HW6 := Aside0.mk (HW.out.grow hg hat); have hc6 := blk_cell HB6.out 0; have hf6 := blk_frozen HB6.out 0; clear ho hb hg hat)
        go_meet
        have e6 := hv6'.out
        subst e6
        refine ⟨_, ?_, HW6.out.set 0 _⟩
        rw [← hz]
        exact Holds.turn (v := .slice A6 (xs ++ [0]).length c6) ⟨HB6.out, HH.out.ge, HO6.out⟩ 0 HO6.out (by decide)
      · have hb : ((t : Int) == 0) = false := by simp; omega
        have hb2 : (t == 0) = false := by simp; omega
        have e7 : (m + 7) / 8 = m / 8 + 1 := by omega
        go_wp2
        go_meet
        have h := HH.out
        rw [e7] at h
        exact ⟨v1, h, HW.out⟩
    case rest =>
      obtain ⟨v3, H3, W3⟩ := hcut.out
      have HW3 := Aside0.mk W3
      have hxl : (byt M (m / 8 + 1)).length = m / 8 + 1 := byt_len _ _
      have ht8 : t < 8 := by omega
      have h8c : 8 * (m / 8) + t = m := by omega
      clear hcut W3 hc0 hc1 HH
      have hbyte : ∃ bb, M / 256 ^ (m / 8) = bb ∧ bb < 2 ^ t := by
        refine ⟨_, rfl, ?_⟩
        rw [Nat.div_lt_iff_lt_mul (Nat.pow_pos (by decide)), pow256, ← Nat.pow_add, show t + 8 * (m / 8) = m by omega]
        exact HN.out
      obtain ⟨bb, hbb, hbt⟩ := hbyte
      have hqr : q < 2 ^ r := by
        rw [← hq, Nat.div_lt_iff_lt_mul (Nat.pow_pos (by decide)), ← Nat.pow_add, show r + d = n by omega]
        exact HY.out
      obtain ⟨k, hk⟩ : ∃ k, k = min (8 - t) r := ⟨_, rfl⟩
      obtain ⟨hor, hb256⟩ := or_byte bb q t r k ht8 hbt hqr (by omega) hk
      have hlast : rdOf 0 (byt M (m / 8 + 1)) ((m / 8 : Nat) : Int) = (bb : Int) := by
        unfold rdOf
        rw [List.getD_eq_getElem?_getD, Int.toNat_natCast, byt_get _ _ _ (by omega), hbb, Option.getD_some, Nat.mod_eq_of_lt (by omega)]
      have hput := byt_put M m (m / 8) (q % 2 ^ k) HN.out (by omega) (by rw [show m - 8 * (m / 8) = t by omega, hbb]; exact hb256)
      rw [show m - 8 * (m / 8) = t by omega, hbb] at hput
      obtain ⟨z, hz⟩ : ∃ z, bb + 2 ^ t * (q % 2 ^ k) = z := ⟨_, rfl⟩
      rw [hz] at hor hput
      clear hz
      have hkr : k ≤ r := by omega
      have hk1 : 1 ≤ k := by omega
      have hk8 : t + k ≤ 8 := by omega
      obtain ⟨c, hc⟩ : ∃ c, m / 8 = c := ⟨_, rfl⟩
      rw [hc] at H3 hxl h8c hlast hput
      have hmin : (if (r : Int) < 8 - (t : Int) then (r : Int) else 8 - (t : Int)) = (k : Int) := by split <;> omega
      have HPUT := Aside0.mk hput
      obtain ⟨xs, hxs⟩ : ∃ xs, byt M (c + 1) = xs := ⟨_, rfl⟩
      rw [hxs] at H3 hxl hlast HPUT
      obtain ⟨b, cap, rfl, hbb1, hbb2, _⟩ := Kd.R_form H3.row (by omega)
      have H3 := Aside0.mk H3
      clear hput hxs hbb hbt hqr hb256 hk
      have hc0 : wc.cell? ⟨g, 0, none⟩ = some (.slice (some ⟨b, 0, none⟩) xs.length cap) := (blk_cell H3.out.blk 0).trans rfl
      have hc1 : wc.cell? ⟨g, 1, none⟩ = some (.int .i64 t) := (blk_cell H3.out.blk 1).trans rfl
      obtain ⟨hcb, hfb⟩ := Kd.R_cell 0 H3.out.row ((c : Nat) : Int) (by omega) (by omega)
      rw [hlast] at hcb
      simp only [Int.toNat_natCast] at hcb hfb
      rw [hxl] at hc0
      go_upto_region 6 with (fail)
      go_region
      have H4 := Aside0.mk ((H3.out.put (by decide) c (z : Int)).drew)
      have HW4 := Aside0.mk ((HW3.out.put (b := b) rfl c (.int .u8 (z : Int))).drew)
      clear hc0 hc1 hcb hfb
      generalize (wc.setCell ⟨b, c, none⟩ (.int .u8 (z : Int))).drew = w4 at H4 HW4 ⊢
      have hc1 : w4.cell? ⟨g, 1, none⟩ = some (.int .i64 t) := (blk_cell H4.out.blk 1).trans rfl
      have hf1 := blk_frozen H4.out.blk 1
      have h7 := and7 (t + k) (by omega)
      rw [Int.natCast_add] at h7
      go_wp2
      rw [show ((t : Int) + (k : Int)) % 8 = (((t + k) % 8 : Nat) : Int) by omega]
      refine ⟨⟨d + k, r - k, _, by rw [Int.natCast_sub hkr], by omega, ?_, ⟨?_, ?_⟩, ⟨HW4.out.set 1 _⟩⟩, by simp [intOf]; omega⟩
      · rw [Nat.pow_add, ← Nat.div_div_eq_div_mul, hq]; simp
      · have h := H4.out.set (by decide) 1 (.int .i64 (((t + k) % 8 : Nat) : Int))
        rw [add_bits, hM, hq, hm]
        rw [show (len + (d + k) + 7) / 8 = c + 1 by omega, show (len + (d + k)) % 8 = (t + k) % 8 by omega, HPUT.out]
        exact h
      · rw [add_bits, hM, hq, hm, ← Nat.add_assoc, hm]
        exact lt_bits _ _ _ _ HN.out
end Go.Proofs.Ytlfcepdaicngjaa.Bw

/- bits.Writer: Len and Done, without its other methods. -/
namespace Go.Proofs.Ytlfcepdaicngjaa.Bw
set_option linter.unusedVariables false
set_option linter.unusedSimpArgs false
open Go Go.RowKit Go.Proofs.Ytlfcepdaicngjaa.P Go.Proofs.Ytlfcepdaicngjaa.B Go.Proofs.Ytlfcepdaicngjaa.Bn Go.Proofs.Ytlfcepdaicngjaa.Hd Go.Proofs.YtlfcepdaicngjaaW.PrintWords Go.Proofs.YtlfcepdaicngjaaW.PrintLast Go.Proofs.YtlfcepdaicngjaaW.PrintMore

/-- A new writer. -/
theorem IsBW.new (base : Nat) (W : World) (h : base ≤ W.heap.size) : IsBW base (W.alloc (.cells #[.slice none 0 0, .int .i64 0] 38)) W.heap.size (.slice none 0 0) 0 0 :=
  ⟨⟨heap_alloc_new W _, h, Kd.R_nil _ _ _ _ _⟩, by decide⟩
theorem IsBW.kept {base g N len : Nat} {W W1 : World} {v : Value} {S : Nat → Prop} (h : IsBW base W g v N len) (hk : Kept W W1 S) (hg : ¬ S g) (hr : ∀ k, v.ownBlock = some k → ¬ S k) : IsBW base W1 g v N len := ⟨h.1.kept hk hg hr, h.2⟩
theorem IsBW.below {base g N len : Nat} {W W1 : World} {v : Value} (h : IsBW base W g v N len) (hb : Below W.heap.size W W1) : IsBW base W1 g v N len := ⟨h.1.below hb, h.2⟩
theorem IsBW.drewN {base g N len : Nat} {W : World} {v : Value} (h : IsBW base W g v N len) (m : Nat) : IsBW base (W.drewN m) g v N len := ⟨h.1.drewN m, h.2⟩
theorem IsBW.alloc {base g N len : Nat} {W : World} {v : Value} (h : IsBW base W g v N len) (o : Obj) : IsBW base (W.alloc o) g v N len := ⟨h.1.alloc o, h.2⟩
/-- What is below the writer and its row stays. -/
theorem IsBW.under {base g N len : Nat} {w W W1 : World} {v v1 : Value} (h : IsBW base W g v N len) (hw : Wrote W W1 g v v1) (hb : Below base w W) : Below base w W1 := hw.below' h.1 hb

set_option maxHeartbeats 1000000 in
theorem len_calls (base g : Nat) (v : Value) (N len : Nat) (W : World) (hI : IsBW base W g v N len) (hl : len ≤ 2199023255552) :
    Calls Try.prog 20 #[.pointer (some ⟨g, 0, none⟩)] W fun e W' => e = .returned (.int .i64 len) ∧ Below W.heap.size W W' := by
  have HI := Aside0.mk hI
  clear hI
  obtain ⟨A, c, rfl⟩ := HI.out.bytes
  have hc0 : W.cell? ⟨g, 0, none⟩ = some (.slice A ((len + 7) / 8) c) := (blk_cell HI.out.1.blk 0).trans rfl
  have hc1 : W.cell? ⟨g, 1, none⟩ = some (.int .i64 ((len % 8 : Nat) : Int)) := (blk_cell HI.out.1.blk 1).trans rfl
  obtain ⟨q, hq⟩ : ∃ q, (len + 7) / 8 = q := ⟨_, rfl⟩
  obtain ⟨t, ht⟩ : ∃ t, len % 8 = t := ⟨_, rfl⟩
  rw [hq] at hc0
  rw [ht] at hc1
  have ht8 : t < 8 := by omega
  have h8 : 8 * q = len + (8 - t) % 8 := by omega
  have h7 : Go.bits .and .i64 (8 - (t : Int)) 7 = (((8 - t) % 8 : Nat) : Int) := by
    have h := and7 (8 - t) (by omega)
    rwa [Int.natCast_sub (by omega)] at h
  obtain ⟨p, hp⟩ : ∃ p, (8 - t) % 8 = p := ⟨_, rfl⟩
  rw [hp] at h7 h8
  clear hp
  have hp8 : p ≤ 8 := by omega
  go_enter Try.func20, Try.ntmps20
  go_upto_region 3 with (fail)
  go_quiet (fail)
  go_wp2
  go_ret
  refine ⟨?_, pw_below_drewN (Below.refl _ _) _⟩
  show Ending.returned (.int .i64 ((q : Int) * 8 - (p : Int))) = _
  rw [show (q : Int) * 8 - (p : Int) = (len : Int) by omega]
set_option maxHeartbeats 1000000 in
theorem done_calls (base g : Nat) (v : Value) (N len : Nat) (W : World) (hI : IsBW base W g v N len) (hl : len ≤ 2199023255552) :
    Calls Try.prog 18 #[.pointer (some ⟨g, 0, none⟩)] W fun e W' => e = .returned (.string ⟨(ofN ((len + 7) / 8) N).toArray⟩) ∧ Below W.heap.size W W' := by
  have HI := Aside0.mk hI
  clear hI
  obtain ⟨A, c, hv, hlc, hC⟩ := Kd.R_reads HI.out.1.row
  subst hv
  have hstr := Kd.C_string (P := Try.prog) (c := c) Try.underlying22 Try.underlying5 (dst := 9) Try.underlying9 hC
  have hc0 : W.cell? ⟨g, 0, none⟩ = some (.slice A (byt N ((len + 7) / 8)).length c) := (blk_cell HI.out.1.blk 0).trans rfl
  have e : strOfNums (byt N ((len + 7) / 8)) = ⟨(ofN ((len + 7) / 8) N).toArray⟩ := by
    unfold strOfNums byt
    rw [List.map_map]
    congr 2
    rw [show (fun n : Int => UInt8.ofNat n.toNat) ∘ (fun b : UInt8 => (b.toNat : Int)) = id from by funext b; simp, List.map_id]
  rw [e] at hstr
  obtain ⟨xs, hxs⟩ : ∃ xs, byt N ((len + 7) / 8) = xs := ⟨_, rfl⟩
  rw [hxs] at hstr hc0
  clear hC hlc hxs e
  go_enter Try.func18, Try.ntmps18
  go_wp2
  go_ret
  exact ⟨rfl, Below.refl _ _⟩
end Go.Proofs.Ytlfcepdaicngjaa.Bw

/- prefix.Code: its methods goes and Length: the walks. -/
namespace Go.Proofs.Ytlfcepdaicngjaa.Pk
set_option linter.unusedVariables false
set_option linter.unusedSimpArgs false
open Go Go.RowKit Go.Proofs.Ytlfcepdaicngjaa.P Go.Proofs.Ytlfcepdaicngjaa.MapV Go.Proofs.YtlfcepdaicngjaaW.PrintWords Go.Proofs.YtlfcepdaicngjaaW.PrintLast Go.Proofs.YtlfcepdaicngjaaW.PrintMore
theorem IsCode.below {w w' : World} {p : Nat} {ls ws : List Int} (h : IsCode w p ls ws) (hb : Below w.heap.size w w') : IsCode w' p ls ws := by
  obtain ⟨A1, c1, A2, c2, b, h1, h2, h3, h4⟩ := h
  exact ⟨A1, c1, A2, c2, b, (hb.block p (blk_lt h1)).trans h1, Kd.C_below h2 hb, Kd.C_below h3 hb, h4.below hb⟩
theorem IsCode.lt {w : World} {p : Nat} {ls ws : List Int} (h : IsCode w p ls ws) : p < w.heap.size := by
  obtain ⟨A1, c1, A2, c2, b, h1, _⟩ := h
  exact blk_lt h1
/-- Does the word of a place go on behind t bits v? -/
def goesP (ls ws : List Int) (v t i : Nat) : Prop := (t : Int) < ls.getD i 0 ∧ (ws.getD i 0).toNat / 2 ^ ((ls.getD i 0).toNat - t) = v
theorem shr32 (x t : Nat) (ht : t ≤ 31) : shr .u32 (x : Int) (t : Int) = ((x / 2 ^ t : Nat) : Int) := by
  unfold shr
  rw [Int.toNat_natCast, Nat.min_eq_left (by simp [IntKind.bits]; omega)]
  simp
set_option maxHeartbeats 4000000 in
set_option maxRecDepth 100000 in
theorem goes_calls (p v t : Nat) (ls ws : List Int) (w : World) (hk : CodeOk ls ws) (hC : IsCode w p ls ws) (hv : v < 4294967296) (ht : t ≤ 32) :
    Calls Try.prog 28 #[.pointer (some ⟨p, 0, none⟩), .int .u32 (v : Int), .int .i64 (t : Int)] w fun e w' => ∃ b, e = .returned (.bool b) ∧ (b = true ↔ ∃ i, i < ls.length ∧ goesP ls ws v t i) ∧ Below w.heap.size w w' := by
  have HK := Aside0.mk hk
  have hlen := hk.few
  have hwl := hk.len
  obtain ⟨A1, c1, A2, c2, mb, hP, hA1, hA2, hM⟩ := hC
  have HP := Aside0.mk hP
  have HA1 := Aside0.mk hA1
  have HA2 := Aside0.mk hA2
  have hc0 := blk_cell hP 0
  have hc1 := blk_cell hP 1
  simp only [List.getElem?_toArray, List.getElem?_cons_zero, List.getElem?_cons_succ] at hc0 hc1
  have HC1 := Aside0.mk hc1
  clear hP hA1 hA2 hM hk hc1
  go_enter Try.func28, Try.ntmps28
  go_wp2
  have HB := Aside0.mk (Below.refl w.heap.size w)
  go_loopw [14] (fun v14 wr => ∃ j : Nat, v14 = .int .i64 j ∧ j ≤ ls.length ∧ Aside0 (∀ i, i < j → ¬ goesP ls ws v t i) ∧ Aside0 (Below w.heap.size w wr))
    (fun v14 _ => ls.length - (intOf v14).toNat)
  case atStart => exact ⟨0, rfl, by omega, ⟨fun i hi => absurd hi (Nat.not_lt_zero _)⟩, HB⟩
  case round =>
    clear HB hc0
    obtain ⟨j, rfl, hj, HNO, HB⟩ := hrel
    have hc1 := (HB.out.cell (World.block_lt_of_cell? w _ HC1.out)).trans HC1.out
    by_cases hlt : j < ls.length
    · have hd : decide (j < ls.length) = true := decide_eq_true hlt
      have hd2 : decide (j < ws.length) = true := decide_eq_true (by omega)
      obtain ⟨ad, hA, hx⟩ := Kd.at_int HA1.out (j : Int) (by omega) (by omega)
      cases hA
      replace hx := (HB.out.cell (World.block_lt_of_cell? w _ hx)).trans hx
      have hg : rd ls (j : Int) = ls.getD j 0 := by unfold rd; rw [Int.toNat_natCast]
      rw [hg] at hx
      simp only [Int.toNat_natCast] at hx
      obtain ⟨ad2, hA2, hy⟩ := Kd.at_int HA2.out (j : Int) (by omega) (by omega)
      cases hA2
      replace hy := (HB.out.cell (World.block_lt_of_cell? w _ hy)).trans hy
      have hg2 : rd ws (j : Int) = ws.getD j 0 := by unfold rd; rw [Int.toNat_natCast]
      rw [hg2] at hy
      simp only [Int.toNat_natCast] at hy
      obtain ⟨h4, h5⟩ := HK.out.at_ j hlt
      have hgo : goesP ls ws v t j ↔ (t : Int) < ls.getD j 0 ∧ (ws.getD j 0).toNat / 2 ^ ((ls.getD j 0).toNat - t) = v := Iff.rfl
      have hww : 0 < ls.getD j 0 → 0 ≤ ws.getD j 0 ∧ ws.getD j 0 < 32768 := by
        intro hp
        obtain ⟨h6, h7, h8⟩ := HK.out.word j hlt (by omega)
        omega
      obtain ⟨x, hxx⟩ : ∃ x : Nat, ls.getD j 0 = (x : Int) := ⟨_, h4⟩
      obtain ⟨y, hyy⟩ : ∃ y, ws.getD j 0 = y := ⟨_, rfl⟩
      rw [hxx] at hx hgo hww
      rw [hyy] at hy hgo hww
      have hx15 : x ≤ 15 := by omega
      have HGO := Aside0.mk hgo
      clear hgo hxx hyy hg hg2 h4 h5
      by_cases hz : t < x
      · have hzb : decide (t < x) = true := decide_eq_true hz
        obtain ⟨y, rfl⟩ : ∃ z : Nat, y = (z : Int) := ⟨y.toNat, by have := hww (by omega); omega⟩
        have hsub : (x : Int) - (t : Int) = ((x - t : Nat) : Int) := by omega
        have hsh := shr32 y (x - t) (by omega)
        rw [Int.toNat_natCast, Int.toNat_natCast] at HGO
        have HCAST : Aside0 ((y : Int) / 2 ^ (x - t) = ((y / 2 ^ (x - t) : Nat) : Int)) := ⟨by simp⟩
        go_wp2
        · rename_i hq
          have he : y / 2 ^ (x - t) = v := by have := beq_iff_eq.1 hq; rw [HCAST.out] at this; omega
          go_ret
          exact ⟨true, rfl, by simp; exact ⟨j, hlt, HGO.out.2 ⟨by omega, he⟩⟩, HB.out⟩
        · rename_i hq
          have he : y / 2 ^ (x - t) ≠ v := fun e => by rw [HCAST.out, e] at hq; simp at hq
          refine ⟨⟨j + 1, by go_num, by omega, ⟨fun i hi => ?_⟩, HB⟩, by simp [intOf]; omega⟩
          by_cases hij : i = j
          · subst hij; exact fun q => he (HGO.out.1 q).2
          · exact HNO.out i (by omega)
      · have hzb : decide (t < x) = false := decide_eq_false hz
        go_wp2
        refine ⟨⟨j + 1, by go_num, by omega, ⟨fun i hi => ?_⟩, HB⟩, by simp [intOf]; omega⟩
        by_cases hij : i = j
        · subst hij; exact fun q => hz (by have := (HGO.out.1 q).1; omega)
        · exact HNO.out i (by omega)
    · have hd : decide (j < ls.length) = false := decide_eq_false hlt
      obtain rfl : j = ls.length := by omega
      go_wp2
      go_ret
      exact ⟨false, rfl, by simp; intro i hi; exact HNO.out i hi, HB.out⟩
end Go.Proofs.Ytlfcepdaicngjaa.Pk

/- prefix.New at any lengths: one contract. -/
namespace Go.Proofs.Ytlfcepdaicngjaa.Pk
set_option linter.unusedVariables false
set_option linter.unusedSimpArgs false
open Go Go.RowKit Go.Proofs.Ytlfcepdaicngjaa.P Go.Proofs.YtlfcepdaicngjaaW.PrintWords Go.Proofs.YtlfcepdaicngjaaW.PrintLast Go.Proofs.YtlfcepdaicngjaaW.PrintMore
theorem new_says (A0 : Option Addr) (c0 : Nat) (l0 : List Int) (o : Bool) (w : World) (hr0 : Kd.C (Kd.int .u8) w A0 l0.length l0) (hc0 : l0.length ≤ c0) (hu : ∀ x ∈ l0, 0 ≤ x) :
    Calls Try.prog 8 #[.slice A0 l0.length c0, .bool o] w fun e w' => Below w.heap.size w w' ∧
      ((∃ r, r ≠ 0 ∧ e = .returned (.tuple #[.pointer none, .int .i64 r])) ∨
       (∃ p n, w.heap.size ≤ p ∧ prefix_Fill.f 5000 l0 = some (n, 0) ∧ n ≤ 32768 ∧ okW l0 = true ∧ (32768 ≤ n ∨ o = true ∧ prefix_few.f 5000 l0 = some true) ∧ e = .returned (.tuple #[.pointer (some ⟨p, 0, none⟩), .int .i64 0]) ∧ IsCode w' p l0 (wordsW l0).2)) := by
  obtain ⟨n, e, hF, hW⟩ := words_total l0 hu
  by_cases he : e = 0
  · subst he
    by_cases hn : n > 32768
    · rw [if_pos rfl, if_pos hn] at hW
      exact (new_bad A0 c0 l0 _ _ o w hr0 hc0 hW (by decide)).mono fun x w' ⟨h1, h2⟩ => ⟨h2, .inl ⟨10, by decide, h1⟩⟩
    · rw [if_pos rfl, if_neg hn] at hW
      have hok := fill_okW l0 n hu hF
      obtain ⟨hlen, hall⟩ : l0.length ≤ 4096 ∧ ∀ x ∈ l0, 0 ≤ x ∧ x ≤ 15 := by simpa [okW] using hok
      obtain ⟨b, hb⟩ := few_total l0 hlen
      by_cases h : 32768 ≤ n ∨ n < 32768 ∧ o = true ∧ prefix_few.f 5000 l0 = some true
      · exact (new_ok A0 c0 l0 _ n o w hr0 hc0 hW hF hlen (wordsW_length l0) hall (wordsW_B32 l0) h).mono fun x w' ⟨p, h1, h2, h3, h4⟩ => ⟨h4, .inr ⟨p, n, h1, hF, by omega, hok, h.imp id (fun q => q.2), h2, h3⟩⟩
      · have hn2 : n < 32768 := by
          rcases Int.lt_or_le n 32768 with q | q
          · exact q
          · exact absurd (.inl q) h
        refine (new_shut A0 c0 l0 _ n o w hr0 hc0 hW hF hn2 ?_).mono fun x w' ⟨h1, h2⟩ => ⟨h2, .inl ⟨10, by decide, h1⟩⟩
        cases o with
        | false => exact .inl rfl
        | true =>
          cases b with
          | false => exact .inr ⟨rfl, hb⟩
          | true => exact absurd (.inr ⟨hn2, rfl, hb⟩) h
  · rw [if_neg he] at hW
    exact (new_bad A0 c0 l0 _ e o w hr0 hc0 hW he).mono fun x w' ⟨h1, h2⟩ => ⟨h2, .inl ⟨e, he, h1⟩⟩
end Go.Proofs.Ytlfcepdaicngjaa.Pk

/- What the data of a law's argument say of the memory: for any type that is made of whole numbers, bools, strings, structs and slices. -/
namespace Go.Proofs.Ytlfcepdaicngjaa.Opens
set_option linter.unusedVariables false
set_option linter.unusedSimpArgs false
open Go Go.RowKit Go.Proofs.YtlfcepdaicngjaaW.PrintWords Go.Proofs.YtlfcepdaicngjaaW.PrintLast Go.Proofs.YtlfcepdaicngjaaW.PrintMore
section
variable {P : Program}
/-- Whatever reads as data of type t says an element of kind d. -/
structure Opens {α : Type} (P : Program) (t : TypeId) (d : Kd α) (ok : α → Prop) : Prop where
  size : P.cellsOf t = d.sz
  get : ∀ {H : Type} {enc : TypeId × Value → H} {w : World} {base : Nat} {spare : Nat → Bool} {held : Bool} {fuel : Nat} {cs : List Value} {x : DataW H × List MemPlace},
    DataW.trod enc P w base spare held fuel t cs = some x → ∃ a, d.K w a cs ∧ ok a
theorem Opens.int {t : TypeId} {k : IntKind} (hu : P.underlying t = some (.int k)) (hs : P.cellsOf t = 1) : Opens P t (Kd.int k) (fun n => (Lit.int k n).wf = true) :=
  ⟨hs, fun h => by obtain ⟨n, rfl, _, hw⟩ := DataW.trod_int hu h; exact ⟨n, rfl, hw⟩⟩
theorem Opens.bool {t : TypeId} (hu : P.underlying t = some .bool) (hs : P.cellsOf t = 1) : Opens P t Kd.bool (fun _ => True) :=
  ⟨hs, fun h => by obtain ⟨b, rfl, _⟩ := DataW.trod_bool hu h; exact ⟨b, rfl, trivial⟩⟩
theorem Opens.string {t : TypeId} (hu : P.underlying t = some .string) (hs : P.cellsOf t = 1) : Opens P t Kd.string (fun s => s.size ≤ maxLen) :=
  ⟨hs, fun h => by obtain ⟨s, rfl, _, hl⟩ := DataW.trod_string hu h; exact ⟨s, rfl, hl⟩⟩
/-- A slice's cells: its length, and the row that is read. -/
theorem slice_row {α : Type} {t e : TypeId} {d : Kd α} {ok : α → Prop} (hu : P.underlying t = some (.slice e)) (ho : Opens P e d ok)
    {H : Type} {enc : TypeId × Value → H} {w : World} {base : Nat} {spare : Nat → Bool} {held : Bool} {fuel : Nat} {cs : List Value} {x : DataW H × List MemPlace}
    (h : DataW.trod enc P w base spare held fuel t cs = some x) :
    ∃ A c, ∃ xs : List α, cs = [.slice A xs.length c] ∧ xs.length ≤ c ∧ d.C w A xs.length xs ∧ (∀ a ∈ xs, ok a) ∧ (x.1 = .nil ∧ xs = [] ∨ ∃ elems rest, x.1 = .slice elems rest ∧ elems.length = xs.length) := by
  rcases DataW.trod_slice hu h with ⟨rfl, rfl⟩ | ⟨a, len, cap, elems, rest, n, _, rfl, rfl, _, hl, hm, hlen, hel, _, _⟩
  · exact ⟨none, 0, [], rfl, Nat.le_refl _, ⟨rfl, by simp, fun h0 => absurd h0 (by simp)⟩, (fun a ha => by cases ha), .inl ⟨rfl, rfl⟩⟩
  · have each : ∀ i : Fin len, ∃ p, ok p ∧ ∃ c, c.length = d.sz ∧ d.K w p c ∧ ∀ j u, c[j]? = some u → w.cell? (a.add (i * d.sz + j)) = some u := by
      intro i
      have h1 := hel i i.2
      have h2 : (i : Nat) < elems.length := by have := i.2; omega
      rw [List.getElem?_eq_getElem h2, Option.bind_eq_some_iff] at h1
      obtain ⟨cs', hcs, ht⟩ := h1
      obtain ⟨_, hcl, hcc⟩ := World.cells?_some hcs
      obtain ⟨p, hp, hok⟩ := ho.get ht
      rw [ho.size] at hcl hcc
      refine ⟨p, hok, cs', hcl, hp, fun j u hj => ?_⟩
      have hj2 : j < d.sz := by
        rw [← hcl]
        exact (List.getElem?_eq_some_iff.1 hj).1
      have h3 := hcc j hj2
      rw [hj] at h3
      rw [← h3, add_add]
    have hg : ∀ (j : Nat) (p : α), (List.ofFn fun i => Classical.choose (each i))[j]? = some p → ∃ hj : j < len, p = Classical.choose (each ⟨j, hj⟩) := by
      intro j p hp
      obtain ⟨hj, he⟩ := List.getElem?_eq_some_iff.1 hp
      rw [List.length_ofFn] at hj
      refine ⟨hj, ?_⟩
      rw [← he, List.getElem_ofFn]
    refine ⟨some a, cap, List.ofFn fun i => Classical.choose (each i), by rw [List.length_ofFn], by rw [List.length_ofFn]; exact hl, ⟨rfl, ?_, fun _ => ⟨a, rfl, fun j p hp => ?_⟩⟩, ?_, .inr ⟨_, _, rfl, by rw [List.length_ofFn, List.length_map, hlen]⟩⟩
    · rw [List.length_ofFn]
      unfold maxLen at hm
      omega
    · obtain ⟨hj, rfl⟩ := hg j p hp
      obtain ⟨_, c, hc, hk, hcell⟩ := Classical.choose_spec (each ⟨j, hj⟩)
      exact ⟨c, hc, hk, hcell⟩
    · intro p hp
      obtain ⟨j, hj⟩ := List.getElem?_of_mem hp
      obtain ⟨hj', rfl⟩ := hg j p hj
      exact (Classical.choose_spec (each ⟨j, hj'⟩)).1
theorem Opens.slice {α : Type} {t e : TypeId} {d : Kd α} {ok : α → Prop} (hu : P.underlying t = some (.slice e)) (hs : P.cellsOf t = 1) (ho : Opens P e d ok) : Opens P t (Kd.slice e d) (fun xs => ∀ a ∈ xs, ok a) :=
  ⟨hs, fun h => by obtain ⟨A, c, xs, rfl, hl, hc, hok, _⟩ := slice_row hu ho h; exact ⟨xs, ⟨A, c, rfl, hl, hc⟩, hok⟩⟩
/-- A law's slice argument: what it reads as, and how long it is at most. -/
theorem open_row {α : Type} {t e : TypeId} {d : Kd α} {ok : α → Prop} (hu : P.underlying t = some (.slice e)) (ho : Opens P e d ok)
    {H : Type} {enc : TypeId × Value → H} {w : World} {base : Nat} {spare : Nat → Bool} {held : Bool} {a : Option Addr} {len cap : Nat} {dd : DataW H} {ps : List MemPlace} {ts : List TypeId} {ds : List (DataW H)} {j : Nat}
    (hsz : (DataW.weightsEach P ts ds).all (· ≤ reachBytes) = true) (ht : ts[j]? = some t) (hd : ds[j]? = some dd)
    (h : DataW.Trod enc P w base spare held t (.slice a len cap) dd ps) :
    ∃ xs : List α, xs.length = len ∧ len ≤ cap ∧ d.C w a xs.length xs ∧ (∀ x ∈ xs, ok x) ∧ xs.length * P.bytesOf e ≤ 140737488351232 := by
  obtain ⟨fuel, hf⟩ := h
  obtain ⟨A, c, xs, hcs, hl, hc, hok, hx⟩ := slice_row hu ho hf
  simp [Value.cells] at hcs
  obtain ⟨rfl, rfl, rfl⟩ := hcs
  refine ⟨xs, rfl, hl, hc, hok, ?_⟩
  rcases hx with ⟨_, rfl⟩ | ⟨elems, rest, hx, he⟩
  · simp
  · simp only at hx
    subst hx
    have z := Go.sized_slice hsz ht hd hu
    have h3 : xs.length ≤ elems.length + rest.length := by omega
    exact Nat.le_trans (Nat.mul_le_mul_right _ h3) z
end
end Go.Proofs.Ytlfcepdaicngjaa.Opens

/- prefix.Code: Length and Sign: the walks. -/
namespace Go.Proofs.Ytlfcepdaicngjaa.Pk
set_option linter.unusedVariables false
set_option linter.unusedSimpArgs false
open Go Go.RowKit Go.Proofs.Ytlfcepdaicngjaa.P Go.Proofs.Ytlfcepdaicngjaa.MapV Go.Proofs.Ytlfcepdaicngjaa.B Go.Proofs.Ytlfcepdaicngjaa.Bn Go.Proofs.Ytlfcepdaicngjaa.Rd Go.Proofs.YtlfcepdaicngjaaW.PrintWords Go.Proofs.YtlfcepdaicngjaaW.PrintLast Go.Proofs.YtlfcepdaicngjaaW.PrintMore
set_option maxHeartbeats 4000000 in
set_option maxRecDepth 100000 in
theorem length_calls (p : Nat) (x : Int) (ls ws : List Int) (w : World) (hk : CodeOk ls ws) (hC : IsCode w p ls ws) :
    Calls Try.prog 12 #[.pointer (some ⟨p, 0, none⟩), .int .i64 x] w fun e w' => e = .returned (.int .i64 (if 0 ≤ x ∧ x < ls.length then ls.getD x.toNat 0 else 0)) ∧ Below w.heap.size w w' := by
  have HK := Aside0.mk hk
  obtain ⟨A1, c1, A2, c2, mb, hP, hA1, hA2, hM⟩ := hC
  have HA1 := Aside0.mk hA1
  have hc0 := blk_cell hP 0
  simp only [List.getElem?_toArray, List.getElem?_cons_zero, List.getElem?_cons_succ] at hc0
  clear hP hA1 hA2 hM hk
  by_cases h0 : x < 0
  · have hd0 : decide (x < 0) = true := decide_eq_true h0
    rw [if_neg (by omega)]
    go_enter Try.func12, Try.ntmps12
    go_wp2
    go_ret
    exact ⟨rfl, Below.refl _ _⟩
  have hd0 : decide (x < 0) = false := decide_eq_false h0
  by_cases h1 : (ls.length : Int) ≤ x
  · have hd1 : decide ((ls.length : Int) ≤ x) = true := decide_eq_true h1
    rw [if_neg (by omega)]
    go_enter Try.func12, Try.ntmps12
    go_wp2
    go_ret
    exact ⟨rfl, Below.refl _ _⟩
  have hd1 : decide ((ls.length : Int) ≤ x) = false := decide_eq_false h1
  rw [if_pos (by omega)]
  obtain ⟨ad, hA, hx⟩ := Kd.at_int HA1.out x (by omega) (by omega)
  cases hA
  have hg : rd ls x = ls.getD x.toNat 0 := rfl
  rw [hg] at hx
  obtain ⟨h4, h5⟩ := HK.out.at_ x.toNat (by omega)
  obtain ⟨y, hyy⟩ : ∃ y : Nat, ls.getD x.toNat 0 = (y : Int) := ⟨_, h4⟩
  rw [hyy] at hx
  rw [hyy]
  have hy15 : y ≤ 15 := by omega
  clear h4 h5 hg hyy
  have hlt : decide (x < ls.length) = true := decide_eq_true (by omega)
  go_enter Try.func12, Try.ntmps12
  go_wp2
  go_ret
  exact ⟨rfl, Below.refl _ _⟩
/-- What Sign answers at a place. -/
def SignR (ls ws : List Int) (s : ByteArray) (a : Nat) (x er : Int) (a' : Nat) : Prop :=
  let t := min (mostW ls ls.length).toNat (8 * s.size - a)
  (∃ i l, ∃ hi : i < ls.length, er = 0 ∧ x = (i : Int) ∧ 1 ≤ l ∧ l ≤ t ∧ (nat ls)[i]'(by rw [nat_len]; exact hi) = l ∧ wordN (nat ls) i = rvs (num s a t) l ∧ (∀ k, 1 ≤ k → k < l → signsG ls ws ls.length (wd (k : Int) ((rvs (num s a t) k : Nat) : Int)) = none) ∧ a' = a + l) ∨
  (x = -1 ∧ a' = a ∧ (∀ k, 1 ≤ k → k ≤ t → signsG ls ws ls.length (wd (k : Int) ((rvs (num s a t) k : Nat) : Int)) = none) ∧
    (er = 3 ∧ (t : Int) < mostW ls ls.length ∧ (∃ i, i < ls.length ∧ goesP ls ws (rvs (num s a t) t) t i) ∨ er = 10 ∧ ((t : Int) < mostW ls ls.length → ¬ ∃ i, i < ls.length ∧ goesP ls ws (rvs (num s a t) t) t i)))
theorem or_bit (n b : Nat) (hn : n < 2147483648) (hb : b < 2) : Go.bits .or .u32 ((2 * n : Nat) : Int) (b : Int) = ((2 * n + b : Nat) : Int) := by
  have h := (bits_nat .u32 32 (by decide) (fun n h0 h1 => by simp [IntKind.wrap, IntKind.bits, IntKind.signed]; omega) (2 * n) b (by omega) (by omega)).2
  rw [h, show 2 * n = 2 ^ 1 * n by omega, ← Nat.two_pow_add_eq_or_of_lt (by omega)]
theorem and1 (x : Nat) (hx : x < 4294967296) : Go.bits .and .u32 (x : Int) 1 = ((x % 2 : Nat) : Int) := by
  have h := (bits_nat .u32 32 (by decide) (fun n h0 h1 => by simp [IntKind.wrap, IntKind.bits, IntKind.signed]; omega) x 1 (by omega) (by omega)).1
  rw [show ((1 : Nat) : Int) = 1 from rfl] at h
  rw [h, Nat.and_one_is_mod]
set_option maxHeartbeats 8000000 in
set_option maxRecDepth 100000 in
theorem sign_calls (p g a : Nat) (s : ByteArray) (ls ws : List Int) (w0 w : World) (hk : CodeOk ls ws) (hC : IsCode w0 p ls ws) (hI : IsS70 w0 w g s a 0) (hB : Below w0.heap.size w0 w) (hs : s.size ≤ 1000000) (ha : a ≤ 8 * s.size) :
    Calls Try.prog 11 #[.pointer (some ⟨p, 0, none⟩), .pointer (some ⟨g, 0, none⟩)] w fun e w' => ∃ (x er : Int) (a' : Nat), e = .returned (.tuple #[.int .i64 x, .int .i64 er]) ∧ SignR ls ws s a x er a' ∧ a' ≤ 8 * s.size ∧ IsS70 w0 w' g s a' 0 ∧ Below w0.heap.size w0 w' ∧ KeepBut w w' g none := by
  have HK := Aside0.mk hk
  have HI := Aside0.mk hI
  have HB := Aside0.mk hB
  have HC := Aside0.mk hC
  have HKB := Aside0.mk (KeepBut.refl w g none)
  have hmr := mostW_range ls hk.rng ls.length (Nat.le_refl _)
  obtain ⟨m, hm⟩ : ∃ m : Nat, mostW ls ls.length = (m : Int) := ⟨(mostW ls ls.length).toNat, by omega⟩
  rw [hm] at hmr
  obtain ⟨A1, c1, A2, c2, mb, hP, hA1, hA2, hM⟩ := hC
  have HM := Aside0.mk hM
  have hc3 := blk_cell hP 3
  have hc2 := blk_cell hP 2
  simp only [List.getElem?_toArray, List.getElem?_cons_zero, List.getElem?_cons_succ] at hc3 hc2
  rw [hm] at hc3
  have HC2 := Aside0.mk hc2
  have HC3 := Aside0.mk hc3
  replace hc3 := (hB.cell (World.block_lt_of_cell? w0 _ hc3)).trans hc3
  have hpk := peek_in s a m hs ha (by omega)
  obtain ⟨t, ht⟩ : ∃ t, min m (8 * s.size - a) = t := ⟨_, rfl⟩
  rw [ht] at hpk
  obtain ⟨v, hv⟩ : ∃ v, num s a t = v := ⟨_, rfl⟩
  rw [hv] at hpk
  have hvl := num_lt s a t
  rw [hv] at hvl
  have htm : t ≤ m := by omega
  have ht2 : t ≤ 8 * s.size - a := by omega
  have hp15 : (2 : Nat) ^ t ≤ 2 ^ 15 := Nat.pow_le_pow_right (by omega) (by omega)
  have HPK := Aside0.mk hpk
  have HR : Aside0 (∀ x er a', SignR ls ws s a x er a' ↔ ((∃ i l, ∃ hi : i < ls.length, er = 0 ∧ x = (i : Int) ∧ 1 ≤ l ∧ l ≤ t ∧ (nat ls)[i]'(by rw [nat_len]; exact hi) = l ∧ wordN (nat ls) i = rvs v l ∧ (∀ k, 1 ≤ k → k < l → signsG ls ws ls.length (wd (k : Int) ((rvs v k : Nat) : Int)) = none) ∧ a' = a + l) ∨
    (x = -1 ∧ a' = a ∧ (∀ k, 1 ≤ k → k ≤ t → signsG ls ws ls.length (wd (k : Int) ((rvs v k : Nat) : Int)) = none) ∧
    (er = 3 ∧ (t : Int) < m ∧ (∃ i, i < ls.length ∧ goesP ls ws (rvs v t) t i) ∨ er = 10 ∧ ((t : Int) < m → ¬ ∃ i, i < ls.length ∧ goesP ls ws (rvs v t) t i))))) := ⟨fun x er a' => by unfold SignR; rw [hm, Int.toNat_natCast, ht]; dsimp only; rw [hv]⟩
  clear hP hA1 hA2 hM hk hpk hI hB hc2 hv ht hm
  go_enter Try.func11, Try.ntmps11
  go_wp2_with (first
    | (go_at_call 25; refine (bits_Reader_Err.calls g s (a : Int) 0 _ _ _ _ w0 _ HI.out HB.out rfl).mono ?_; rintro e w1 ⟨rfl, hi, hb, hkb⟩; have HI1 := Aside0.mk hi; have HB1 := Aside0.mk hb; have HKB1 := Aside0.mk hkb; clear hi hb hkb; replace hc3 := (HB1.out.cell (World.block_lt_of_cell? w0 _ HC3.out)).trans HC3.out)
    | (go_at_call 26; refine (bits_Reader_Peek.calls 50 g s (a : Int) 0 (m : Int) _ _ _ _ _ w0 _ HI1.out HB1.out HPK.out).mono ?_; rintro e w2 ⟨rfl, hi, hb, hkb⟩; have HI2 := Aside0.mk hi; have HB2 := Aside0.mk hb; have HKB2 := Aside0.mk (HKB1.out.trans hkb (.inl rfl)); clear hi hb hkb))
  go_loopw [8, 9] (fun v8 v9 wr => ∃ l : Nat, v9 = .int .i64 ((l + 1 : Nat) : Int) ∧ l ≤ t ∧ v8 = .int .u32 ((rvs v l : Nat) : Int) ∧ Aside0 (∀ k, 1 ≤ k → k ≤ l → signsG ls ws ls.length (wd (k : Int) ((rvs v k : Nat) : Int)) = none) ∧ Aside0 (IsS70 w0 wr g s a 0) ∧ Aside0 (Below w0.heap.size w0 wr) ∧ Aside0 (KeepBut w wr g none))
    (fun _ v9 _ => t + 2 - (intOf v9).toNat)
  case atStart => exact ⟨0, rfl, by omega, rfl, ⟨fun k h1 h2 => by omega⟩, HI2, HB2, HKB2⟩
  case round =>
    clear HI2 HB2 HKB2 HI1 HB1 HKB1 HI HB hc3
    obtain ⟨l, rfl, hl, rfl, HNO, HI, HB, HKW⟩ := hrel
    have hc3 := (HB.out.cell (World.block_lt_of_cell? w0 _ HC3.out)).trans HC3.out
    have hc2 := (HB.out.cell (World.block_lt_of_cell? w0 _ HC2.out)).trans HC2.out
    by_cases hlt : l < t
    · have hd : decide ((l : Int) + 1 ≤ (t : Int)) = true := decide_eq_true (by omega)
      have hd2 : decide (l + 1 ≤ t) = true := decide_eq_true (by omega)
      have hrl := rvs_lt v l
      have hr15 : (2 : Nat) ^ l ≤ 2 ^ 15 := Nat.pow_le_pow_right (by omega) (by omega)
      have e2 := and1 (v / 2 ^ l) (Nat.lt_of_le_of_lt (Nat.div_le_self _ _) (by omega))
      have e3 := or_bit (rvs v l) (v / 2 ^ l % 2) (by omega) (by omega)
      have e4 : 2 * rvs v l + v / 2 ^ l % 2 = rvs v (l + 1) := rfl
      have hbit : Go.bits .or .u32 (((rvs v l : Nat) : Int) * 2) (Go.bits .and .u32 ((v : Int) / 2 ^ l) 1) = ((rvs v (l + 1) : Nat) : Int) := by
        rw [e4] at e3
        rw [show (v : Int) / 2 ^ l = ((v / 2 ^ l : Nat) : Int) by simp, e2, show ((rvs v l : Nat) : Int) * 2 = ((2 * rvs v l : Nat) : Int) by omega, e3]
      clear e2 e3 e4
      have hM : OwnsV encW wr mb (signsG ls ws ls.length) := HM.out.below HB.out
      have hlook := lookup_run (t := 64) (ok := true) keyedW Try.underlying64 zeroI encW_inj key_okW hM (wd ((l + 1 : Nat) : Int) ((rvs v (l + 1) : Nat) : Int))
      have hr2 := rvs_lt v (l + 1)
      have hr3 : (2 : Nat) ^ (l + 1) ≤ 2 ^ 15 := Nat.pow_le_pow_right (by omega) (by omega)
      rw [enc_wd _ _ (by omega) (by omega) (by omega) (by omega)] at hlook
      rw [show (((l + 1 : Nat) : Int)) = (l : Int) + 1 by omega] at hlook
      obtain ⟨q, hq⟩ : ∃ q, rvs v (l + 1) = q := ⟨_, rfl⟩
      have HQ := Aside0.mk hq
      rw [hq] at hbit hlook hr2
      have hq32 : q < 4294967296 := by omega
      have hrl2 : rvs v l < 65536 := by omega
      clear hM hq hr3 hrl hr15 hr2
      cases hG : signsG ls ws ls.length (wd ((l : Int) + 1) (q : Int)) with
      | none =>
        rw [hG] at hlook
        have HG := Aside0.mk hG
        clear hG
        simp only [Option.getD_none, Option.isSome_none, if_true] at hlook
        go_wp2
        refine ⟨⟨l + 1, by go_num, by omega, by rw [HQ.out], ⟨fun k h1 h2 => ?_⟩, HI, HB, HKW⟩, by simp [intOf]; omega⟩
        by_cases hkl : k = l + 1
        · subst hkl
          rw [HQ.out]
          exact HG.out
        · exact HNO.out k h1 (by omega)
      | some u =>
        rw [hG] at hlook
        obtain ⟨i, hi, rfl, _, h1, h2⟩ := HK.out.look (l + 1) q (by omega) hq32 u (by rw [← hG]; rfl)
        clear hG
        simp only [Option.getD_some, Option.isSome_some, if_true] at hlook
        have hsk := skip_in s a (l + 1) hs (by omega)
        have HSK := Aside0.mk hsk
        clear hsk
        go_wp2_with (go_at_call 27; refine (bits_Reader_Skip.calls g s (a : Int) 0 ((l + 1 : Nat) : Int) _ _ _ w0 _ HI.out HB.out HSK.out).mono ?_; rintro e w3 ⟨rfl, hi3, hb3, hkb3⟩; have HI3 := Aside0.mk hi3; have HB3 := Aside0.mk hb3; have HKB3 := Aside0.mk (HKW.out.trans hkb3 (.inl rfl)); clear hi3 hb3 hkb3)
        go_ret2
        refine ⟨(i : Int), 0, a + (l + 1), rfl, (HR.out _ _ _).2 (.inl ⟨i, l + 1, hi, rfl, rfl, by omega, by omega, h1, h2.trans HQ.out.symm, fun k q1 q2 => HNO.out k q1 (by omega), rfl⟩), by omega, HI3.out, HB3.out, HKB3.out⟩
    · have hd : decide ((l : Int) + 1 ≤ (t : Int)) = false := decide_eq_false (by omega)
      have hd2 : decide (l + 1 ≤ t) = false := decide_eq_false (by omega)
      obtain rfl : l = t := by omega
      have hr2 := rvs_lt v l
      by_cases hm : l < m
      · have hm1 : decide (l < m) = true := decide_eq_true hm
        go_wp2_with (go_at_call 28; refine (goes_calls p (rvs v l) l ls ws _ HK.out (HC.out.below HB.out) (by omega) (by omega)).mono ?_; rintro e w3 ⟨b, rfl, hb1, hb2⟩; have HB1 := Aside0.mk hb1; have HB2 := Aside0.mk hb2; clear hb1 hb2)
        · rename_i hb
          go_ret2
          exact ⟨-1, 3, a, rfl, (HR.out _ _ _).2 (.inr ⟨rfl, rfl, HNO.out, .inl ⟨rfl, by omega, HB1.out.1 hb⟩⟩), ha, IsS70.below HI.out HB2.out, below_step HB.out HB2.out, HKW.out.trans (KeepBut.of_below HB2.out _ none) (.inl rfl)⟩
        · rename_i hb
          go_ret2
          exact ⟨-1, 10, a, rfl, (HR.out _ _ _).2 (.inr ⟨rfl, rfl, HNO.out, .inr ⟨rfl, fun _ q => by rw [HB1.out.2 q] at hb; cases hb⟩⟩), ha, IsS70.below HI.out HB2.out, below_step HB.out HB2.out, HKW.out.trans (KeepBut.of_below HB2.out _ none) (.inl rfl)⟩
      · have hm1 : decide (l < m) = false := decide_eq_false hm
        go_wp2
        go_ret2
        refine ⟨-1, 10, a, rfl, (HR.out _ _ _).2 (.inr ⟨rfl, rfl, HNO.out, .inr ⟨rfl, fun q => absurd q (by omega)⟩⟩), ha, HI.out, HB.out, HKW.out⟩
end Go.Proofs.Ytlfcepdaicngjaa.Pk

/- Bits in the other order. Plain Lean. -/
namespace Go.Proofs.Ytlfcepdaicngjaa.D3
set_option linter.unusedVariables false
set_option linter.unusedSimpArgs false
open Go Go.RowKit Go.Proofs.Ytlfcepdaicngjaa.P Go.Proofs.Ytlfcepdaicngjaa.B Go.Proofs.Ytlfcepdaicngjaa.Bn Go.Proofs.YtlfcepdaicngjaaW.PrintWords Go.Proofs.YtlfcepdaicngjaaW.PrintLast Go.Proofs.YtlfcepdaicngjaaW.PrintMore

theorem u32_mod (x : Int) : IntKind.u32.wrap x = x % 4294967296 := by simp [IntKind.wrap, IntKind.bits, IntKind.signed]
def rev (v : Nat) : Nat → Nat
  | 0 => 0
  | i + 1 => 2 * rev v i + v / 2 ^ i % 2
theorem rev_lt (v : Nat) : ∀ i, rev v i < 2 ^ i
  | 0 => by simp [rev]
  | i + 1 => by have := rev_lt v i; rw [rev, Nat.pow_succ]; omega
theorem rev_bit (v : Nat) : ∀ n j, (rev v n).testBit j = (decide (j < n) && v.testBit (n - 1 - j)) := by
  intro n
  induction n with
  | zero => intro j; simp [rev]
  | succ n ih =>
    intro j
    rw [rev]
    cases j with
    | zero =>
      rw [Nat.testBit_zero, Nat.testBit_eq_decide_div_mod_eq]
      simp
    | succ j =>
      rw [Nat.testBit_succ, show (2 * rev v n + v / 2 ^ n % 2) / 2 = rev v n by omega, ih]
      rw [show n + 1 - 1 - (j + 1) = n - 1 - j by omega]
      congr 1
      simp
theorem rev_rev (v n : Nat) : rev (rev v n) n = v % 2 ^ n := by
  apply Nat.eq_of_testBit_eq
  intro j
  rw [rev_bit, rev_bit, Nat.testBit_mod_two_pow]
  by_cases h : j < n
  · simp [h, show n - 1 - j < n by omega, show n - 1 - (n - 1 - j) = j by omega]
  · simp [h]
theorem rev_at (v n k : Nat) (h : k < n) : rev v n / 2 ^ k % 2 = v / 2 ^ (n - 1 - k) % 2 := by
  have h1 := rev_bit v n k
  rw [Nat.testBit_eq_decide_div_mod_eq, Nat.testBit_eq_decide_div_mod_eq] at h1
  simp only [h, decide_true, Bool.true_and] at h1
  have h2 := Nat.mod_two_eq_zero_or_one (rev v n / 2 ^ k)
  have h3 := Nat.mod_two_eq_zero_or_one (v / 2 ^ (n - 1 - k))
  rcases h2 with h2 | h2 <;> rcases h3 with h3 | h3 <;> simp [h2, h3] at h1 ⊢
theorem and1 (x : Nat) (hx : x < 4294967296) : Go.bits .and .u32 (x : Int) 1 = ((x % 2 : Nat) : Int) := by
  have h := (bits_nat .u32 32 (by decide) (fun n h0 h1 => by simp [IntKind.wrap, IntKind.bits, IntKind.signed]; omega) x 1 (by omega) (by omega)).1
  rw [show ((1 : Nat) : Int) = 1 from rfl] at h
  rw [h, Nat.and_one_is_mod]
theorem turn_loop (v n : Nat) (hv : v < 4294967296) (hn : n ≤ 32) : ∀ (d k i : Nat), i + d = n → d < k → bits_Turn.l0 k v n ((2 ^ (n - i) * rev v i : Nat) : Int) n i = some ((rev v n : Nat) : Int) := by
  intro d
  induction d with
  | zero =>
    intro k i h hk
    obtain ⟨k, rfl⟩ : ∃ m, k = m + 1 := ⟨k - 1, by omega⟩
    obtain rfl : i = n := by omega
    rw [bits_Turn.l0, if_neg (by omega)]
    simp
  | succ d ih =>
    intro k i h hk
    obtain ⟨k, rfl⟩ : ∃ m, k = m + 1 := ⟨k - 1, by omega⟩
    have w1 : wrap64 ((n : Int) - 1) = ((n - 1 : Nat) : Int) := by rw [wrap_id (by omega) (by omega)]; omega
    have w2 : wrap64 (((n - 1 : Nat) : Int) - (i : Int)) = ((n - 1 - i : Nat) : Int) := by rw [wrap_id (by omega) (by omega)]; omega
    rw [bits_Turn.l0, if_pos (by omega), if_pos (by omega), w1, w2, if_pos (by omega), wrap_id (by omega) (by omega)]
    have e1 : shr .u32 (v : Int) (i : Int) = ((v / 2 ^ i : Nat) : Int) := by
      unfold shr
      rw [Int.toNat_natCast, Nat.min_eq_left (by simp [IntKind.bits]; omega)]
      simp
    have hb : v / 2 ^ i < 4294967296 := Nat.lt_of_le_of_lt (Nat.div_le_self _ _) hv
    rw [e1, and1 _ hb]
    have hm : v / 2 ^ i % 2 < 2 := Nat.mod_lt _ (by decide)
    have hp : 2 ^ (n - 1 - i) ≤ 2 ^ 31 := Nat.pow_le_pow_right (by decide) (by omega)
    have e2 : shl .u32 ((v / 2 ^ i % 2 : Nat) : Int) ((n - 1 - i : Nat) : Int) = ((2 ^ (n - 1 - i) * (v / 2 ^ i % 2) : Nat) : Int) := by
      unfold shl
      rw [Int.toNat_natCast, Nat.min_eq_left (by simp [IntKind.bits]; omega)]
      have e3 : ((v / 2 ^ i % 2 : Nat) : Int) * 2 ^ (n - 1 - i) = ((2 ^ (n - 1 - i) * (v / 2 ^ i % 2) : Nat) : Int) := by rw [Nat.mul_comm]; simp
      rw [e3]
      have : 2 ^ (n - 1 - i) * (v / 2 ^ i % 2) ≤ 2 ^ 31 * 1 := Nat.mul_le_mul hp (by omega)
      rw [u32_mod]
      omega
    rw [e2]
    have hr := rev_lt v i
    have hbig : 2 ^ (n - i) * rev v i < 2 ^ 32 := by
      calc 2 ^ (n - i) * rev v i < 2 ^ (n - i) * 2 ^ i := Nat.mul_lt_mul_of_pos_left hr (Nat.pow_pos (by decide))
        _ = 2 ^ n := by rw [← Nat.pow_add]; congr 1; omega
        _ ≤ 2 ^ 32 := Nat.pow_le_pow_right (by decide) hn
    have hsm : 2 ^ (n - 1 - i) * (v / 2 ^ i % 2) < 2 ^ (n - i) := by
      have : 2 ^ (n - i) = 2 ^ (n - 1 - i) * 2 := by rw [← Nat.pow_succ]; congr 1; omega
      rw [this]
      exact Nat.mul_lt_mul_of_pos_left hm (Nat.pow_pos (by decide))
    have hsm2 : 2 ^ (n - 1 - i) * (v / 2 ^ i % 2) < 2 ^ 32 := Nat.lt_of_lt_of_le hsm (Nat.pow_le_pow_right (by decide) (by omega))
    rw [(bits_nat .u32 32 (by decide) (fun n h0 h1 => by simp [IntKind.wrap, IntKind.bits, IntKind.signed]; omega) _ _ hbig hsm2).2, ← Nat.two_pow_add_eq_or_of_lt hsm]
    have e4 : 2 ^ (n - i) * rev v i + 2 ^ (n - 1 - i) * (v / 2 ^ i % 2) = 2 ^ (n - (i + 1)) * rev v (i + 1) := by
      have : 2 ^ (n - i) = 2 ^ (n - 1 - i) * 2 := by rw [← Nat.pow_succ]; congr 1; omega
      rw [this, rev, show n - (i + 1) = n - 1 - i by omega, Nat.mul_add, Nat.mul_assoc]
    rw [e4]
    exact ih k (i + 1) (by omega) (by omega)
theorem turn_in (v n : Nat) (hv : v < 4294967296) (h1 : 1 ≤ n) (hn : n ≤ 32) : bits_Turn.f 40 v n = some ((rev v n : Nat) : Int) := by
  unfold bits_Turn.f
  rw [if_neg (by omega), show (40 : Nat) = 39 + 1 from rfl, bits_Turn.j0, if_neg (by simp; omega)]
  have h := turn_loop v n hv hn n 39 0 (by omega) (by omega)
  simpa [rev] using h
end Go.Proofs.Ytlfcepdaicngjaa.D3

/- prefix.Code: Put: the walk. -/
namespace Go.Proofs.Ytlfcepdaicngjaa.Pk
set_option linter.unusedVariables false
set_option linter.unusedSimpArgs false
open Go Go.RowKit Go.Proofs.Ytlfcepdaicngjaa.P Go.Proofs.Ytlfcepdaicngjaa.MapV Go.Proofs.Ytlfcepdaicngjaa.B Go.Proofs.Ytlfcepdaicngjaa.Bn Go.Proofs.Ytlfcepdaicngjaa.Hd Go.Proofs.Ytlfcepdaicngjaa.Bw Go.Proofs.Ytlfcepdaicngjaa.D3 Go.Proofs.YtlfcepdaicngjaaW.PrintWords Go.Proofs.YtlfcepdaicngjaaW.PrintLast Go.Proofs.YtlfcepdaicngjaaW.PrintMore
theorem rev_rvs (v : Nat) : ∀ n, rev v n = rvs v n
  | 0 => rfl
  | n + 1 => by rw [rev, rvs, rev_rvs v n]
theorem rvs_rvs (v n : Nat) (h : v < 2 ^ n) : rvs (rvs v n) n = v := by
  have := rev_rev v n
  rw [rev_rvs, rev_rvs, Nat.mod_eq_of_lt h] at this
  exact this
theorem rvs_congr (v u : Nat) : ∀ n, v % 2 ^ n = u % 2 ^ n → rvs v n = rvs u n
  | 0, _ => rfl
  | n + 1, h => by
    rw [Nat.pow_succ, Nat.mod_mul, Nat.mod_mul] at h
    have h1 : v % 2 ^ n < 2 ^ n := Nat.mod_lt _ (Nat.pow_pos (by decide))
    have h2 : u % 2 ^ n < 2 ^ n := Nat.mod_lt _ (Nat.pow_pos (by decide))
    have e1 : v % 2 ^ n = u % 2 ^ n := by
      have := congrArg (fun z => z % 2 ^ n) h
      simpa [Nat.add_mul_mod_self_left] using this
    have e2 : v / 2 ^ n % 2 = u / 2 ^ n % 2 := by
      rw [e1] at h
      exact Nat.eq_of_mul_eq_mul_left (Nat.pow_pos (by decide)) (Nat.add_left_cancel h)
    rw [rvs, rvs, rvs_congr v u n e1, e2]
/-- A sign that has no word. -/
theorem put_none (p g : Nat) (x : Int) (ls ws : List Int) (w : World) (hk : CodeOk ls ws) (hC : IsCode w p ls ws) (hx : x < 0 ∨ (ls.length : Int) ≤ x ∨ ls.getD x.toNat 0 = 0) :
    Calls Try.prog 13 #[.pointer (some ⟨p, 0, none⟩), .pointer (some ⟨g, 0, none⟩), .int .i64 x] w fun e w' => e = .returned (.int .i64 2) ∧ Below w.heap.size w w' := by
  have HK := Aside0.mk hk
  have HC := Aside0.mk hC
  have HE := Aside0.mk (show (if 0 ≤ x ∧ x < ls.length then ls.getD x.toNat 0 else 0) = 0 by split <;> omega)
  clear hk hC hx
  go_enter Try.func13, Try.ntmps13
  go_wp2_with (go_at_call 12; refine (length_calls p x ls ws _ HK.out HC.out).mono ?_; rintro e w1 ⟨rfl, hb⟩; rw [HE.out]; have HB := Aside0.mk hb; clear hb)
  go_ret
  exact ⟨rfl, HB.out⟩
set_option maxHeartbeats 4000000 in
set_option maxRecDepth 100000 in
/-- A sign that has one. -/
theorem put_calls (p base g k : Nat) (v : Value) (N len : Nat) (ls ws : List Int) (w0 w : World) (hk : CodeOk ls ws) (hC : IsCode w0 p ls ws) (hB : Below w0.heap.size w0 w) (hi : k < ls.length) (hp : 0 < (nat ls)[k]'(by rw [nat_len]; exact hi))
    (hI : IsBW base w g v N len) (hb : w0.heap.size ≤ base) (hl : len ≤ 1099511627776) :
    Calls Try.prog 13 #[.pointer (some ⟨p, 0, none⟩), .pointer (some ⟨g, 0, none⟩), .int .i64 (k : Int)] w fun e w' => e = .returned (.int .i64 0) ∧ ∃ v', IsBW base w' g v' (N + 2 ^ len * rvs (wordN (nat ls) k) ((nat ls)[k]'(by rw [nat_len]; exact hi))) (len + (nat ls)[k]'(by rw [nat_len]; exact hi)) ∧ Wrote w w' g v v' := by
  obtain ⟨h1, h2⟩ := hk.at_ k hi
  obtain ⟨h3, h4, h5⟩ := hk.word k hi hp
  obtain ⟨n, hn⟩ : ∃ n, (nat ls)[k]'(by rw [nat_len]; exact hi) = n := ⟨_, rfl⟩
  obtain ⟨y, hy⟩ : ∃ y, wordN (nat ls) k = y := ⟨_, rfl⟩
  rw [hn] at h1 h2 h4 hp ⊢
  rw [hy] at h3 h4 h5 ⊢
  clear hn hy
  have hwl := hk.len
  have hkl := hk.few
  have HK := Aside0.mk hk
  have HC := Aside0.mk (hC.below hB)
  have HI := Aside0.mk hI
  obtain ⟨A1, c1, A2, c2, mb, hP, hA1, hA2, hM⟩ := HC.out
  have hc1 := blk_cell hP 1
  simp only [List.getElem?_toArray, List.getElem?_cons_zero, List.getElem?_cons_succ] at hc1
  obtain ⟨ad, hA, hx⟩ := Kd.at_int hA2 (k : Int) (by omega) (by omega)
  cases hA
  have hg : rd ws (k : Int) = ws.getD k 0 := by unfold rd; rw [Int.toNat_natCast]
  rw [hg, h3] at hx
  simp only [Int.toNat_natCast] at hx
  have HX := Aside0.mk hx
  have HC1 := Aside0.mk hc1
  have HE := Aside0.mk (show (if 0 ≤ (k : Int) ∧ (k : Int) < ls.length then ls.getD (k : Int).toNat 0 else 0) = (n : Int) by rw [if_pos (by omega), Int.toNat_natCast, h1])
  have hn0 : ((n : Int) == 0) = false := by simp; omega
  have hn0' : (n == 0) = false := by simp; omega
  have hd : decide (k < ws.length) = true := decide_eq_true (by omega)
  have hd2 : decide (k < ls.length) = true := decide_eq_true (by omega)
  have HT := Aside0.mk (turn_in y n (by omega) (by omega) (by omega))
  have hrl := rvs_lt y n
  have h215 : (2 : Nat) ^ n ≤ 2 ^ 15 := Nat.pow_le_pow_right (by omega) h2
  rw [rev_rvs] at HT
  obtain ⟨z, hz⟩ : ∃ z, rvs y n = z := ⟨_, rfl⟩
  rw [hz] at HT hrl ⊢
  have hz32 : z < 4294967296 := by omega
  have HM := Aside0.mk (Nat.mod_eq_of_lt hrl)
  clear hP hA1 hA2 hM hk hC hI hx hc1 hg h1 h3 hrl h215 hz
  go_enter Try.func13, Try.ntmps13
  go_wp2_with (first
    | (go_at_call 12; refine (length_calls p (k : Int) ls ws _ HK.out HC.out).mono ?_; rintro e w1 ⟨rfl, hb1⟩; rw [HE.out]; have HB1 := Aside0.mk hb1; have hc1 := (hb1.cell (World.block_lt_of_cell? w _ HC1.out)).trans HC1.out; have hx := (hb1.cell (World.block_lt_of_cell? w _ HX.out)).trans HX.out; clear hb1)
    | (go_at_call 30; refine (bits_Turn.calls 40 _ _ _ _ HT.out).mono ?_; rintro e w2 ⟨rfl, ⟨nd, rfl⟩⟩)
    | (go_at_call 29; refine (write_calls base g v N len z n _ ((HI.out.below HB1.out).drewN nd) hz32 (by omega) (by omega) hl).mono ?_; rintro e w3 ⟨rfl, v', hi3, hw3⟩; have HI3 := Aside0.mk hi3; have HW3 := Aside0.mk hw3; clear hi3 hw3))
  go_ret
  have h := HI3.out
  rw [HM.out] at h
  refine ⟨rfl, v', h, ?_⟩
  exact ((Wrote.refl w g v).quiet (pw_below_drewN HB1.out nd)).trans HW3.out
end Go.Proofs.Ytlfcepdaicngjaa.Pk

/- portmanteauref04.Sign: the walk. Printed by genrefsign4.py. -/
namespace Go.Proofs.Ytlfcepdaicngjaa.Pk
set_option linter.unusedVariables false
set_option linter.unusedSimpArgs false
open Go Go.RowKit Go.Proofs.Ytlfcepdaicngjaa.P Go.Proofs.Ytlfcepdaicngjaa.MapV Go.Proofs.Ytlfcepdaicngjaa.B Go.Proofs.Ytlfcepdaicngjaa.Bn Go.Proofs.Ytlfcepdaicngjaa.Rd Go.Proofs.YtlfcepdaicngjaaW.PrintWords Go.Proofs.YtlfcepdaicngjaaW.PrintLast Go.Proofs.YtlfcepdaicngjaaW.PrintMore
/-- The number that l bits from a place on are, the first one highest. -/
def VN (s : ByteArray) (a l : Nat) : Nat := rvs (num s a l) l
theorem VN_lt (s : ByteArray) (a l : Nat) : VN s a l < 2 ^ l := rvs_lt _ _
theorem VN_succ (s : ByteArray) (a l : Nat) : VN s a (l + 1) = 2 * VN s a l + leN s.data.toList / 2 ^ (a + l) % 2 := by
  unfold VN
  have e1 : rvs (num s a (l + 1)) l = rvs (num s a l) l := rvs_congr _ _ l (by unfold num; rw [Nat.mod_mod_of_dvd _ (Nat.pow_dvd_pow 2 (by omega)), Nat.mod_mod])
  have e2 : num s a (l + 1) / 2 ^ l % 2 = leN s.data.toList / 2 ^ (a + l) % 2 := by
    unfold num
    rw [Nat.pow_succ, Nat.mod_mul_right_div_self, Nat.mod_mod, Nat.div_div_eq_div_mul, ← Nat.pow_add]
  rw [rvs, e1, e2]
theorem txtN_take (w : Nat) : ∀ n l, l ≤ n → (txtN w n).take l = txtN (w / 2 ^ (n - l)) l
  | n, 0, _ => by rw [List.take_zero]; rfl
  | 0, l + 1, h => by omega
  | n + 1, l + 1, h => by
    rw [txtN, List.take_succ_cons, txtN_take w n l (by omega), txtN, show n + 1 - (l + 1) = n - l by omega, Nat.div_div_eq_div_mul, ← Nat.pow_add, show n - l + l = n by omega]
theorem wordT_size (L : List Nat) (j : Nat) : (wordT L j).size = L.getD j 0 := by
  unfold wordT
  split
  · rw [strT_size, txtN_len]
  · have : L.getD j 0 = 0 := by omega
    rw [this]; rfl
theorem strT_inj {a b : List UInt8} (h : strT a = strT b) : a = b := by
  have := congrArg (fun z => z.data.toList) h
  simpa [strT] using this
/-- A sign stands at a place, in so many bits. -/
def Mt (L : List Nat) (s : ByteArray) (a l i : Nat) : Prop := L.getD i 0 = l ∧ wordN L i = VN s a l
def Gt (L : List Nat) (s : ByteArray) (a r i : Nat) : Prop := r < L.getD i 0 ∧ wordN L i / 2 ^ (L.getD i 0 - r) = VN s a r
theorem eq_iff (L : List Nat) (s : ByteArray) (a l i : Nat) (hf : fillN L ≤ 32768) (hi : i < L.length) (h15 : L.getD i 0 ≤ 15) (h0 : 0 < L.getD i 0) : wordT L i = strT (txtN (VN s a l) l) ↔ Mt L s a l i := by
  have hg : L.getD i 0 = L[i] := by rw [List.getD_eq_getElem?_getD, List.getElem?_eq_getElem hi]; rfl
  have hw := word_fit L hf i hi (by omega) (by omega)
  have hv := VN_lt s a l
  constructor
  · intro h
    have hs := congrArg ByteArray.size h
    rw [wordT_size, strT_size, txtN_len] at hs
    refine ⟨hs, ?_⟩
    unfold wordT at h
    rw [if_pos h0, hs] at h
    exact txtN_inj _ _ l (by rw [← hs, hg]; exact hw) hv (strT_inj h)
  · rintro ⟨h1, h2⟩
    unfold wordT
    rw [if_pos h0, h1, h2]
theorem pre_iff (L : List Nat) (s : ByteArray) (a r i : Nat) (hf : fillN L ≤ 32768) (hi : i < L.length) (h15 : L.getD i 0 ≤ 15) (h0 : r < L.getD i 0) : (wordT L i).extract 0 r = strT (txtN (VN s a r) r) ↔ Gt L s a r i := by
  have hg : L.getD i 0 = L[i] := by rw [List.getD_eq_getElem?_getD, List.getElem?_eq_getElem hi]; rfl
  have hw := word_fit L hf i hi (by omega) (by omega)
  have hv := VN_lt s a r
  have he : (wordT L i).extract 0 r = strT (txtN (wordN L i / 2 ^ (L.getD i 0 - r)) r) := by
    rw [← txtN_take _ _ _ (by omega)]
    unfold wordT
    rw [if_pos (by omega)]
    apply ByteArray.ext
    simp [strT, List.extract_eq_take_drop]
  have hq : wordN L i / 2 ^ (L.getD i 0 - r) < 2 ^ r := by
    rw [Nat.div_lt_iff_lt_mul (Nat.pow_pos (by omega)), ← Nat.pow_add, show r + (L.getD i 0 - r) = L[i] by omega]
    exact hw
  rw [he]
  constructor
  · intro h
    exact ⟨h0, txtN_inj _ _ r hq hv (strT_inj h)⟩
  · rintro ⟨_, h2⟩
    rw [h2]
/-- What the reference's Sign answers at a place. -/
def RR (L : List Nat) (s : ByteArray) (a : Nat) (x er : Int) (a' : Nat) : Prop :=
  (∃ i l, i < L.length ∧ er = 0 ∧ x = (i : Int) ∧ 1 ≤ l ∧ l ≤ 15 ∧ a + l ≤ 8 * s.size ∧ Mt L s a l i ∧ (∀ k, 1 ≤ k → k < l → ∀ j, j < L.length → ¬ Mt L s a k j) ∧ a' = a + l) ∨
  (x = -1 ∧ a' = a ∧ (∀ k, 1 ≤ k → k ≤ 15 → a + k ≤ 8 * s.size → ∀ j, j < L.length → ¬ Mt L s a k j) ∧
    ((8 * s.size - a ≤ 15 ∧ ((er = 3 ∧ ∃ j, j < L.length ∧ Gt L s a (8 * s.size - a) j) ∨ (er = 10 ∧ ∀ j, j < L.length → ¬ Gt L s a (8 * s.size - a) j))) ∨ (15 < 8 * s.size - a ∧ er = 10)))
/-- How long a text is. -/
def tlen (v : Value) : Nat := match v with
  | .string t => t.size
  | _ => 0
set_option maxHeartbeats 8000000 in
set_option maxRecDepth 100000 in
theorem rsign_calls (A : Option Addr) (c q a : Nat) (s : ByteArray) (L : List Nat) (ws : List ByteArray) (w0 w : World) (hf : fillN L ≤ 32768) (h15 : ∀ x ∈ L, x ≤ 15) (hn : L.length ≤ 400) (hW : FinW L ws) (hC : Kd.C Kd.string w0 A ws.length ws) (hc : ws.length ≤ c)
    (hq : w.heap[q]? = some (.cells #[.string s, .int .i64 (a : Int), .int .i64 0] 45 (0, 0))) (hq0 : w0.heap.size ≤ q) (hB : Below w0.heap.size w0 w) (hs : s.size ≤ 1000000) (ha : a ≤ 8 * s.size) :
    Calls Try.prog 16 #[.slice A ws.length c, .pointer (some ⟨q, 0, none⟩)] w fun e w' => ∃ (x er : Int) (a' : Nat), e = .returned (.tuple #[.int .i64 x, .int .i64 er]) ∧ RR L s a x er a' ∧ a' ≤ 8 * s.size ∧ w'.heap[q]? = some (.cells #[.string s, .int .i64 (a' : Int), .int .i64 0] 45 (0, 0)) ∧ Below w0.heap.size w0 w' ∧ KeepBut w w' q none := by
  have HC := Aside0.mk hC
  have HQ := Aside0.mk hq
  have HB := Aside0.mk hB
  have HK := Aside0.mk (KeepBut.refl w q none)
  have HF := Aside0.mk hf
  have H15 := Aside0.mk h15
  have HW := Aside0.mk hW
  have hwl : ws.length = L.length := hW.1
  have hcq := blk_cell hq 2
  clear hC hq hB hf h15 hW
  go_enter Try.func16, Try.ntmps16
  go_wp2
  go_loopw [6] (fun v6 wr => ∃ l : Nat, v6 = .string (strT (txtN (VN s a l) l)) ∧ l ≤ 16 ∧ a + l ≤ 8 * s.size ∧ Aside0 (∀ k, 1 ≤ k → k < l → ∀ j, j < L.length → ¬ Mt L s a k j) ∧ Aside0 (wr.heap[q]? = some (.cells #[.string s, .int .i64 (a : Int), .int .i64 0] 45 (0, 0))) ∧ Aside0 (Below w0.heap.size w0 wr) ∧ Aside0 (KeepBut w wr q none))
    (fun v6 _ => 17 - tlen v6)
  case atStart => exact ⟨0, rfl, by omega, by omega, ⟨fun k h1 h2 => by omega⟩, HQ, HB, HK⟩
  case round =>
    clear HQ HB HK hcq
    obtain ⟨l, rfl, hl, hal, HNO, HQ, HB, HK⟩ := hrel
    have hsz : (strT (txtN (VN s a l) l)).size = l := by rw [strT_size, txtN_len]
    obtain ⟨sl, hsl⟩ : ∃ sl, strT (txtN (VN s a l) l) = sl := ⟨_, rfl⟩
    rw [hsl] at hsz ⊢
    have HSL := Aside0.mk hsl
    clear hsl
    by_cases hl16 : l = 16
    · subst hl16
      have hd : decide ((sl.size : Int) ≤ 15) = false := decide_eq_false (by omega)
      have hd2 : decide (sl.size ≤ 15) = false := decide_eq_false (by omega)
      go_wp2
      go_ret2
      exact ⟨-1, 10, a, rfl, .inr ⟨rfl, rfl, fun k h1 h2 _ => HNO.out k h1 (by omega), .inr ⟨by omega, rfl⟩⟩, ha, HQ.out, HB.out, HK.out⟩
    have hd : decide ((sl.size : Int) ≤ 15) = true := decide_eq_true (by omega)
    have hd2 : decide (sl.size ≤ 15) = true := decide_eq_true (by omega)
    go_wp2
    go_loopw [25] (fun v25 wr => ∃ j : Nat, v25 = .int .i64 j ∧ j ≤ L.length ∧ Aside0 (∀ i, i < j → 1 ≤ l → ¬ Mt L s a l i) ∧ Aside0 (wr.heap[q]? = some (.cells #[.string s, .int .i64 (a : Int), .int .i64 0] 45 (0, 0))) ∧ Aside0 (Below w0.heap.size w0 wr) ∧ Aside0 (KeepBut w wr q none))
      (fun v25 _ => L.length - (intOf v25).toNat)
    case atStart => exact ⟨0, rfl, by omega, ⟨fun i h => by omega⟩, HQ, HB, HK⟩
    case round =>
      clear HQ HB HK
      obtain ⟨j, rfl, hj, HNJ, HQ, HB, HK⟩ := hrel
      by_cases hlt : j < L.length
      · have hdj : decide (j < ws.length) = true := decide_eq_true (by omega)
        obtain ⟨ad, hA, hx⟩ := Kd.at_string HC.out (j : Int) (by omega) (by omega)
        cases hA
        replace hx := (HB.out.cell (World.block_lt_of_cell? w0 _ hx)).trans hx
        have hg : rdOf ByteArray.empty ws (j : Int) = wordT L j := by unfold rdOf; rw [Int.toNat_natCast]; exact HW.out.2 j hlt
        rw [hg] at hx
        simp only [Int.toNat_natCast] at hx
        have hws := wordT_size L j
        have hj15 : L.getD j 0 ≤ 15 := by rw [List.getD_eq_getElem?_getD, List.getElem?_eq_getElem hlt]; exact H15.out _ (List.getElem_mem hlt)
        have hiff : 0 < L.getD j 0 → (wordT L j = sl ↔ Mt L s a l j) := fun h0 => by rw [← HSL.out]; exact eq_iff L s a l j HF.out hlt hj15 h0
        have HIFF := Aside0.mk hiff
        have HMT := Aside0.mk (show Mt L s a l j → L.getD j 0 = l from fun h => h.1)
        obtain ⟨wj, hwj⟩ : ∃ wj, wordT L j = wj := ⟨_, rfl⟩
        obtain ⟨n, hn2⟩ : ∃ n, L.getD j 0 = n := ⟨_, rfl⟩
        rw [hwj] at hx hws HIFF
        rw [hn2] at hws HIFF HMT hj15
        clear hiff hg hwj hn2
        by_cases h0 : 0 < n
        · have h0b : decide (0 < wj.size) = true := decide_eq_true (by omega)
          by_cases he : wj = sl
          · have hm := (HIFF.out h0).1 he
            have hln := HMT.out hm
            have HM := Aside0.mk hm
            have hc1 := blk_cell HQ.out 1
            have hf1 := blk_frozen HQ.out 1
            have hszl : (sl.size : Int) = (l : Int) := by omega
            subst he
            clear hws
            go_wp2
            go_ret2
            have hb := blk_set HQ.out 1 (.int .i64 ((a : Int) + (l : Int)))
            have hbe : (#[.string s, .int .i64 (a : Int), .int .i64 0] : Array Value).setIfInBounds 1 (.int .i64 ((a : Int) + (l : Int))) = #[.string s, .int .i64 ((a + l : Nat) : Int), .int .i64 0] := by rw [Int.natCast_add]; rfl
            rw [hbe] at hb
            have hR : RR L s a (j : Int) 0 (a + l) := .inl ⟨j, l, hlt, rfl, rfl, by omega, by omega, hal, HM.out, HNO.out, rfl⟩
            have hBs := below_set (g := q) (j := 1) (v := .int .i64 ((a : Int) + (l : Int))) HB.out hq0
            have hKs := HK.out.set_ 1 (.int .i64 ((a : Int) + (l : Int)))
            first
              | exact ⟨(j : Int), 0, a + l, rfl, hR, hal, hb, hBs, hKs⟩
              | exact ⟨(j : Int), 0, rfl, a + l, hR, hal, hb, hBs, hKs⟩
          · have hne1 : (wj.toList == sl.toList) = false := by rw [toL, toL]; simp only [beq_eq_false_iff_ne, ne_eq]; intro h; exact he (ByteArray.ext (Array.toList_inj.1 h))
            have hne2 : decide (wj = sl) = false := decide_eq_false he
            have HNE := Aside0.mk (show ¬ Mt L s a l j from fun h => he ((HIFF.out h0).2 h))
            go_wp2
            go_roundw
            case rel => exact ⟨j + 1, by go_num, by omega, ⟨fun i hi h1 => by
              by_cases hij : i = j
              · subst hij; exact HNE.out
              · exact HNJ.out i (by omega) h1⟩, HQ, HB, HK⟩
            case measure => simp [intOf]; omega
        · have h0b : decide (0 < wj.size) = false := decide_eq_false (by omega)
          have HNE := Aside0.mk (show 1 ≤ l → ¬ Mt L s a l j from fun h1 h => by have := HMT.out h; omega)
          go_wp2
          go_roundw
          case rel => exact ⟨j + 1, by go_num, by omega, ⟨fun i hi h1 => by
            by_cases hij : i = j
            · subst hij; exact HNE.out h1
            · exact HNJ.out i (by omega) h1⟩, HQ, HB, HK⟩
          case measure => simp [intOf]; omega
      · have hdj : decide (j < ws.length) = false := decide_eq_false (by omega)
        obtain rfl : j = L.length := by omega
        have HNO2 := Aside0.mk (show ∀ k, 1 ≤ k → k < l + 1 → ∀ i, i < L.length → ¬ Mt L s a k i from fun k h1 h2 i hi => by
          by_cases hk : k = l
          · subst hk; exact HNJ.out i hi h1
          · exact HNO.out k h1 (by omega) i hi)
        clear HNO HNJ
        go_upto_region 12 with (fail)
        have hc0 := blk_cell HQ.out 0
        have hc1 := blk_cell HQ.out 1
        have hk8 : IntKind.i64.wrap (8 * (s.size : Int)) = 8 * (s.size : Int) := IntWalk.i64_in _ (by omega)
        by_cases hend : 8 * s.size ≤ a + l
        · have hge : decide (8 * (s.size : Int) ≤ (a : Int) + (l : Int)) = true := decide_eq_true (by omega)
          have hge2 : decide (8 * (s.size : Int) ≤ (a : Int) + (sl.size : Int)) = true := decide_eq_true (by omega)
          have hge3 : decide (8 * s.size ≤ a + l) = true := decide_eq_true (by omega)
          have hge4 : decide (8 * s.size ≤ a + sl.size) = true := decide_eq_true (by omega)
          have hr : 8 * s.size - a = l := by omega
          have HRL := Aside0.mk hr
          clear hr
          go_quiet (fail)
          go_wp2
          have HQ2 := Aside0.mk (blk_drewN HQ.out nq)
          have HB2 := Aside0.mk (pw_below_drewN HB.out nq)
          have HK2 := Aside0.mk (keep_drewN HK.out nq)
          clear hc0 hc1 HQ HB HK hge hge2 hge3 hge4 hk8 hdj
          go_loopw [66] (fun v66 wr => ∃ j : Nat, v66 = .int .i64 j ∧ j ≤ L.length ∧ Aside0 (∀ i, i < j → ¬ Gt L s a l i) ∧ Aside0 (wr.heap[q]? = some (.cells #[.string s, .int .i64 (a : Int), .int .i64 0] 45 (0, 0))) ∧ Aside0 (Below w0.heap.size w0 wr) ∧ Aside0 (KeepBut w wr q none))
            (fun v66 _ => L.length - (intOf v66).toNat)
          case atStart => exact ⟨0, rfl, by omega, ⟨fun i h => by omega⟩, HQ2, HB2, HK2⟩
          case round =>
            clear HQ2 HB2 HK2
            obtain ⟨j, rfl, hj, HNJ, HQ, HB, HK⟩ := hrel
            by_cases hlt : j < L.length
            · have hdj : decide (j < ws.length) = true := decide_eq_true (by omega)
              obtain ⟨ad, hA, hx⟩ := Kd.at_string HC.out (j : Int) (by omega) (by omega)
              cases hA
              replace hx := (HB.out.cell (World.block_lt_of_cell? w0 _ hx)).trans hx
              have hg : rdOf ByteArray.empty ws (j : Int) = wordT L j := by unfold rdOf; rw [Int.toNat_natCast]; exact HW.out.2 j hlt
              rw [hg] at hx
              simp only [Int.toNat_natCast] at hx
              have hws := wordT_size L j
              have hj15 : L.getD j 0 ≤ 15 := by rw [List.getD_eq_getElem?_getD, List.getElem?_eq_getElem hlt]; exact H15.out _ (List.getElem_mem hlt)
              have hiff : l < L.getD j 0 → ((wordT L j).extract 0 l = sl ↔ Gt L s a l j) := fun h0 => by rw [← HSL.out]; exact pre_iff L s a l j HF.out hlt hj15 h0
              have HIFF := Aside0.mk hiff
              have HGT := Aside0.mk (show Gt L s a l j → l < L.getD j 0 from fun h => h.1)
              obtain ⟨wj, hwj⟩ : ∃ wj, wordT L j = wj := ⟨_, rfl⟩
              obtain ⟨n, hn2⟩ : ∃ n, L.getD j 0 = n := ⟨_, rfl⟩
              rw [hwj] at hx hws HIFF
              rw [hn2] at hws HIFF HGT hj15
              clear hiff hg hwj hn2
              by_cases h0 : l < n
              · have h0b : decide ((sl.size : Int) < (wj.size : Int)) = true := decide_eq_true (by omega)
                have h0c : decide (sl.size < wj.size) = true := decide_eq_true (by omega)
                have h0d : decide (l < n) = true := decide_eq_true h0
                by_cases he : wj.extract 0 l = sl
                · have hm := (HIFF.out h0).1 he
                  have HM := Aside0.mk hm
                  have heq : ((wj.extract 0 l).toList == sl.toList) = true := by rw [he]; simp
                  clear hm
                  go_wp2
                  go_ret2
                  have hR : RR L s a (-1) 3 a := .inr ⟨rfl, rfl, fun k h1 h2 h3 => HNO2.out k h1 (by have := HRL.out; omega), .inl ⟨by have := HRL.out; omega, .inl ⟨rfl, j, hlt, by rw [HRL.out]; exact HM.out⟩⟩⟩
                  first
                    | exact ⟨-1, 3, a, rfl, hR, ha, HQ.out, HB.out, HK.out⟩
                    | exact ⟨-1, 3, rfl, a, hR, ha, HQ.out, HB.out, HK.out⟩
                · have hne1 : ((wj.extract 0 l).toList == sl.toList) = false := by rw [toL, toL]; simp only [beq_eq_false_iff_ne, ne_eq]; intro h; exact he (ByteArray.ext (Array.toList_inj.1 h))
                  have HNE := Aside0.mk (show ¬ Gt L s a l j from fun h => he ((HIFF.out h0).2 h))
                  go_wp2
                  go_roundw
                  case rel => exact ⟨j + 1, by go_num, by omega, ⟨fun i hi => by
                    by_cases hij : i = j
                    · subst hij; exact HNE.out
                    · exact HNJ.out i (by omega)⟩, HQ, HB, HK⟩
                  case measure => simp [intOf]; omega
              · have h0b : decide ((sl.size : Int) < (wj.size : Int)) = false := decide_eq_false (by omega)
                have h0c : decide (sl.size < wj.size) = false := decide_eq_false (by omega)
                have h0d : decide (l < n) = false := decide_eq_false h0
                have HNE := Aside0.mk (show ¬ Gt L s a l j from fun h => h0 (HGT.out h))
                go_wp2
                go_roundw
                case rel => exact ⟨j + 1, by go_num, by omega, ⟨fun i hi => by
                  by_cases hij : i = j
                  · subst hij; exact HNE.out
                  · exact HNJ.out i (by omega)⟩, HQ, HB, HK⟩
                case measure => simp [intOf]; omega
            · have hdj : decide (j < ws.length) = false := decide_eq_false (by omega)
              obtain rfl : j = L.length := by omega
              go_wp2
              go_ret2
              have hR : RR L s a (-1) 10 a := .inr ⟨rfl, rfl, fun k h1 h2 h3 => HNO2.out k h1 (by have := HRL.out; omega), .inl ⟨by have := HRL.out; omega, .inr ⟨rfl, fun i hi => by rw [HRL.out]; exact HNJ.out i hi⟩⟩⟩
              first
                | exact ⟨-1, 10, a, rfl, hR, ha, HQ.out, HB.out, HK.out⟩
                | exact ⟨-1, 10, rfl, a, hR, ha, HQ.out, HB.out, HK.out⟩
        · have hge : decide (8 * (s.size : Int) ≤ (a : Int) + (l : Int)) = false := decide_eq_false (by omega)
          have hge2 : decide (8 * (s.size : Int) ≤ (a : Int) + (sl.size : Int)) = false := decide_eq_false (by omega)
          have hge3 : decide (8 * s.size ≤ a + l) = false := decide_eq_false (by omega)
          have hge4 : decide (8 * s.size ≤ a + sl.size) = false := decide_eq_false (by omega)
          go_quiet (fail)
          go_upto_region 20 with (fail)
          have HQo := Aside0.mk (blk_drewN HQ.out nq)
          have HBo := Aside0.mk (pw_below_drewN HB.out nq)
          have HKo := Aside0.mk (keep_drewN HK.out nq)
          clear hc0 hc1 HQ HB HK hge hge2 hge3 hge4 hdj
          generalize wr.drewN nq = wq at HQo HBo HKo ⊢
          have HQa := Aside0.mk (blk_drew HQo.out)
          have HBa := Aside0.mk (below_drew1 HBo.out)
          have HKa := Aside0.mk (keep_drew HKo.out)
          have hfb := bit_in s (a + l) hs (by omega) 30 (by omega)
          have hvs := VN_succ s a l
          obtain ⟨b, hb⟩ : ∃ b, leN s.data.toList / 2 ^ (a + l) % 2 = b := ⟨_, rfl⟩
          have hb2 : b < 2 := by omega
          rw [hb] at hfb hvs
          rw [Int.natCast_add] at hfb
          have FB := Aside0.mk hfb
          have hnext : sl ++ strT [UInt8.ofNat (48 + b)] = strT (txtN (VN s a (l + 1)) (l + 1)) := by
            rw [← HSL.out, strT_append, hvs, txtN_snoc _ _ hb2]
          have HNX := Aside0.mk hnext
          have hch : strOfNums [(48 : Int) + (b : Int)] = strT [UInt8.ofNat (48 + b)] := by
            rw [show (48 : Int) + (b : Int) = ((48 + b : Nat) : Int) by omega]
            unfold strOfNums strT
            simp only [List.map_cons, List.map_nil, Int.toNat_natCast]
          have FS := Aside0.mk (fun W : World => by
            have h := Kd.C_string (P := Try.prog) (c := 1) Try.underlying22 Try.underlying5 (dst := 9) Try.underlying9 (lit_C W [(48 : Int) + (b : Int)] (by simp))
            rw [hch] at h
            exact h)
          have kal : IntKind.i64.wrap ((a : Int) + (l : Int)) = (a : Int) + (l : Int) := IntWalk.i64_in _ (by omega)
          have ku32 : IntKind.u32.wrap (48 + (b : Int)) = 48 + (b : Int) := by simp [IntKind.wrap, IntKind.bits, IntKind.signed]; omega
          have ku8 : IntKind.u8.wrap (48 + (b : Int)) = 48 + (b : Int) := by simp [IntKind.wrap, IntKind.bits, IntKind.signed]; omega
          clear hfb hvs hb hnext hch
          have hsz1 : (strT [UInt8.ofNat (48 + b)]).size = 1 := by rw [strT_size]; rfl
          obtain ⟨ch, hce⟩ : ∃ ch, strT [UInt8.ofNat (48 + b)] = ch := ⟨_, rfl⟩
          rw [hce] at HNX hsz1
          simp only [hce] at FS
          clear hce
          have kst : (9223372036854775807 < l + 1) = False := eq_false (by omega)
          refine start_ (n := 19) (S := fun w' => w'.cell? ⟨q, 0, none⟩ = some (.string s) ∧ w'.cell? ⟨q, 1, none⟩ = some (.int .i64 (a : Int))) (ds := []) #[false, false, false, false, false, false, false, false, false, false, false, false, false, false, false, false, false, false, false] (by kernel_rfl) rfl rfl ⟨(blk_cell HQa.out 0), (blk_cell HQa.out 1)⟩ (fun hHeld => ?_)
          refine pure_ (i := 0) (N := some 84) (v := ?_) (a' := ?_) #[true, false, false, false, false, false, false, false, false, false, false, false, false, false, false, false, false, false, false] rfl rfl (by kernel_rfl) (fun _ _ _ h => h) (Or.inl ⟨by rfl, ?_⟩) ?_ ?_
          rotate_left
          · intro w'
            go_simp
            with_reducible rfl
          rotate_left
          · simp only [Act.put, List.setIfInBounds_toArray, List.set_cons_zero, List.set_cons_succ, i64_w, i32_w]
            rfl
          refine pure_ (i := 1) (N := some 85) (v := ?_) (a' := ?_) #[true, true, false, false, false, false, false, false, false, false, false, false, false, false, false, false, false, false, false] rfl rfl (by kernel_rfl) (fun _ _ _ h => h) (Or.inl ⟨by rfl, ?_⟩) ?_ ?_
          rotate_left
          · intro w'
            go_simp
            with_reducible rfl
          rotate_left
          · simp only [Act.put, List.setIfInBounds_toArray, List.set_cons_zero, List.set_cons_succ, i64_w, i32_w]
            rfl
          refine pure_ (i := 2) (N := some 86) (v := ?_) (a' := ?_) #[true, true, true, false, false, false, false, false, false, false, false, false, false, false, false, false, false, false, false] rfl rfl (by kernel_rfl) (fun _ _ _ h => h) (Or.inl ⟨by rfl, ?_⟩) ?_ ?_
          rotate_left
          · intro w'
            go_simp
            with_reducible rfl
          rotate_left
          · simp only [Act.put, List.setIfInBounds_toArray, List.set_cons_zero, List.set_cons_succ, i64_w, i32_w]
            rfl
          refine pure_ (i := 3) (N := some 87) (v := ?_) (a' := ?_) #[true, true, true, true, false, false, false, false, false, false, false, false, false, false, false, false, false, false, false] rfl rfl (by kernel_rfl) (fun _ _ _ h => h) (Or.inl ⟨by rfl, ?_⟩) ?_ ?_
          rotate_left
          · intro w'
            go_simp
            with_reducible rfl
          rotate_left
          · simp only [Act.put, List.setIfInBounds_toArray, List.set_cons_zero, List.set_cons_succ, i64_w, i32_w]
            rfl
          refine pure_ (i := 5) (N := some 89) (v := ?_) (a' := ?_) #[true, true, true, true, false, true, false, false, false, false, false, false, false, false, false, false, false, false, false] rfl rfl (by kernel_rfl) (fun _ _ _ h => h) (Or.inl ⟨by rfl, ?_⟩) ?_ ?_
          rotate_left
          · intro w'
            go_simp
            with_reducible rfl
          rotate_left
          · simp only [Act.put, List.setIfInBounds_toArray, List.set_cons_zero, List.set_cons_succ, i64_w, i32_w]
            rfl
          refine pure_ (i := 6) (N := some 90) (v := ?_) (a' := ?_) #[true, true, true, true, false, true, true, false, false, false, false, false, false, false, false, false, false, false, false] rfl rfl (by kernel_rfl) (fun _ _ _ h => h) (Or.inl ⟨by rfl, ?_⟩) ?_ ?_
          rotate_left
          · intro w'
            go_simp
            with_reducible rfl
          rotate_left
          · simp only [Act.put, List.setIfInBounds_toArray, List.set_cons_zero, List.set_cons_succ, i64_w, i32_w]
            rfl
          refine pure_ (i := 7) (N := some 91) (v := ?_) (a' := ?_) #[true, true, true, true, false, true, true, true, false, false, false, false, false, false, false, false, false, false, false] rfl rfl (by kernel_rfl) (fun _ _ _ h => h) (Or.inl ⟨by rfl, ?_⟩) ?_ ?_
          rotate_left
          · intro w'
            go_simp
            with_reducible rfl
          rotate_left
          · simp only [Act.put, List.setIfInBounds_toArray, List.set_cons_zero, List.set_cons_succ, i64_w, i32_w]
            rfl
          refine pure_ (i := 9) (N := some 93) (v := ?_) (a' := ?_) #[true, true, true, true, false, true, true, true, false, true, false, false, false, false, false, false, false, false, false] rfl rfl (by kernel_rfl) (fun _ _ _ h => h) (Or.inl ⟨by rfl, ?_⟩) ?_ ?_
          rotate_left
          · intro w'
            go_simp
            with_reducible rfl
          rotate_left
          · simp only [Act.put, List.setIfInBounds_toArray, List.set_cons_zero, List.set_cons_succ, i64_w, i32_w]
            rfl
          refine pure_ (i := 10) (N := some 94) (v := ?_) (a' := ?_) #[true, true, true, true, false, true, true, true, false, true, true, false, false, false, false, false, false, false, false] rfl rfl (by kernel_rfl) (fun _ _ _ h => h) (Or.inl ⟨by rfl, ?_⟩) ?_ ?_
          rotate_left
          · intro w'
            go_simp
            with_reducible rfl
          rotate_left
          · simp only [Act.put, List.setIfInBounds_toArray, List.set_cons_zero, List.set_cons_succ, i64_w, i32_w]
            rfl
          refine take_ (i := 4) (N := some 88) (v := ?_) (a' := ?_) #[true, true, true, true, true, true, true, true, false, true, true, false, false, false, false, false, false, false, false] rfl rfl (by kernel_rfl) (fun _ _ _ h => h) (Or.inl ⟨by rfl, ?_⟩) hHeld ?_ ?_
          rotate_left
          · rintro w' ⟨s0, s1⟩
            go_simp
            with_reducible rfl
          rotate_left
          · simp only [Act.put, List.setIfInBounds_toArray, List.set_cons_zero, List.set_cons_succ, i64_w, i32_w]
            rfl
          refine take_ (i := 8) (N := some 92) (v := ?_) (a' := ?_) #[true, true, true, true, true, true, true, true, true, true, true, false, false, false, false, false, false, false, false] rfl rfl (by kernel_rfl) (fun _ _ _ h => h) (Or.inl ⟨by rfl, ?_⟩) hHeld ?_ ?_
          rotate_left
          · rintro w' ⟨s0, s1⟩
            go_simp
            with_reducible rfl
          rotate_left
          · simp only [Act.put, List.setIfInBounds_toArray, List.set_cons_zero, List.set_cons_succ, i64_w, i32_w]
            rfl
          refine pure_ (i := 11) (N := some 95) (v := ?_) (a' := ?_) #[true, true, true, true, true, true, true, true, true, true, true, true, false, false, false, false, false, false, false] rfl rfl (by kernel_rfl) (fun _ _ _ h => h) (Or.inl ⟨by rfl, ?_⟩) ?_ ?_
          rotate_left
          · intro w'
            go_simp
            with_reducible rfl
          rotate_left
          · simp only [Act.put, List.setIfInBounds_toArray, List.set_cons_zero, List.set_cons_succ, i64_w, i32_w]
            rfl
          refine one_ (i := 12) (N := some 96) #[true, true, true, true, true, true, true, true, true, true, true, true, true, false, false, false, false, false, false] rfl rfl (by kernel_rfl) (by decide) (fun K hK => ?_)
          refine goes_ Try.func33 (by kernel_rfl) rfl #[.string s, .int .i64 ((a : Int) + (l : Int))] (by rfl) rfl rfl (by simp only [List.map_toArray, List.map_cons, List.map_nil]; rfl) ?_
          with_reducible refine (portmanteauref03_Bit.calls 30 s _ _ _ FB.out).mono ?_
          rintro e w5 ⟨rfl, ⟨nd, rfl⟩⟩
          refine ⟨_, rfl, ?_⟩
          have HQb := Aside0.mk (blk_drewN HQa.out nd); have HBb := Aside0.mk (pw_below_drewN HBa.out nd); have HKb := Aside0.mk (keep_drewN HKa.out nd)
          refine hK.out _ _ ⟨(blk_cell HQb.out 0), (blk_cell HQb.out 1)⟩ (fun hHeld => ?_)
          clear hK K
          refine norm_ (a' := ?_) ?_ ?_
          rotate_left
          · show Act.put _ (some 96) _ = _
            simp only [Act.put, List.setIfInBounds_toArray, List.set_cons_zero, List.set_cons_succ, i64_w, i32_w]
            rfl
          refine pure_ (i := 13) (N := some 97) (v := ?_) (a' := ?_) #[true, true, true, true, true, true, true, true, true, true, true, true, true, true, false, false, false, false, false] rfl rfl (by kernel_rfl) (fun _ _ _ h => h) (Or.inl ⟨by rfl, ?_⟩) ?_ ?_
          rotate_left
          · intro w'
            go_simp
            with_reducible rfl
          rotate_left
          · simp only [Act.put, List.setIfInBounds_toArray, List.set_cons_zero, List.set_cons_succ, i64_w, i32_w]
            rfl
          refine pure_ (i := 14) (N := some 98) (v := ?_) (a' := ?_) #[true, true, true, true, true, true, true, true, true, true, true, true, true, true, true, false, false, false, false] rfl rfl (by kernel_rfl) (fun _ _ _ h => h) (Or.inl ⟨by rfl, ?_⟩) ?_ ?_
          rotate_left
          · intro w'
            go_simp
            with_reducible rfl
          rotate_left
          · simp only [Act.put, List.setIfInBounds_toArray, List.set_cons_zero, List.set_cons_succ, i64_w, i32_w]
            rfl
          refine one_ (i := 15) (N := some 99) #[true, true, true, true, true, true, true, true, true, true, true, true, true, true, true, true, false, false, false] rfl rfl (by kernel_rfl) (by decide) (fun K hK => ?_)
          refine value_ (w1 := ?_) (v := ?_) (by rfl) rfl ?_ ?_
          rotate_left 2
          · go_simp
            constructor
            · rfl
            · rfl
          have HQc := Aside0.mk (blk_alloc (blk_drewN HQo.out (1 + nd)) (.cells #[.int .u8 (48 + (b : Int))] 5)); have HBc := Aside0.mk (below_alloc (pw_below_drewN HBo.out (1 + nd)) (.cells #[.int .u8 (48 + (b : Int))] 5)); have HKc := Aside0.mk (keep_alloc (keep_drewN HKo.out (1 + nd)) (.cells #[.int .u8 (48 + (b : Int))] 5)); have hstr := FS.out (wq.drewN (1 + nd)); rw [show (wq.drewN (1 + nd)).heap.size = wq.heap.size by simp] at hstr; replace hstr : (convert 22 9 (.slice (some ⟨wq.heap.size, 0, none⟩) 1 1)).run Try.prog ((wq.drewN (1 + nd)).alloc (.cells #[.int .u8 (48 + (b : Int))] 5)) = .ok (.string ch) ((wq.drewN (1 + nd)).alloc (.cells #[.int .u8 (48 + (b : Int))] 5)) := hstr
          refine hK.out _ _ ⟨(blk_cell HQc.out 0), (blk_cell HQc.out 1)⟩ (fun hHeld => ?_)
          clear hK K
          refine norm_ (a' := ?_) ?_ ?_
          rotate_left
          · show Act.put _ (some 99) _ = _
            simp only [Act.put, List.setIfInBounds_toArray, List.set_cons_zero, List.set_cons_succ, i64_w, i32_w]
            rfl
          refine one_ (i := 16) (N := some 100) #[true, true, true, true, true, true, true, true, true, true, true, true, true, true, true, true, true, false, false] rfl rfl (by kernel_rfl) (by decide) (fun K hK => ?_)
          refine value_ (w1 := ?_) (v := ?_) (by rfl) rfl ?_ ?_
          rotate_left 2
          · go_simp
            constructor
            · rfl
            · rfl
          refine hK.out _ _ ⟨(blk_cell HQc.out 0), (blk_cell HQc.out 1)⟩ (fun hHeld => ?_)
          clear hK K
          refine norm_ (a' := ?_) ?_ ?_
          rotate_left
          · show Act.put _ (some 100) _ = _
            simp only [Act.put, List.setIfInBounds_toArray, List.set_cons_zero, List.set_cons_succ, i64_w, i32_w]
            rfl
          refine pure_ (i := 17) (N := some 101) (v := ?_) (a' := ?_) #[true, true, true, true, true, true, true, true, true, true, true, true, true, true, true, true, true, true, false] rfl rfl (by kernel_rfl) (fun _ _ _ h => h) (Or.inl ⟨by rfl, ?_⟩) ?_ ?_
          rotate_left
          · intro w'
            go_simp
            with_reducible rfl
          rotate_left
          · simp only [Act.put, List.setIfInBounds_toArray, List.set_cons_zero, List.set_cons_succ, i64_w, i32_w]
            rfl
          refine pure_ (i := 18) (N := some 6) (v := ?_) (a' := ?_) #[true, true, true, true, true, true, true, true, true, true, true, true, true, true, true, true, true, true, true] rfl rfl (by kernel_rfl) (fun _ _ _ h => h) (Or.inl ⟨by rfl, ?_⟩) ?_ ?_
          rotate_left
          · intro w'
            go_simp
            with_reducible rfl
          rotate_left
          · simp only [Act.put, List.setIfInBounds_toArray, List.set_cons_zero, List.set_cons_succ, i64_w, i32_w]
            rfl
          refine done_ (by kernel_rfl) ?_
          go_wp2
          go_roundw
          case rel => exact ⟨l + 1, by rw [HNX.out], by omega, by omega, HNO2, HQc, HBc, HKc⟩
          case measure =>
            rw [HNX.out]
            show 17 - (strT (txtN (VN s a (l + 1)) (l + 1))).size < 17 - sl.size
            rw [strT_size, txtN_len]
            omega
end Go.Proofs.Ytlfcepdaicngjaa.Pk

/- Plain: both Signs answer the same. -/
namespace Go.Proofs.Ytlfcepdaicngjaa.Pk
set_option linter.unusedVariables false
set_option linter.unusedSimpArgs false
open Go Go.RowKit Go.Proofs.Ytlfcepdaicngjaa.P Go.Proofs.Ytlfcepdaicngjaa.MapV Go.Proofs.Ytlfcepdaicngjaa.B Go.Proofs.Ytlfcepdaicngjaa.Bn Go.Proofs.Ytlfcepdaicngjaa.Rd Go.Proofs.YtlfcepdaicngjaaW.PrintWords Go.Proofs.YtlfcepdaicngjaaW.PrintLast Go.Proofs.YtlfcepdaicngjaaW.PrintMore
theorem vn_of (s : ByteArray) (a t k : Nat) (h : k ≤ t) : rvs (num s a t) k = VN s a k := by
  unfold VN
  exact rvs_congr _ _ k (by unfold num; rw [Nat.mod_mod_of_dvd _ (Nat.pow_dvd_pow 2 h), Nat.mod_mod])
theorem getD_nat (ls : List Int) (i : Nat) (hi : i < ls.length) : (nat ls).getD i 0 = (nat ls)[i]'(by rw [nat_len]; exact hi) := by
  rw [List.getD_eq_getElem?_getD, List.getElem?_eq_getElem (by rw [nat_len]; exact hi), Option.getD_some]
theorem none_iff (ls ws : List Int) (hk : CodeOk ls ws) (s : ByteArray) (a k : Nat) (h1 : 1 ≤ k) (h15 : k ≤ 15) : signsG ls ws ls.length (wd (k : Int) ((VN s a k : Nat) : Int)) = none ↔ ∀ j, j < (nat ls).length → ¬ Mt (nat ls) s a k j := by
  have hv := VN_lt s a k
  have hp : (2 : Nat) ^ k ≤ 2 ^ 15 := Nat.pow_le_pow_right (by omega) h15
  constructor
  · rintro h j hj ⟨e1, e2⟩
    have hj2 : j < ls.length := by rw [nat_len] at hj; exact hj
    rw [getD_nat ls j hj2] at e1
    have hh := hk.has j hj2 (by omega)
    rw [e1, e2, h] at hh
    cases hh
  · intro h
    cases hs : signsG ls ws ls.length (wd (k : Int) ((VN s a k : Nat) : Int)) with
    | none => rfl
    | some u =>
      obtain ⟨i, hi, _, _, e1, e2⟩ := hk.look k (VN s a k) h15 (by omega) u hs
      exact absurd ⟨by rw [getD_nat ls i hi]; exact e1, e2⟩ (h i (by rw [nat_len]; exact hi))
theorem goes_iff (ls ws : List Int) (hk : CodeOk ls ws) (s : ByteArray) (a r j : Nat) (hj : j < ls.length) : goesP ls ws (VN s a r) r j ↔ Gt (nat ls) s a r j := by
  obtain ⟨e1, e2⟩ := hk.at_ j hj
  unfold goesP Gt
  rw [getD_nat ls j hj, e1, Int.toNat_natCast]
  by_cases h : r < (nat ls)[j]'(by rw [nat_len]; exact hj)
  · obtain ⟨e3, _, _⟩ := hk.word j hj (by omega)
    rw [e3, Int.toNat_natCast]
    constructor
    · rintro ⟨_, q⟩; exact ⟨h, q⟩
    · rintro ⟨_, q⟩; exact ⟨by omega, q⟩
  · constructor
    · rintro ⟨q, _⟩; omega
    · rintro ⟨q, _⟩; exact absurd q h
theorem sign_same (ls ws : List Int) (hk : CodeOk ls ws) (s : ByteArray) (a : Nat) (ha : a ≤ 8 * s.size) (x er x2 er2 : Int) (a' a2 : Nat) (h1 : SignR ls ws s a x er a') (h2 : RR (nat ls) s a x2 er2 a2) : x = x2 ∧ er = er2 ∧ a' = a2 := by
  have hmr := mostW_range ls hk.rng ls.length (Nat.le_refl _)
  have hnl := nat_len ls
  obtain ⟨t, ht⟩ : ∃ t, min (mostW ls ls.length).toNat (8 * s.size - a) = t := ⟨_, rfl⟩
  unfold SignR at h1
  rw [ht] at h1
  dsimp only at h1
  rcases h1 with ⟨i, l, hi, rfl, rfl, p1, p2, p3, p4, p5, rfl⟩ | ⟨rfl, rfl, hno, hp⟩
  · rw [vn_of s a t l p2] at p4
    have hm : Mt (nat ls) s a l i := ⟨by rw [getD_nat ls i hi]; exact p3, p4⟩
    have hmin : ∀ k, 1 ≤ k → k < l → ∀ j, j < (nat ls).length → ¬ Mt (nat ls) s a k j := fun k q1 q2 => by
      have := p5 k q1 q2
      rw [vn_of s a t k (by omega)] at this
      exact (none_iff ls ws hk s a k q1 (by omega)).1 this
    rcases h2 with ⟨i2, l2, q1, rfl, rfl, q2, q3, q4, q5, q6, rfl⟩ | ⟨rfl, rfl, q1, q2⟩
    · rcases Nat.lt_trichotomy l l2 with hlt | heq | hgt
      · exact absurd hm (q6 l p1 hlt i (by omega))
      · subst heq
        have := word_inj (nat ls) i i2 (by omega) q1 (by rw [p3]; have := q5.1; rw [List.getD_eq_getElem?_getD, List.getElem?_eq_getElem q1] at this; exact this.symm) (p4.trans q5.2.symm)
        subst this
        exact ⟨rfl, rfl, rfl⟩
      · exact absurd q5 (hmin l2 q2 hgt i2 q1)
    · exact absurd hm (q1 l p1 (by omega) (by omega) i (by omega))
  · have hno2 : ∀ k, 1 ≤ k → k ≤ t → ∀ j, j < (nat ls).length → ¬ Mt (nat ls) s a' k j := fun k q1 q2 => by
      have := hno k q1 q2
      rw [vn_of s a' t k q2] at this
      exact (none_iff ls ws hk s a' k q1 (by omega)).1 this
    rw [vn_of s a' t t (Nat.le_refl _)] at hp
    rcases h2 with ⟨i2, l2, q1, rfl, rfl, q2, q3, q4, q5, q6, rfl⟩ | ⟨rfl, e9, q1, q2⟩
    · have hmo := hk.most i2 (by omega)
      have e := q5.1
      rw [getD_nat ls i2 (by omega)] at e
      exact absurd q5 (hno2 l2 q2 (by omega) i2 q1)
    · refine ⟨rfl, ?_, e9.symm⟩
      by_cases hlt : (t : Int) < mostW ls ls.length
      · have hr : 8 * s.size - a' = t := by
          clear hp hno hno2 q1 q2
          omega
        rw [hr] at q2
        have e : (∃ i, i < ls.length ∧ goesP ls ws (VN s a' t) t i) ↔ ∃ j, j < (nat ls).length ∧ Gt (nat ls) s a' t j := by
          constructor
          · rintro ⟨i, hi, hg⟩; exact ⟨i, by omega, (goes_iff ls ws hk s a' t i hi).1 hg⟩
          · rintro ⟨j, hj, hg⟩; exact ⟨j, by omega, (goes_iff ls ws hk s a' t j (by omega)).2 hg⟩
        rcases hp with ⟨rfl, _, hg⟩ | ⟨rfl, hg⟩
        · rcases q2 with ⟨_, ⟨rfl, _⟩ | ⟨_, hn⟩⟩ | ⟨hb, _⟩
          · rfl
          · obtain ⟨j, hj, hgj⟩ := e.1 hg
            exact absurd hgj (hn j hj)
          · omega
        · rcases q2 with ⟨_, ⟨_, hy⟩ | ⟨rfl, _⟩⟩ | ⟨hb, _⟩
          · exact absurd (e.2 hy) (hg hlt)
          · rfl
          · omega
      · rcases hp with ⟨_, hq, _⟩ | ⟨rfl, _⟩
        · exact absurd hq hlt
        · rcases q2 with ⟨_, ⟨_, j, hj, hg⟩ | ⟨rfl, _⟩⟩ | ⟨_, rfl⟩
          · have hmo := hk.most j (by omega)
            have e := hg.1
            rw [getD_nat ls j (by omega)] at e
            omega
          · rfl
          · rfl
end Go.Proofs.Ytlfcepdaicngjaa.Pk

/- What New answers, exactly: the program's and the reference's. -/
namespace Go.Proofs.Ytlfcepdaicngjaa.Pk
set_option linter.unusedVariables false
set_option linter.unusedSimpArgs false
open Go Go.RowKit Go.Proofs.Ytlfcepdaicngjaa.P Go.Proofs.Ytlfcepdaicngjaa.MapV Go.Proofs.YtlfcepdaicngjaaW.PrintWords Go.Proofs.YtlfcepdaicngjaaW.PrintLast Go.Proofs.YtlfcepdaicngjaaW.PrintMore
theorem half_pow (x : Nat) (hx : x ≤ 15) : 32768 / 2 ^ x = 2 ^ (15 - x) := by
  rw [show (32768 : Nat) = 2 ^ 15 from rfl, Nat.pow_div hx (by decide)]
theorem rfill_l1 (l0 : List Int) (acc n i : Int) (x : Nat) (hx : x ≤ 15) : ∀ (d j q : Nat), j + d = x → portmanteauref04_Fill.l1 (q + d + 1) acc (x : Int) ((32768 / 2 ^ j : Nat) : Int) (j : Int) l0 n i = portmanteauref04_Fill.l0 q (wrap64 (acc + ((32768 / 2 ^ x : Nat) : Int))) l0 n (wrap64 (i + 1))
  | 0, j, q, h => by
    obtain rfl : j = x := by omega
    rw [show q + 0 + 1 = q + 1 from rfl, portmanteauref04_Fill.l1, wrap_id (x := (j : Int)) (by omega) (by omega), if_neg (by omega)]
  | d + 1, j, q, h => by
    have ih := rfill_l1 l0 acc n i x hx d (j + 1) q (by omega)
    have hq : 32768 / 2 ^ (j + 1) = 32768 / 2 ^ j / 2 := by rw [Nat.pow_succ, Nat.div_div_eq_div_mul]
    have hb : 32768 / 2 ^ j ≤ 32768 := Nat.div_le_self _ _
    rw [hq] at ih
    obtain ⟨y, hy⟩ : ∃ y, 32768 / 2 ^ j = y := ⟨_, rfl⟩
    rw [hy] at ih hb ⊢
    rw [show q + (d + 1) + 1 = (q + d + 1) + 1 by omega, portmanteauref04_Fill.l1, wrap_id (x := (x : Int)) (by omega) (by omega), if_pos (by omega), Int.tdiv_eq_ediv_of_nonneg (by omega), wrap_id (x := (y : Int) / 2) (by omega) (by omega), wrap_id (x := (j : Int) + 1) (by omega) (by omega), show (y : Int) / 2 = ((y / 2 : Nat) : Int) by omega, show (j : Int) + 1 = ((j + 1 : Nat) : Int) by omega]
    exact ih
theorem shr_half (x : Nat) (h0 : 0 < x) (hx : x ≤ 15) : shr .i64 32768 (x : Int) = ((32768 / 2 ^ x : Nat) : Int) := by
  unfold shr
  rw [Int.toNat_natCast, Nat.min_eq_left (by simp [IntKind.bits]; omega)]
  rcases (by omega : x = 1 ∨ x = 2 ∨ x = 3 ∨ x = 4 ∨ x = 5 ∨ x = 6 ∨ x = 7 ∨ x = 8 ∨ x = 9 ∨ x = 10 ∨ x = 11 ∨ x = 12 ∨ x = 13 ∨ x = 14 ∨ x = 15) with rfl | rfl | rfl | rfl | rfl | rfl | rfl | rfl | rfl | rfl | rfl | rfl | rfl | rfl | rfl <;> rfl
theorem rfill_loop (l0 : List Int) (hu : ∀ x ∈ l0, 0 ≤ x) (hl : l0.length ≤ 4096) : ∀ (d i k k2 : Nat) (acc : Int), i + d = l0.length → 20 * d + 1 ≤ k → d + 1 ≤ k2 → portmanteauref04_Fill.l0 k acc l0 (l0.length : Int) (i : Int) = prefix_Fill.l0 k2 acc l0 (l0.length : Int) (i : Int)
  | 0, i, k, k2, acc, h, hk, hk2 => by
    obtain ⟨k, rfl⟩ : ∃ q, k = q + 1 := ⟨k - 1, by omega⟩
    obtain ⟨k2, rfl⟩ : ∃ q, k2 = q + 1 := ⟨k2 - 1, by omega⟩
    rw [portmanteauref04_Fill.l0, prefix_Fill.l0, if_neg (by omega), if_neg (by omega)]
  | d + 1, i, k, k2, acc, h, hk, hk2 => by
    obtain ⟨k, rfl⟩ : ∃ q, k = q + 1 := ⟨k - 1, by omega⟩
    obtain ⟨k2, rfl⟩ : ∃ q, k2 = q + 1 := ⟨k2 - 1, by omega⟩
    have hil : i < l0.length := by omega
    have hxi := hu _ (List.getElem_mem hil)
    have hr : rd l0 (i : Int) = l0[i] := by unfold rd; rw [Int.toNat_natCast, List.getD_eq_getElem?_getD, List.getElem?_eq_getElem hil, Option.getD_some]
    have hw : wrap64 ((i : Int) + 1) = ((i + 1 : Nat) : Int) := by rw [wrap_id (by omega) (by omega)]; omega
    have p1 : (i : Int) < (l0.length : Int) := by omega
    have p2 : (0 : Int) ≤ (i : Int) := by omega
    rw [portmanteauref04_Fill.l0, prefix_Fill.l0]
    simp only [if_pos p1, if_pos p2, hr]
    obtain ⟨x, hxx⟩ : ∃ x : Nat, l0[i] = (x : Int) := ⟨l0[i].toNat, by omega⟩
    rw [hxx]
    by_cases h15 : (x : Int) > 15
    · rw [if_pos h15, if_pos h15]
    · rw [if_neg h15, if_neg h15]
      by_cases h0 : (x : Int) > 0
      · obtain ⟨q, rfl⟩ : ∃ q, k = q + x + 1 := ⟨k - x - 1, by omega⟩
        have h1 := rfill_l1 l0 acc (l0.length : Int) (i : Int) x (by omega) x 0 q (by omega)
        rw [Nat.pow_zero, Nat.div_one] at h1
        rw [if_pos h0, if_pos h0, if_pos (by omega), shr_half x (by omega) (by omega), hw]
        rw [hw] at h1
        exact h1.trans (rfill_loop l0 hu hl d (i + 1) q k2 _ (by omega) (by omega) (by omega))
      · rw [if_neg h0, if_neg h0, hw]
        exact rfill_loop l0 hu hl d (i + 1) k k2 _ (by omega) (by omega) (by omega)
theorem rfill_f (l0 : List Int) (hu : ∀ x ∈ l0, 0 ≤ x) (hl : l0.length ≤ 400) (k : Nat) (hk : 9000 ≤ k) : portmanteauref04_Fill.f k l0 = prefix_Fill.f 5000 l0 := by
  unfold portmanteauref04_Fill.f prefix_Fill.f
  rw [if_neg (by omega), if_neg (by omega)]
  exact rfill_loop l0 hu (by omega) l0.length 0 k 5000 0 (by omega) (by omega) (by omega)
theorem rnew_loop (l0 : List Int) (hu : ∀ x ∈ l0, 0 ≤ x) (hl : l0.length ≤ 400) (ws : List ByteArray) : ∀ (d i k k2 acc : Nat) (b : Bool), i + d = l0.length → d + 1 ≤ k → acc ≤ i → prefix_few.l0 k2 (acc : Int) l0 (l0.length : Int) (i : Int) = some b → portmanteauref04_New.l0 k ws (acc : Int) l0 (l0.length : Int) (i : Int) = some (if b = true then (ws, 0) else ([], 10))
  | d, i, k, 0, acc, b, h, hk, ha, hb => by simp [prefix_few.l0] at hb
  | 0, i, k, k2 + 1, acc, b, h, hk, ha, hb => by
    obtain ⟨k, rfl⟩ : ∃ q, k = q + 1 := ⟨k - 1, by omega⟩
    rw [prefix_few.l0, if_neg (by omega)] at hb
    rw [portmanteauref04_New.l0, if_neg (by omega)]
    simp only [Option.some.injEq] at hb
    subst hb
    by_cases q : (acc : Int) > 1
    · rw [if_pos q, if_neg (by simpa using q)]
    · rw [if_neg q, if_pos (by simpa using q)]
  | d + 1, i, k, k2 + 1, acc, b, h, hk, ha, hb => by
    obtain ⟨k, rfl⟩ : ∃ q, k = q + 1 := ⟨k - 1, by omega⟩
    have hil : i < l0.length := by omega
    have hxi := hu _ (List.getElem_mem hil)
    have hr : rd l0 (i : Int) = l0[i] := by unfold rd; rw [Int.toNat_natCast, List.getD_eq_getElem?_getD, List.getElem?_eq_getElem hil, Option.getD_some]
    have hw : wrap64 ((i : Int) + 1) = ((i + 1 : Nat) : Int) := by rw [wrap_id (by omega) (by omega)]; omega
    rw [prefix_few.l0, if_pos (by omega), if_pos (by omega), if_pos (by omega), hr, hw] at hb
    rw [portmanteauref04_New.l0, if_pos (by omega), if_pos (by omega), if_pos (by omega), hr, hw]
    by_cases h1 : l0[i] > 1
    · rw [if_pos h1] at hb ⊢
      injection hb with hb
      subst hb
      rw [if_neg (by decide)]
    · rw [if_neg h1] at hb ⊢
      rw [wrap_id (x := l0[i]) (by omega) (by omega), wrap_id (by omega) (by omega)] at hb
      by_cases h2 : l0[i] = 1
      · rw [if_pos h2, wrap_id (by omega) (by omega), show (acc : Int) + 1 = ((acc + 1 : Nat) : Int) by omega]
        rw [h2, show (acc : Int) + 1 = ((acc + 1 : Nat) : Int) by omega] at hb
        exact rnew_loop l0 hu hl ws d (i + 1) k k2 (acc + 1) b (by omega) (by omega) (by omega) hb
      · rw [if_neg h2]
        rw [show l0[i] = 0 by omega, Int.add_zero] at hb
        exact rnew_loop l0 hu hl ws d (i + 1) k k2 acc b (by omega) (by omega) (by omega) hb
/-- What New answers. -/
def newR (l0 : List Int) (o : Bool) : Int := match prefix_Fill.f 5000 l0 with
  | none => 0
  | some (n, e) => if e ≠ 0 then e else if n > 32768 then 10 else if n = 32768 then 0 else if o = true then (if prefix_few.f 5000 l0 = some true then 0 else 10) else 10
theorem new_exact (A0 : Option Addr) (c0 : Nat) (l0 : List Int) (o : Bool) (w : World) (hr0 : Kd.C (Kd.int .u8) w A0 l0.length l0) (hc0 : l0.length ≤ c0) (hu : ∀ x ∈ l0, 0 ≤ x) :
    Calls Try.prog 8 #[.slice A0 l0.length c0, .bool o] w fun e w' => ∃ c, e = .returned (.tuple #[c, .int .i64 (newR l0 o)]) ∧ Below w.heap.size w w' ∧
      ((newR l0 o ≠ 0 ∧ c = .pointer none) ∨ ∃ p n, newR l0 o = 0 ∧ c = .pointer (some ⟨p, 0, none⟩) ∧ prefix_Fill.f 5000 l0 = some (n, 0) ∧ n ≤ 32768 ∧ okW l0 = true ∧ IsCode w' p l0 (wordsW l0).2) := by
  obtain ⟨n, e, hF, hW⟩ := words_total l0 hu
  by_cases he : e = 0
  · subst he
    by_cases hn : n > 32768
    · have hR : newR l0 o = 10 := by unfold newR; rw [hF]; simp [hn]
      rw [if_pos rfl, if_pos hn] at hW
      rw [hR]
      exact (new_bad A0 c0 l0 _ _ o w hr0 hc0 hW (by decide)).mono fun x w' ⟨h1, h2⟩ => ⟨_, h1, h2, .inl ⟨by decide, rfl⟩⟩
    · rw [if_pos rfl, if_neg hn] at hW
      have hok := fill_okW l0 n hu hF
      obtain ⟨hlen, hall⟩ : l0.length ≤ 4096 ∧ ∀ x ∈ l0, 0 ≤ x ∧ x ≤ 15 := by simpa [okW] using hok
      obtain ⟨b, hb⟩ := few_total l0 hlen
      by_cases h : 32768 ≤ n ∨ n < 32768 ∧ o = true ∧ prefix_few.f 5000 l0 = some true
      · have hR : newR l0 o = 0 := by
          unfold newR
          rw [hF]
          rcases h with h | ⟨h1, h2, h3⟩
          · simp [show n = 32768 by omega]
          · simp [h2, h3, show ¬ 32768 < n by omega]
        rw [hR]
        exact (new_ok A0 c0 l0 _ n o w hr0 hc0 hW hF hlen (wordsW_length l0) hall (wordsW_B32 l0) h).mono fun x w' ⟨p, h1, h2, h3, h4⟩ => ⟨_, h2, h4, .inr ⟨p, n, rfl, rfl, hF, by omega, hok, h3⟩⟩
      · have hn2 : n < 32768 := by
          rcases Int.lt_or_le n 32768 with q | q
          · exact q
          · exact absurd (.inl q) h
        have hcond : o = false ∨ o = true ∧ prefix_few.f 5000 l0 = some false := by
          cases o with
          | false => exact .inl rfl
          | true =>
            cases b with
            | false => exact .inr ⟨rfl, hb⟩
            | true => exact absurd (.inr ⟨hn2, rfl, hb⟩) h
        have hR : newR l0 o = 10 := by
          unfold newR
          rw [hF]
          rcases hcond with h1 | ⟨h1, h2⟩
          · simp [h1, show ¬ 32768 < n by omega, show ¬ n = 32768 by omega]
          · simp [h1, h2, show ¬ 32768 < n by omega, show ¬ n = 32768 by omega]
        rw [hR]
        exact (new_shut A0 c0 l0 _ n o w hr0 hc0 hW hF hn2 hcond).mono fun x w' ⟨h1, h2⟩ => ⟨_, h1, h2, .inl ⟨by decide, rfl⟩⟩
  · have hR : newR l0 o = e := by unfold newR; rw [hF]; simp [he]
    rw [if_neg he] at hW
    rw [hR]
    exact (new_bad A0 c0 l0 _ e o w hr0 hc0 hW he).mono fun x w' ⟨h1, h2⟩ => ⟨_, h1, h2, .inl ⟨he, rfl⟩⟩
theorem rnew_f (l0 : List Int) (o : Bool) (hu : ∀ x ∈ l0, 0 ≤ x) (hl : l0.length ≤ 400) : ∃ ws, portmanteauref04_New.f 310000 l0 o = some (ws, newR l0 o) ∧ (newR l0 o = 0 → FinW (nat l0) ws) := by
  obtain ⟨n, e, hF⟩ := fill_total l0 hu
  have hrf := rfill_f l0 hu hl 310000 (by omega)
  rw [hF] at hrf
  unfold portmanteauref04_New.f portmanteauref04_Words.f newR
  rw [hrf, hF, Option.bind_some]
  dsimp only
  by_cases he : e = 0
  · subst he
    by_cases hn : n > 32768
    · refine ⟨[], ?_, fun q => ?_⟩
      · rw [if_pos rfl, if_pos hn, Option.bind_some]
        simp [hn]
      · simp [hn] at q
    · have hok := fill_okW l0 n hu hF
      obtain ⟨hlen, hall⟩ : l0.length ≤ 4096 ∧ ∀ x ∈ l0, 0 ≤ x ∧ x ≤ 15 := by simpa [okW] using hok
      have hfi := fill_is l0 n hok hF
      have hst := words_start (nat l0)
      rw [nat_len] at hst
      obtain ⟨ws, h1, h2⟩ := outer_run l0 hall (by omega) hl 15 1 310000 _ 0 0 true (by omega) (by omega) (by omega) hst
      obtain ⟨b, hb⟩ := few_total l0 hlen
      have hlp := rnew_loop l0 hu hl ws l0.length 0 310000 5000 0 b (by omega) (by omega) (by omega) hb
      rw [if_pos rfl, if_neg hn, if_pos (by omega), if_pos (by omega), Int.toNat_natCast]
      rw [show ((0 : Nat) : Int) = 0 from rfl, show ((1 : Nat) : Int) = 1 from rfl] at h1
      rw [show ((0 : Nat) : Int) = 0 from rfl] at hlp
      rw [h1, Option.bind_some]
      dsimp only
      rw [if_pos rfl, Option.bind_some]
      dsimp only
      by_cases h3 : n = 32768
      · exact ⟨ws, by simp [h3], fun _ => h2⟩
      · cases o with
        | false => exact ⟨[], by simp [h3, show ¬ 32768 < n by omega], fun q => by simp [h3, show ¬ 32768 < n by omega] at q⟩
        | true =>
          rw [if_neg h3, if_pos rfl, hlp]
          cases b with
          | true => exact ⟨ws, by simp [h3, hb, show ¬ 32768 < n by omega], fun _ => h2⟩
          | false => exact ⟨[], by simp [h3, hb, show ¬ 32768 < n by omega], fun q => by simp [h3, hb, show ¬ 32768 < n by omega] at q⟩
  · refine ⟨[], ?_, fun q => ?_⟩
    · rw [if_neg he, Option.bind_some]
      dsimp only
      rw [if_neg he]
      simp [he]
    · simp [he] at q
end Go.Proofs.Ytlfcepdaicngjaa.Pk

/- portmanteauref03.Writer: its methods: bits, one by one. -/
namespace Go.Proofs.Ytlfcepdaicngjaa.Rw
set_option linter.unusedVariables false
set_option linter.unusedSimpArgs false
open Go Go.RowKit Go.Proofs.Ytlfcepdaicngjaa.P Go.Proofs.Ytlfcepdaicngjaa.B Go.Proofs.Ytlfcepdaicngjaa.Bn Go.Proofs.Ytlfcepdaicngjaa.Hd Go.Proofs.Ytlfcepdaicngjaa.Bw Go.Proofs.YtlfcepdaicngjaaW.PrintWords Go.Proofs.YtlfcepdaicngjaaW.PrintLast Go.Proofs.YtlfcepdaicngjaaW.PrintMore

/-- The bits of a number, one by one. -/
def bitl (N : Nat) : Nat → List Int
  | 0 => []
  | n + 1 => bitl N n ++ [((N / 2 ^ n % 2 : Nat) : Int)]
theorem bitl_len (N n : Nat) : (bitl N n).length = n := by
  induction n with
  | zero => rfl
  | succ n ih => rw [bitl, List.length_append, ih]; rfl
theorem bitl_congr (N M : Nat) : ∀ n, N % 2 ^ n = M % 2 ^ n → bitl N n = bitl M n := by
  intro n
  induction n with
  | zero => intro _; rfl
  | succ n ih =>
    intro h
    rw [Nat.pow_succ, Nat.mod_mul, Nat.mod_mul] at h
    have h1 : N % 2 ^ n < 2 ^ n := Nat.mod_lt _ (Nat.pow_pos (by decide))
    have h2 : M % 2 ^ n < 2 ^ n := Nat.mod_lt _ (Nat.pow_pos (by decide))
    have e1 : N % 2 ^ n = M % 2 ^ n := by
      have := congrArg (fun z => z % 2 ^ n) h
      simpa [Nat.add_mul_mod_self_left] using this
    have e2 : N / 2 ^ n % 2 = M / 2 ^ n % 2 := by
      rw [e1] at h
      exact Nat.eq_of_mul_eq_mul_left (Nat.pow_pos (by decide)) (Nat.add_left_cancel h)
    rw [bitl, bitl, ih e1, e2]
theorem bitl_snoc (N len b : Nat) (h : N < 2 ^ len) (hb : b < 2) : bitl (N + 2 ^ len * b) (len + 1) = bitl N len ++ [(b : Int)] := by
  rw [bitl, bitl_congr (N + 2 ^ len * b) N len (by rw [Nat.add_mul_mod_self_left]), Nat.add_mul_div_left _ _ (Nat.pow_pos (by decide)), Nat.div_eq_of_lt h, Nat.zero_add, Nat.mod_eq_of_lt hb]
theorem bitl_get (N len i : Nat) (h : i < len) : (bitl N len)[i]? = some ((N / 2 ^ i % 2 : Nat) : Int) := by
  induction len with
  | zero => omega
  | succ n ih =>
    rw [bitl]
    by_cases hi : i < n
    · rw [List.getElem?_append_left (by rw [bitl_len]; exact hi)]; exact ih hi
    · obtain rfl : i = n := by omega
      rw [List.getElem?_append_right (by rw [bitl_len]; omega), bitl_len]; simp
/-- The writer at g has written the number N, of len bits, as a row v of bits. -/
def IsRW (base : Nat) (W : World) (g : Nat) (v : Value) (N len : Nat) : Prop :=
  Holds base W g 50 #[v] v (bitl N len) ∧ N < 2 ^ len
theorem IsRW.new (base : Nat) (W : World) (h : base ≤ W.heap.size) : IsRW base (W.alloc (.cells #[.slice none 0 0] 50)) W.heap.size (.slice none 0 0) 0 0 :=
  ⟨⟨heap_alloc_new W _, h, Kd.R_nil _ _ _ _ _⟩, by decide⟩
theorem IsRW.below {base g N len : Nat} {W W1 : World} {v : Value} (h : IsRW base W g v N len) (hb : Below W.heap.size W W1) : IsRW base W1 g v N len := ⟨h.1.below hb, h.2⟩
theorem IsRW.alloc {base g N len : Nat} {W : World} {v : Value} (h : IsRW base W g v N len) (o : Obj) : IsRW base (W.alloc o) g v N len := ⟨h.1.alloc o, h.2⟩
theorem IsRW.drewN {base g N len : Nat} {W : World} {v : Value} (h : IsRW base W g v N len) (m : Nat) : IsRW base (W.drewN m) g v N len := ⟨h.1.drewN m, h.2⟩
theorem IsRW.under {base g N len : Nat} {w W W1 : World} {v v1 : Value} (h : IsRW base W g v N len) (hw : Wrote W W1 g v v1) (hb : Below base w W) : Below base w W1 := hw.below' h.1 hb
theorem IsRW.bits {base g N len : Nat} {W : World} {v : Value} (h : IsRW base W g v N len) : ∃ A c, v = .slice A len c := by
  obtain ⟨A, c, hv, _⟩ := Kd.R_reads h.1.row
  rw [bitl_len] at hv
  exact ⟨A, c, hv⟩

theorem rwrite_none (g : Nat) (x n : Int) (W : World) (h : n < 1 ∨ 32 < n) :
    Calls Try.prog 34 #[.pointer (some ⟨g, 0, none⟩), .int .u32 x, .int .i64 n] W fun e W' => e = .returned (.tuple #[]) ∧ Below W.heap.size W W' := by
  by_cases h1 : n < 1
  · have hn1 : decide (n < 1) = true := decide_eq_true h1
    go_enter Try.func34, Try.ntmps34
    go_wp2
    first | go_end0 | ((try simp only [Exit.inBlock, Exit.then]); refine bodyPost_ret (results_none rfl _ _ _) rfl ?_)
    exact ⟨rfl, Below.refl _ _⟩
  · have hn1 : decide (n < 1) = false := decide_eq_false h1
    have hn2 : decide (32 < n) = true := decide_eq_true (by omega)
    go_enter Try.func34, Try.ntmps34
    go_wp2
    first | go_end0 | ((try simp only [Exit.inBlock, Exit.then]); refine bodyPost_ret (results_none rfl _ _ _) rfl ?_)
    exact ⟨rfl, Below.refl _ _⟩

set_option maxHeartbeats 4000000 in
set_option maxRecDepth 100000 in
theorem rwrite_calls (base g : Nat) (v : Value) (N len x : Nat) (n : Nat) (W : World) (hI : IsRW base W g v N len) (hx : x < 4294967296) (h1 : 1 ≤ n) (h32 : n ≤ 32) (hl : len ≤ 1099511627776) :
    Calls Try.prog 34 #[.pointer (some ⟨g, 0, none⟩), .int .u32 x, .int .i64 n] W fun e W' => e = .returned (.tuple #[]) ∧ ∃ v', IsRW base W' g v' (N + 2 ^ len * (x % 2 ^ n)) (len + n) ∧ Wrote W W' g v v' := by
  have HI0 := Aside0.mk hI
  clear hI
  have hn1 : decide ((n : Int) < 1) = false := decide_eq_false (by omega)
  have hn2 : decide ((32 : Int) < (n : Int)) = false := decide_eq_false (by omega)
  have hn3 : decide (32 < n) = false := decide_eq_false (by omega)
  go_enter Try.func34, Try.ntmps34
  go_wp2
  have HIW := Aside0.mk (Wrote.refl W g v)
  go_loopw [1, 6] (fun v1 v6 wr => ∃ (d : Nat) (u : Value), v6 = .int .i64 d ∧ d ≤ n ∧ v1 = .int .u32 ((x / 2 ^ d : Nat) : Int) ∧ Aside0 (IsRW base wr g u (N + 2 ^ len * (x % 2 ^ d)) (len + d)) ∧ Aside0 (Wrote W wr g v u))
    (fun _ v6 _ => n - (intOf v6).toNat)
  case atStart => exact ⟨0, v, rfl, by omega, by simp, ⟨by have := HI0.out; simpa [Nat.mod_one] using this⟩, HIW⟩
  case round =>
    clear HI0 HIW hn1 hn2 hn3
    obtain ⟨d, u, rfl, hd, rfl, HI, HW⟩ := hrel
    by_cases hr : d = n
    · subst hr
      have hr1 : decide (d < d) = false := decide_eq_false (by omega)
      go_wp2
      first | go_end0 | ((try simp only [Exit.inBlock, Exit.then]); refine bodyPost_ret (results_none rfl _ _ _) rfl ?_)
      exact ⟨rfl, u, HI.out, HW.out⟩
    have hr1 : decide ((d : Int) < (n : Int)) = true := decide_eq_true (by omega)
    have hr2 : decide (d < n) = true := decide_eq_true (by omega)
    have hxl : x / 2 ^ d < 4294967296 := Nat.lt_of_le_of_lt (Nat.div_le_self _ _) hx
    have hx2 : x / 2 ^ (d + 1) = x / 2 ^ d / 2 := by rw [Nat.pow_succ, Nat.div_div_eq_div_mul]
    have hmod : x % 2 ^ (d + 1) = x % 2 ^ d + 2 ^ d * (x / 2 ^ d % 2) := by rw [Nat.pow_succ, Nat.mod_mul]
    obtain ⟨M, hM⟩ : ∃ M, N + 2 ^ len * (x % 2 ^ d) = M := ⟨_, rfl⟩
    obtain ⟨m, hm⟩ : ∃ m, len + d = m := ⟨_, rfl⟩
    have hM2 : N + 2 ^ len * (x % 2 ^ (d + 1)) = M + 2 ^ m * (x / 2 ^ d % 2) := by rw [hmod, ← hM, ← hm, Nat.mul_add, Nat.pow_add, Nat.mul_assoc, Nat.add_assoc]
    rw [hM, hm] at HI
    have HX2 := Aside0.mk hx2
    have HM2 := Aside0.mk hM2
    clear hx2 hM2 hmod hM
    obtain ⟨q, hq⟩ : ∃ q, x / 2 ^ d = q := ⟨_, rfl⟩
    rw [hq] at hxl HX2 HM2 ⊢
    clear hq
    obtain ⟨b, hb⟩ : ∃ b, q % 2 = b := ⟨_, rfl⟩
    have hb2 : b < 2 := by omega
    rw [hb] at HM2
    have hq1 : (q : Int) % 2 = (b : Int) := by omega
    have hq3 : (b : Int) % 256 = (b : Int) := by omega
    have HH := Aside0.mk HI.out.1
    have HN := Aside0.mk HI.out.2
    have HSN := Aside0.mk (bitl_snoc M m b HI.out.2 hb2).symm
    have hxl2 : (bitl M m).length = m := bitl_len _ _
    have hmb : m ≤ 1099511627776 + 32 := by omega
    have hne : some g ≠ u.ownBlock := fun e => HH.out.ne (by decide) g e.symm rfl
    have hc0 : wr.cell? ⟨g, 0, none⟩ = some u := (blk_cell HH.out.blk 0).trans rfl
    obtain ⟨xs, hxs⟩ : ∃ xs, bitl M m = xs := ⟨_, rfl⟩
    rw [hxs] at HH hxl2 HSN
    clear hxs hb
    go_wp2_with ((with_reducible refine gate_builtin (b := .append) (xs := #[.tmp 22, .tmp 26]) rfl ?_); at_builtin; refine Kd.R_append (Kd.int .u8) (w0 := wr) base rfl (.tmp 22) (.tmp 26) 22 5 (.int .u8 0) 1 rfl Try.underlying22 z5 rfl (by decide) (by omega) u xs (b : Int) [.int .u8 (b : Int)] (fun k => some k = u.ownBlock ∨ wr.heap.size ≤ k) (fun _ => False) rfl rfl ?aP (fun _ hk => hk.elim) ?aF ?aO ?aB ?aS ?aL ?_; (case aP => rfl); (case aF => exact (fun _ hk => .inr hk)); (case aO => exact Kd.R_mono HH.out.row (fun _ hk => .inl hk)); (case aB => exact Below.refl _ _); (case aS => exact Nat.le_of_lt (Nat.lt_of_le_of_lt HH.out.ge HH.out.lt)); (case aL => omega); intro v6 w6 ho hb hg hat; obtain ⟨A6, c6, rfl⟩ := Kd.R_slice ho; obtain ⟨v6, hv6⟩ : ∃ v6 : Value, Value.slice A6 (xs ++ [(b : Int)]).length c6 = v6 := ⟨_, rfl⟩; have hv6' := Aside0.mk hv6.symm; (try rw [hv6] at ho hat); have HO6 := Aside0.mk (Kd.R_reok rfl ho (fun k hk => hk.symm) : Kd.R (Kd.int .u8) 5 w6 base (fun k => some k = v6.ownBlock) v6 (xs ++ [(b : Int)])); have HB6 := Aside0.mk (blk_grown HH.out.blk hg hne); have HW6 := Aside0.mk (HW.out.grow hg hat); have hc6 := blk_cell HB6.out 0; have hf6 := blk_frozen HB6.out 0; clear ho hb hg hat)
    have e6 := hv6'.out
    subst e6
    refine ⟨⟨d + 1, _, by go_num, by omega, ?_, ⟨?_, ?_⟩, ⟨HW6.out.set 0 _⟩⟩, by simp [intOf]; omega⟩
    · rw [HX2.out]; simp
    · rw [HM2.out, ← Nat.add_assoc, hm, ← HSN.out]
      have h := Holds.turn (v := .slice A6 (xs ++ [(b : Int)]).length c6) (T := 50) ⟨HB6.out, HH.out.ge, HO6.out⟩ 0 HO6.out (by decide)
      rw [show (xs ++ [(b : Int)]).length = m + 1 by rw [List.length_append, hxl2]; rfl] at h ⊢
      exact h
    · rw [HM2.out, ← Nat.add_assoc, hm]
      have h3 := lt_bits M m b 1 HN.out
      rwa [Nat.pow_one, Nat.mod_eq_of_lt hb2] at h3

end Go.Proofs.Ytlfcepdaicngjaa.Rw

/- portmanteauref04.Put: the walks. -/
namespace Go.Proofs.Ytlfcepdaicngjaa.Pk
set_option linter.unusedVariables false
set_option linter.unusedSimpArgs false
open Go Go.RowKit Go.Proofs.Ytlfcepdaicngjaa.P Go.Proofs.Ytlfcepdaicngjaa.MapV Go.Proofs.Ytlfcepdaicngjaa.B Go.Proofs.Ytlfcepdaicngjaa.Bn Go.Proofs.Ytlfcepdaicngjaa.Hd Go.Proofs.Ytlfcepdaicngjaa.Bw Go.Proofs.Ytlfcepdaicngjaa.Rw Go.Proofs.Ytlfcepdaicngjaa.Rd Go.Proofs.YtlfcepdaicngjaaW.PrintWords Go.Proofs.YtlfcepdaicngjaaW.PrintLast Go.Proofs.YtlfcepdaicngjaaW.PrintMore
theorem rvs_low (u : Nat) : ∀ j, rvs u (j + 1) = rvs (u / 2) j + 2 ^ j * (u % 2)
  | 0 => by simp [rvs]
  | j + 1 => by
    have ih := rvs_low u j
    rw [rvs, ih, rvs, Nat.pow_succ, Nat.mul_comm (2 ^ j) 2, ← Nat.div_div_eq_div_mul, Nat.mul_add, Nat.mul_assoc]
    omega
theorem txtN_get (w : Nat) : ∀ n j, j < n → (txtN w n)[j]? = some (UInt8.ofNat (48 + w / 2 ^ (n - 1 - j) % 2))
  | 0, j, h => by omega
  | n + 1, 0, _ => by rw [txtN, List.getElem?_cons_zero, show n + 1 - 1 - 0 = n by omega]
  | n + 1, j + 1, h => by rw [txtN, List.getElem?_cons_succ, txtN_get w n j (by omega), show n + 1 - 1 - (j + 1) = n - 1 - j by omega]
theorem rput_none (A : Option Addr) (c g : Nat) (x : Int) (L : List Nat) (ws : List ByteArray) (w0 W : World) (hW : FinW L ws) (hC : Kd.C Kd.string w0 A ws.length ws) (hB : Below w0.heap.size w0 W) (hx : x < 0 ∨ (L.length : Int) ≤ x ∨ L.getD x.toNat 0 = 0) :
    Calls Try.prog 17 #[.slice A ws.length c, .pointer (some ⟨g, 0, none⟩), .int .i64 x] W fun e W' => e = .returned (.int .i64 2) ∧ Below W.heap.size W W' := by
  have HC := Aside0.mk hC
  have hwl : ws.length = L.length := hW.1
  by_cases h0 : x < 0
  · have hd0 : decide (x < 0) = true := decide_eq_true h0
    go_enter Try.func17, Try.ntmps17
    go_wp2
    go_ret
    exact ⟨rfl, Below.refl _ _⟩
  have hd0 : decide (x < 0) = false := decide_eq_false h0
  by_cases h1 : (L.length : Int) ≤ x
  · have hd1 : decide ((ws.length : Int) ≤ x) = true := decide_eq_true (by omega)
    go_enter Try.func17, Try.ntmps17
    go_wp2
    go_ret
    exact ⟨rfl, Below.refl _ _⟩
  have hd1 : decide ((ws.length : Int) ≤ x) = false := decide_eq_false (by omega)
  have hd2 : decide (x < ws.length) = true := decide_eq_true (by omega)
  obtain ⟨ad, hA, hx2⟩ := Kd.at_string HC.out x (by omega) (by omega)
  cases hA
  replace hx2 := (hB.cell (World.block_lt_of_cell? w0 _ hx2)).trans hx2
  have hg : rdOf ByteArray.empty ws x = wordT L x.toNat := by unfold rdOf; exact hW.2 _ (by omega)
  rw [hg] at hx2
  have hws := wordT_size L x.toNat
  have hz : (wordT L x.toNat).size = 0 := by omega
  obtain ⟨wj, hwj⟩ : ∃ wj, wordT L x.toNat = wj := ⟨_, rfl⟩
  rw [hwj] at hx2 hz
  clear hg hwj hws
  have hzb : ((wj.size : Int) == 0) = true := by simp [hz]
  have hzb2 : (wj.size == 0) = true := by simp [hz]
  go_enter Try.func17, Try.ntmps17
  go_wp2
  go_ret
  exact ⟨rfl, Below.refl _ _⟩
set_option maxHeartbeats 4000000 in
set_option maxRecDepth 100000 in
theorem rput_calls (A : Option Addr) (c g k : Nat) (v : Value) (N len : Nat) (L : List Nat) (ws : List ByteArray) (w0 W : World) (hW : FinW L ws) (hC : Kd.C Kd.string w0 A ws.length ws) (hB : Below w0.heap.size w0 W) (hn : L.length ≤ 400) (hk : k < L.length) (hp : 0 < L.getD k 0) (h15 : L.getD k 0 ≤ 15)
    (hI : IsRW w0.heap.size W g v N len) (hl : len ≤ 1000000000) :
    Calls Try.prog 17 #[.slice A ws.length c, .pointer (some ⟨g, 0, none⟩), .int .i64 (k : Int)] W fun e W' => e = .returned (.int .i64 0) ∧ ∃ v', IsRW w0.heap.size W' g v' (N + 2 ^ len * rvs (wordN L k) (L.getD k 0)) (len + L.getD k 0) ∧ Wrote W W' g v v' := by
  have hwl : ws.length = L.length := hW.1
  rw [hwl] at hC ⊢
  clear hwl
  have HB0 := Aside0.mk hB
  have HI0 := Aside0.mk hI
  have hd1 : decide ((L.length : Int) ≤ (k : Int)) = false := decide_eq_false (by omega)
  have hd3 : decide (L.length ≤ k) = false := decide_eq_false (by omega)
  have hd4 : decide ((k : Int) < 0) = false := decide_eq_false (by omega)
  have hd2 : decide (k < L.length) = true := decide_eq_true (by omega)
  obtain ⟨ad, hA, hx2⟩ := Kd.at_string hC (k : Int) (by omega) (by omega)
  cases hA
  have hg : rdOf ByteArray.empty ws (k : Int) = wordT L k := by unfold rdOf; rw [Int.toNat_natCast]; exact hW.2 k hk
  rw [hg] at hx2
  simp only [Int.toNat_natCast] at hx2
  have hws := wordT_size L k
  have hwt : ∀ j, j < L.getD k 0 → (wordT L k).data.toList[j]? = some (UInt8.ofNat (48 + wordN L k / 2 ^ (L.getD k 0 - 1 - j) % 2)) := by
    intro j hj
    unfold wordT
    rw [if_pos hp]
    exact txtN_get _ _ j hj
  obtain ⟨y, hy⟩ : ∃ y, wordN L k = y := ⟨_, rfl⟩
  obtain ⟨n, hn2⟩ : ∃ n, L.getD k 0 = n := ⟨_, rfl⟩
  obtain ⟨t, ht⟩ : ∃ t, wordT L k = t := ⟨_, rfl⟩
  rw [ht] at hx2
  rw [ht, hn2] at hws
  rw [ht, hn2, hy] at hwt
  rw [hn2] at hp h15 ⊢
  rw [hy]
  have HX := Aside0.mk hx2
  have HWT := Aside0.mk hwt
  have hz0 : ((t.size : Int) == 0) = false := beq_eq_false_iff_ne.2 (by omega)
  have hz1 : (t.size == 0) = false := beq_eq_false_iff_ne.2 (by omega)
  have hz2 : ((n : Int) == 0) = false := by simp; omega
  have hz3 : (n == 0) = false := by simp; omega
  have hx := (hB.cell (World.block_lt_of_cell? w0 _ hx2)).trans hx2
  clear hC hB hI hW hg hx2 hwt hy hn2 ht
  go_enter Try.func17, Try.ntmps17
  go_wp2
  have HW0 := Aside0.mk (Wrote.refl W g v)
  clear hx
  go_loopw [7] (fun v7 wr => ∃ (j : Nat) (u : Value), v7 = .int .i64 j ∧ j ≤ n ∧ Aside0 (IsRW w0.heap.size wr g u (N + 2 ^ len * rvs (y / 2 ^ (n - j)) j) (len + j)) ∧ Aside0 (Wrote W wr g v u))
    (fun v7 _ => n - (intOf v7).toNat)
  case atStart => exact ⟨0, v, rfl, by omega, ⟨by have := HI0.out; simpa [rvs] using this⟩, HW0⟩
  case round =>
    clear HW0
    obtain ⟨j, u, rfl, hj, HI, HW⟩ := hrel
    have HBr := Aside0.mk (HI0.out.under HW.out HB0.out)
    have hx := (HBr.out.cell (World.block_lt_of_cell? w0 _ HX.out)).trans HX.out
    by_cases hlt : j < n
    · have hd : decide ((j : Int) < (t.size : Int)) = true := decide_eq_true (by omega)
      have hd' : decide (j < t.size) = true := decide_eq_true (by omega)
      have hd'' : decide (j < n) = true := decide_eq_true hlt
      have hjt : j < t.data.toList.length := by simpa using (by omega : j < t.size)
      have hx0 : ∀ h : j < t.size, ((t[j]'h).toNat : Int) = bt t j := bt_at t j
      have hb := bt_nat t j hjt
      have hge := HWT.out j hlt
      rw [List.getElem?_eq_getElem hjt] at hge
      injection hge with hge
      obtain ⟨b, hbb⟩ : ∃ b, y / 2 ^ (n - 1 - j) % 2 = b := ⟨_, rfl⟩
      have hb2 : b < 2 := by omega
      rw [hbb] at hge
      have hbt : (t.data.toList[j]).toNat = 48 + b := by rw [hge, UInt8.toNat_ofNat']; omega
      rw [hbt] at hb
      rw [hb] at hx0
      have hup : rvs (y / 2 ^ (n - (j + 1))) (j + 1) = rvs (y / 2 ^ (n - j)) j + 2 ^ j * b := by
        rw [rvs_low, Nat.div_div_eq_div_mul, show 2 ^ (n - (j + 1)) * 2 = 2 ^ (n - j) by rw [← Nat.pow_succ]; congr 1; omega, show n - (j + 1) = n - 1 - j by omega, hbb]
      have HUP := Aside0.mk hup
      have p0 := eq_true (show (0 : Int) ≤ (j : Int) by omega)
      have p1 := eq_true (show (j : Int) < (t.size : Int) by omega)
      have hsb : (48 : Int) + (b : Int) - 48 = (b : Int) := by omega
      clear hb hge hbt hbb hup
      go_wp2_with (go_at_call 34; (try rw [hsb]); refine (rwrite_calls w0.heap.size g u _ _ b 1 _ HI.out (by omega) (by omega) (by omega) (by omega)).mono ?_; rintro e w5 ⟨rfl, u5, hi5, hw5⟩; have HI5 := Aside0.mk hi5; have HW5 := Aside0.mk (HW.out.trans hw5); clear hi5 hw5)
      have h := HI5.out
      rw [Nat.pow_one, Nat.mod_eq_of_lt hb2] at h
      have HI6 : Aside0 (IsRW w0.heap.size w5 g u5 (N + 2 ^ len * rvs (y / 2 ^ (n - (j + 1))) (j + 1)) (len + (j + 1))) := ⟨by
        rw [HUP.out, Nat.mul_add, ← Nat.add_assoc, ← Nat.mul_assoc, ← Nat.pow_add]
        exact h⟩
      clear h
      go_roundw
      case rel => exact ⟨j + 1, u5, by go_num, by omega, HI6, HW5⟩
      case measure => simp [intOf]; omega
    · have hd : decide ((j : Int) < (t.size : Int)) = false := decide_eq_false (by omega)
      have hd' : decide (j < t.size) = false := decide_eq_false (by omega)
      have hd'' : decide (j < n) = false := decide_eq_false hlt
      obtain rfl : j = n := by omega
      go_wp2
      go_ret
      have h := HI.out
      rw [Nat.sub_self, Nat.pow_zero, Nat.div_one] at h
      exact ⟨rfl, u, h, HW.out⟩
end Go.Proofs.Ytlfcepdaicngjaa.Pk

/- portmanteauref03.Writer: Done: its bits as bytes. -/
namespace Go.Proofs.Ytlfcepdaicngjaa.Rw
set_option linter.unusedVariables false
set_option linter.unusedSimpArgs false
open Go Go.RowKit Go.Proofs.Ytlfcepdaicngjaa.P Go.Proofs.Ytlfcepdaicngjaa.B Go.Proofs.Ytlfcepdaicngjaa.Bn Go.Proofs.Ytlfcepdaicngjaa.Hd Go.Proofs.Ytlfcepdaicngjaa.Bw Go.Proofs.YtlfcepdaicngjaaW.PrintWords Go.Proofs.YtlfcepdaicngjaaW.PrintLast Go.Proofs.YtlfcepdaicngjaaW.PrintMore

set_option maxHeartbeats 4000000 in
set_option maxRecDepth 100000 in
theorem rdone_calls (base g : Nat) (v : Value) (N len : Nat) (W : World) (hI : IsRW base W g v N len) (hl : len ≤ 1099511627776) :
    Calls Try.prog 19 #[.pointer (some ⟨g, 0, none⟩)] W fun e W' => e = .returned (.string ⟨(ofN ((len + 7) / 8) N).toArray⟩) ∧ Below W.heap.size W W' := by
  have HI0 := Aside0.mk hI
  clear hI
  go_enter Try.func19, Try.ntmps19
  go_wp2
  go_loopw [3, 4] (fun v3 v4 wr => ∃ (i : Nat), v4 = .int .i64 i ∧ i ≤ len ∧ Aside0 (Kd.R (Kd.int .u8) 5 wr W.heap.size (fun k => some k = v3.ownBlock) v3 (byt (N % 2 ^ i) ((i + 7) / 8))) ∧ Aside0 (Below W.heap.size W wr))
    (fun _ v4 _ => len - (intOf v4).toNat)
  case atStart => exact ⟨0, rfl, by omega, ⟨Kd.R_nil _ _ _ _ _⟩, ⟨Below.refl _ _⟩⟩
  case round =>
    obtain ⟨i, rfl, hi, HO, HB⟩ := hrel
    have HI := Aside0.mk (HI0.out.below HB.out)
    by_cases hlt : i < len
    · have hd : decide (i < len) = true := decide_eq_true hlt
      obtain ⟨gb, c', hu, hgb1, hgb2, _⟩ := Kd.R_form HI.out.1.row (by rw [bitl_len]; omega)
      rw [bitl_len] at hu
      have HU := Aside0.mk hu
      clear hu
      have hcg : wr.cell? ⟨g, 0, none⟩ = some (.slice (some ⟨gb, 0, none⟩) len c') := by rw [← HU.out]; exact (blk_cell HI.out.1.blk 0).trans rfl
      obtain ⟨t, ht⟩ : ∃ t, i % 8 = t := ⟨_, rfl⟩
      obtain ⟨c, hc⟩ : ∃ c, i / 8 = c := ⟨_, rfl⟩
      obtain ⟨M, hM⟩ : ∃ M, N % 2 ^ i = M := ⟨_, rfl⟩
      have hMl : M < 2 ^ i := by rw [← hM]; exact Nat.mod_lt _ (Nat.pow_pos (by decide))
      have HML := Aside0.mk hMl
      obtain ⟨q, hq⟩ : ∃ q, N / 2 ^ i % 2 = q := ⟨_, rfl⟩
      have hq2 : q < 2 := by omega
      have HM2 := Aside0.mk (show N % 2 ^ (i + 1) = M + 2 ^ i * q by rw [Nat.pow_succ, Nat.mod_mul, hM, hq])
      have HQ := Aside0.mk (bitl_get N len i hlt)
      rw [hq] at HQ
      rw [hM] at HO
      clear hM hq hMl
      have ht8 : t < 8 := by omega
      have h8c : 8 * c + t = i := by omega
      have hti : (i : Int) % 8 = (t : Int) := by omega
      have hib : i ≤ 1099511627776 := by omega
      go_upto_if 18 with (fail)
      go_cut [3] (fun v3 wc => Aside0 (∃ b cap, v3 = .slice (some ⟨b, 0, none⟩) (c + 1) cap ∧ Kd.R (Kd.int .u8) 5 wc W.heap.size (fun k => some k = v3.ownBlock) v3 (byt M (c + 1)) ∧ Below W.heap.size W wc))
      case first =>
        by_cases h0 : t = 0
        · subst h0
          have e7 : (i + 7) / 8 = c := by omega
          rw [e7] at HO
          have hz : byt M c ++ [0] = byt M (c + 1) := (byt_zero M c (by rw [pow256, show 8 * c = i by omega]; exact HML.out)).symm
          have HZ := Aside0.mk hz
          have hxl : (byt M c).length = c := byt_len _ _
          obtain ⟨xs, hxs⟩ : ∃ xs, byt M c = xs := ⟨_, rfl⟩
          rw [hxs] at HO hxl HZ
          clear hz hxs
          obtain ⟨A3, c3, hu3⟩ := Kd.R_slice HO.out
          rw [hxl] at hu3
          subst hu3
          go_wp2_with ((with_reducible refine gate_builtin (b := .append) (xs := #[.tmp 19, .tmp 20]) rfl ?_); at_builtin; refine Kd.R_append (Kd.int .u8) (w0 := W) W.heap.size rfl (.tmp 19) (.tmp 20) 22 5 (.int .u8 0) 1 rfl Try.underlying22 z5 rfl (by decide) (by omega) (.slice A3 c c3) xs (0 : Int) [.int .u8 0] (fun k => some k = (Value.slice A3 c c3).ownBlock ∨ wr.heap.size ≤ k) (fun _ => False) rfl rfl ?aP (fun _ hk => hk.elim) ?aF ?aO ?aB ?aS ?aL ?_; (case aP => rfl); (case aF => exact (fun _ hk => .inr hk)); (case aO => exact Kd.R_mono HO.out (fun _ hk => .inl hk)); (case aB => exact HB.out); (case aS => exact HB.out.size); (case aL => omega); intro v6 w6 ho hb hg hat; obtain ⟨b6, c6, hv6, _, _, _⟩ := Kd.R_form ho (by simp); have HO6 := Aside0.mk (Kd.R_reok rfl ho (fun k hk => hk.symm) : Kd.R (Kd.int .u8) 5 w6 W.heap.size (fun k => some k = v6.ownBlock) v6 (xs ++ [(0 : Int)])); have hv6' := Aside0.mk hv6; have HB6 := Aside0.mk hb; clear ho hb hg hat hv6)
          go_meet
          refine ⟨b6, c6, ?_, ?_, HB6.out⟩
          · rw [hv6'.out, List.length_append, hxl]; rfl
          · rw [← HZ.out]; exact HO6.out
        · have hb : ((t : Int) == 0) = false := by simp; omega
          have hb2 : (t == 0) = false := by simp; omega
          have e7 : (i + 7) / 8 = c + 1 := by omega
          rw [e7] at HO
          go_wp2
          go_meet
          obtain ⟨b6, c6, hv6, _, _, _⟩ := Kd.R_form HO.out (by rw [byt_len]; omega)
          rw [byt_len] at hv6
          exact ⟨b6, c6, hv6, HO.out, HB.out⟩
      case rest =>
        clear HO HB hcg HI
        obtain ⟨b, cap, rfl, hro, hbw⟩ := hcut.out
        have HO := Aside0.mk hro
        have HB := Aside0.mk hbw
        clear hcut hro hbw
        have HI := Aside0.mk (HI0.out.below HB.out)
        have hcg : wc.cell? ⟨g, 0, none⟩ = some (.slice (some ⟨gb, 0, none⟩) len c') := by rw [← HU.out]; exact (blk_cell HI.out.1.blk 0).trans rfl
        go_wp2
        go_loop [5, 6] (fun v5 v6 => ∃ (j k : Nat), j ≤ t ∧ v6 = .int .i64 j ∧ v5 = .int .u8 k ∧ Aside0 (k = 2 ^ j)) (fun _ v6 => t - (intOf v6).toNat)
        case atStart => exact ⟨0, 1, by omega, rfl, rfl, ⟨rfl⟩⟩
        case round =>
          obtain ⟨j, k, hj, rfl, rfl, HK⟩ := hrel
          have hk1 : k ≤ 2 ^ j := Nat.le_of_eq HK.out
          by_cases hjt : j < t
          · have hd2 : decide (j < t) = true := decide_eq_true hjt
            have hk2 : 2 ^ j ≤ 2 ^ 6 := Nat.pow_le_pow_right (by decide) (by omega)
            have hk3 : k ≤ 64 := Nat.le_trans hk1 hk2
            clear hk1 hk2
            go_wp2
            go_round
            case rel => exact ⟨j + 1, k * 2, by omega, by go_num, by go_num, ⟨by rw [Nat.pow_succ, HK.out]⟩⟩
            case measure => simp [intOf]; omega
          have hd2 : decide (j < t) = false := decide_eq_false hjt
          obtain rfl : j = t := by omega
          clear hk1
          have hbyte : ∃ bb, M / 256 ^ c = bb ∧ bb < 2 ^ j := by
            refine ⟨_, rfl, ?_⟩
            rw [Nat.div_lt_iff_lt_mul (Nat.pow_pos (by decide)), pow256, ← Nat.pow_add, show j + 8 * c = i by omega]
            exact HML.out
          obtain ⟨bb, hbb, hbt⟩ := hbyte
          have hkk : k = 2 ^ j := HK.out
          rw [← hkk] at hbt
          have hk128 : k ≤ 128 := by rw [hkk]; calc 2 ^ j ≤ 2 ^ 7 := Nat.pow_le_pow_right (by decide) (by omega)
            _ = 128 := by decide
          have hput := byt_put M i c q HML.out (by omega) (by rw [show i - 8 * c = j by omega, hbb, ← hkk]; have : k * q ≤ k * 1 := Nat.mul_le_mul_left _ (by omega); omega)
          rw [show i - 8 * c = j by omega, hbb, ← hkk] at hput
          have HPUT := Aside0.mk hput
          clear hput hkk
          have hcb := (Kd.R_celln (0 : Int) HO.out ((c : Nat) : Int) (by omega) (by omega)).1
          have hfb := (Kd.R_celln (0 : Int) HO.out ((c : Nat) : Int) (by omega) (by omega)).2
          have hlast : rdOf 0 (byt M (c + 1)) ((c : Nat) : Int) = (bb : Int) := by
            unfold rdOf
            rw [List.getD_eq_getElem?_getD, Int.toNat_natCast, byt_get _ _ _ (by omega), hbb, Option.getD_some, Nat.mod_eq_of_lt (by omega)]
          rw [hlast] at hcb
          simp only [Int.toNat_natCast] at hcb hfb
          have HR2 := HI.out.1.row
          rw [HU.out] at HR2
          have hcq := (Kd.R_celln (0 : Int) HR2 ((i : Nat) : Int) (by omega) (by omega)).1
          have hlq : rdOf 0 (bitl N len) ((i : Nat) : Int) = (q : Int) := by
            unfold rdOf
            rw [List.getD_eq_getElem?_getD, Int.toNat_natCast, HQ.out, Option.getD_some]
          rw [hlq] at hcq
          simp only [Int.toNat_natCast] at hcq
          clear hbb HR2 hlast hlq
          have hqk : k * q ≤ k := by have : k * q ≤ k * 1 := Nat.mul_le_mul_left _ (by omega); omega
          obtain ⟨z, hz⟩ : ∃ z, k * q = z := ⟨_, rfl⟩
          have hz2 : (q : Int) * (k : Int) = (z : Int) := by rw [← hz, Nat.mul_comm]; simp
          rw [hz] at HPUT hqk
          clear hz
          have hv1 : IntKind.u8.wrap ((q : Int) * (k : Int)) = (z : Int) := by rw [hz2]; simp [IntKind.wrap, IntKind.bits, IntKind.signed]; omega
          have hv2 : IntKind.u8.wrap ((bb : Int) + (z : Int)) = (bb : Int) + (z : Int) := by simp [IntKind.wrap, IntKind.bits, IntKind.signed]; omega
          have hv3 : ((q : Int) * (k : Int)) % 256 = (z : Int) := by rw [hz2]; omega
          have hv4 : ((bb : Int) + (z : Int)) % 256 = (bb : Int) + (z : Int) := by omega
          have hv5 : IntKind.i64.wrap ((c : Int) + 1 - 1) = (c : Int) := by rw [show (c : Int) + 1 - 1 = (c : Int) by omega]; exact IntWalk.i64_in _ (by omega)
          have p0 : (0 : Int) ≤ (c : Int) := by omega
          have p1 : (c : Int) < (c : Int) + 1 := by omega
          have p2 : (0 : Int) ≤ (i : Int) := by omega
          have p3 : (i : Int) < (len : Int) := by omega
          clear hz2
          go_upto_region 12 with (fail)
          have hv6 : wrap64 (c : Int) = (c : Int) := wrap_id (by omega) (by omega)
          refine start_ (n := 22) (S := fun w' => w'.cell? ⟨b, c, none⟩ = some (.int .u8 (bb : Int)) ∧ w'.cell? ⟨g, 0, none⟩ = some (.slice (some ⟨gb, 0, none⟩) len c') ∧ w'.cell? ⟨gb, i, none⟩ = some (.int .u8 (q : Int))) (ds := [21]) #[false, false, false, false, false, false, false, false, false, false, false, false, false, false, false, false, false, false, false, false, false, false] (by kernel_rfl) rfl rfl ⟨hcb, hcg, hcq⟩ (fun hHeld => ?_)
          refine pure_ (i := 0) (N := some 30) (v := ?_) (a' := ?_) #[true, false, false, false, false, false, false, false, false, false, false, false, false, false, false, false, false, false, false, false, false, false] rfl rfl (by kernel_rfl) (fun _ _ _ h => h) (Or.inl ⟨by rfl, ?_⟩) ?_ ?_
          rotate_left
          · intro w'
            go_simp
            with_reducible rfl
          rotate_left
          · simp only [Act.put, List.setIfInBounds_toArray, List.set_cons_zero, List.set_cons_succ, i64_w, i32_w]
            rfl
          refine pure_ (i := 1) (N := some 31) (v := ?_) (a' := ?_) #[true, true, false, false, false, false, false, false, false, false, false, false, false, false, false, false, false, false, false, false, false, false] rfl rfl (by kernel_rfl) (fun _ _ _ h => h) (Or.inl ⟨by rfl, ?_⟩) ?_ ?_
          rotate_left
          · intro w'
            go_simp
            with_reducible rfl
          rotate_left
          · simp only [Act.put, List.setIfInBounds_toArray, List.set_cons_zero, List.set_cons_succ, i64_w, i32_w]
            rfl
          refine pure_ (i := 2) (N := some 32) (v := ?_) (a' := ?_) #[true, true, true, false, false, false, false, false, false, false, false, false, false, false, false, false, false, false, false, false, false, false] rfl rfl (by kernel_rfl) (fun _ _ _ h => h) (Or.inl ⟨by rfl, ?_⟩) ?_ ?_
          rotate_left
          · intro w'
            go_simp
            with_reducible rfl
          rotate_left
          · simp only [Act.put, List.setIfInBounds_toArray, List.set_cons_zero, List.set_cons_succ, i64_w, i32_w]
            rfl
          refine pure_ (i := 3) (N := some 33) (v := ?_) (a' := ?_) #[true, true, true, true, false, false, false, false, false, false, false, false, false, false, false, false, false, false, false, false, false, false] rfl rfl (by kernel_rfl) (fun _ _ _ h => h) (Or.inl ⟨by rfl, ?_⟩) ?_ ?_
          rotate_left
          · intro w'
            go_simp
            with_reducible rfl
          rotate_left
          · simp only [Act.put, List.setIfInBounds_toArray, List.set_cons_zero, List.set_cons_succ, i64_w, i32_w]
            rfl
          refine pure_ (i := 4) (N := some 34) (v := ?_) (a' := ?_) #[true, true, true, true, true, false, false, false, false, false, false, false, false, false, false, false, false, false, false, false, false, false] rfl rfl (by kernel_rfl) (fun _ _ _ h => h) (Or.inl ⟨by rfl, ?_⟩) ?_ ?_
          rotate_left
          · intro w'
            go_simp
            with_reducible rfl
          rotate_left
          · simp only [Act.put, List.setIfInBounds_toArray, List.set_cons_zero, List.set_cons_succ, i64_w, i32_w]
            rfl
          refine pure_ (i := 5) (N := some 35) (v := ?_) (a' := ?_) #[true, true, true, true, true, true, false, false, false, false, false, false, false, false, false, false, false, false, false, false, false, false] rfl rfl (by kernel_rfl) (fun _ _ _ h => h) (Or.inl ⟨by rfl, ?_⟩) ?_ ?_
          rotate_left
          · intro w'
            go_simp
            with_reducible rfl
          rotate_left
          · simp only [Act.put, List.setIfInBounds_toArray, List.set_cons_zero, List.set_cons_succ, i64_w, i32_w]
            rfl
          refine pure_ (i := 6) (N := some 36) (v := ?_) (a' := ?_) #[true, true, true, true, true, true, true, false, false, false, false, false, false, false, false, false, false, false, false, false, false, false] rfl rfl (by kernel_rfl) (fun _ _ _ h => h) (Or.inl ⟨by rfl, ?_⟩) ?_ ?_
          rotate_left
          · intro w'
            go_simp
            with_reducible rfl
          rotate_left
          · simp only [Act.put, List.setIfInBounds_toArray, List.set_cons_zero, List.set_cons_succ, i64_w, i32_w]
            rfl
          refine pure_ (i := 7) (N := some 37) (v := ?_) (a' := ?_) #[true, true, true, true, true, true, true, true, false, false, false, false, false, false, false, false, false, false, false, false, false, false] rfl rfl (by kernel_rfl) (fun _ _ _ h => h) (Or.inl ⟨by rfl, ?_⟩) ?_ ?_
          rotate_left
          · intro w'
            go_simp
            with_reducible rfl
          rotate_left
          · simp only [Act.put, List.setIfInBounds_toArray, List.set_cons_zero, List.set_cons_succ, i64_w, i32_w]
            rfl
          refine pure_ (i := 8) (N := some 38) (v := ?_) (a' := ?_) #[true, true, true, true, true, true, true, true, true, false, false, false, false, false, false, false, false, false, false, false, false, false] rfl rfl (by kernel_rfl) (fun _ _ _ h => h) (Or.inl ⟨by rfl, ?_⟩) ?_ ?_
          rotate_left
          · intro w'
            go_simp
            with_reducible rfl
          rotate_left
          · simp only [Act.put, List.setIfInBounds_toArray, List.set_cons_zero, List.set_cons_succ, i64_w, i32_w]
            rfl
          refine pure_ (i := 10) (N := some 40) (v := ?_) (a' := ?_) #[true, true, true, true, true, true, true, true, true, false, true, false, false, false, false, false, false, false, false, false, false, false] rfl rfl (by kernel_rfl) (fun _ _ _ h => h) (Or.inl ⟨by rfl, ?_⟩) ?_ ?_
          rotate_left
          · intro w'
            go_simp
            with_reducible rfl
          rotate_left
          · simp only [Act.put, List.setIfInBounds_toArray, List.set_cons_zero, List.set_cons_succ, i64_w, i32_w]
            rfl
          refine pure_ (i := 11) (N := some 41) (v := ?_) (a' := ?_) #[true, true, true, true, true, true, true, true, true, false, true, true, false, false, false, false, false, false, false, false, false, false] rfl rfl (by kernel_rfl) (fun _ _ _ h => h) (Or.inl ⟨by rfl, ?_⟩) ?_ ?_
          rotate_left
          · intro w'
            go_simp
            with_reducible rfl
          rotate_left
          · simp only [Act.put, List.setIfInBounds_toArray, List.set_cons_zero, List.set_cons_succ, i64_w, i32_w]
            rfl
          refine pure_ (i := 12) (N := some 42) (v := ?_) (a' := ?_) #[true, true, true, true, true, true, true, true, true, false, true, true, true, false, false, false, false, false, false, false, false, false] rfl rfl (by kernel_rfl) (fun _ _ _ h => h) (Or.inl ⟨by rfl, ?_⟩) ?_ ?_
          rotate_left
          · intro w'
            go_simp
            with_reducible rfl
          rotate_left
          · simp only [Act.put, List.setIfInBounds_toArray, List.set_cons_zero, List.set_cons_succ, i64_w, i32_w]
            rfl
          refine pure_ (i := 14) (N := some 44) (v := ?_) (a' := ?_) #[true, true, true, true, true, true, true, true, true, false, true, true, true, false, true, false, false, false, false, false, false, false] rfl rfl (by kernel_rfl) (fun _ _ _ h => h) (Or.inl ⟨by rfl, ?_⟩) ?_ ?_
          rotate_left
          · intro w'
            go_simp
            with_reducible rfl
          rotate_left
          · simp only [Act.put, List.setIfInBounds_toArray, List.set_cons_zero, List.set_cons_succ, i64_w, i32_w]
            rfl
          refine pure_ (i := 17) (N := some 47) (v := ?_) (a' := ?_) #[true, true, true, true, true, true, true, true, true, false, true, true, true, false, true, false, false, true, false, false, false, false] rfl rfl (by kernel_rfl) (fun _ _ _ h => h) (Or.inl ⟨by rfl, ?_⟩) ?_ ?_
          rotate_left
          · intro w'
            go_simp
            with_reducible rfl
          rotate_left
          · simp only [Act.put, List.setIfInBounds_toArray, List.set_cons_zero, List.set_cons_succ, i64_w, i32_w]
            rfl
          refine take_ (i := 9) (N := some 39) (v := ?_) (a' := ?_) #[true, true, true, true, true, true, true, true, true, true, true, true, true, false, true, false, false, true, false, false, false, false] rfl rfl (by kernel_rfl) (fun _ _ _ h => h) (Or.inl ⟨by rfl, ?_⟩) hHeld ?_ ?_
          rotate_left
          · rintro w' ⟨s0, s1, s2⟩
            go_simp
            with_reducible rfl
          rotate_left
          · simp only [Act.put, List.setIfInBounds_toArray, List.set_cons_zero, List.set_cons_succ, i64_w, i32_w]
            rfl
          refine take_ (i := 13) (N := some 43) (v := ?_) (a' := ?_) #[true, true, true, true, true, true, true, true, true, true, true, true, true, true, true, false, false, true, false, false, false, false] rfl rfl (by kernel_rfl) (fun _ _ _ h => h) (Or.inl ⟨by rfl, ?_⟩) hHeld ?_ ?_
          rotate_left
          · rintro w' ⟨s0, s1, s2⟩
            go_simp
            with_reducible rfl
          rotate_left
          · simp only [Act.put, List.setIfInBounds_toArray, List.set_cons_zero, List.set_cons_succ, i64_w, i32_w]
            rfl
          refine pure_ (i := 15) (N := some 45) (v := ?_) (a' := ?_) #[true, true, true, true, true, true, true, true, true, true, true, true, true, true, true, true, false, true, false, false, false, false] rfl rfl (by kernel_rfl) (fun _ _ _ h => h) (Or.inl ⟨by rfl, ?_⟩) ?_ ?_
          rotate_left
          · intro w'
            go_simp
            with_reducible rfl
          rotate_left
          · simp only [Act.put, List.setIfInBounds_toArray, List.set_cons_zero, List.set_cons_succ, i64_w, i32_w]
            rfl
          refine take_ (i := 16) (N := some 46) (v := ?_) (a' := ?_) #[true, true, true, true, true, true, true, true, true, true, true, true, true, true, true, true, true, true, false, false, false, false] rfl rfl (by kernel_rfl) (fun _ _ _ h => h) (Or.inl ⟨by rfl, ?_⟩) hHeld ?_ ?_
          rotate_left
          · rintro w' ⟨s0, s1, s2⟩
            go_simp
            with_reducible rfl
          rotate_left
          · simp only [Act.put, List.setIfInBounds_toArray, List.set_cons_zero, List.set_cons_succ, i64_w, i32_w]
            rfl
          refine pure_ (i := 18) (N := some 48) (v := ?_) (a' := ?_) #[true, true, true, true, true, true, true, true, true, true, true, true, true, true, true, true, true, true, true, false, false, false] rfl rfl (by kernel_rfl) (fun _ _ _ h => h) (Or.inl ⟨by rfl, ?_⟩) ?_ ?_
          rotate_left
          · intro w'
            go_simp
            with_reducible rfl
          rotate_left
          · simp only [Act.put, List.setIfInBounds_toArray, List.set_cons_zero, List.set_cons_succ, i64_w, i32_w]
            rfl
          refine pure_ (i := 19) (N := some 49) (v := ?_) (a' := ?_) #[true, true, true, true, true, true, true, true, true, true, true, true, true, true, true, true, true, true, true, true, false, false] rfl rfl (by kernel_rfl) (fun _ _ _ h => h) (Or.inl ⟨by rfl, ?_⟩) ?_ ?_
          rotate_left
          · intro w'
            go_simp
            with_reducible rfl
          rotate_left
          · simp only [Act.put, List.setIfInBounds_toArray, List.set_cons_zero, List.set_cons_succ, i64_w, i32_w]
            rfl
          refine pure_ (i := 20) (N := some 50) (v := ?_) (a' := ?_) #[true, true, true, true, true, true, true, true, true, true, true, true, true, true, true, true, true, true, true, true, true, false] rfl rfl (by kernel_rfl) (fun _ _ _ h => h) (Or.inl ⟨by rfl, ?_⟩) ?_ ?_
          rotate_left
          · intro w'
            go_simp
            with_reducible rfl
          rotate_left
          · simp only [Act.put, List.setIfInBounds_toArray, List.set_cons_zero, List.set_cons_succ, i64_w, i32_w]
            rfl
          refine last_ (i := 21) (N := none) #[true, true, true, true, true, true, true, true, true, true, true, true, true, true, true, true, true, true, true, true, true, true] rfl rfl (by kernel_rfl) (by decide) (fun K hK => ?_)
          refine skip_ (w1 := ?_) (by rfl) rfl ?_ ?_
          rotate_left
          · go_simp
            rfl
          refine hK.out _ _ ?_
          clear hK K
          refine done_ (by kernel_rfl) ?_
          clear hv6
          have HP := Aside0.mk (Kd.R_putn HO.out ((c : Nat) : Int) ((bb : Int) + (z : Int)))
          go_wp2
          refine ⟨⟨i + 1, by go_num, by omega, ⟨?_⟩, ⟨pw_below_drewN (below_set HB.out (Kd.R_base HO.out b rfl)) 1⟩⟩, by simp [intOf]; omega⟩
          have h := HP.out
          rw [Int.toNat_natCast, show (bb : Int) + (z : Int) = ((bb + z : Nat) : Int) by omega, ← HPUT.out, ← HM2.out] at h
          rw [show (i + 1 + 7) / 8 = c + 1 by omega]
          exact Kd.R_drewN h 1
    · have hd : decide (i < len) = false := decide_eq_false hlt
      obtain rfl : i = len := by omega
      rw [Nat.mod_eq_of_lt HI0.out.2] at HO
      obtain ⟨A, c, hv, hlc, hC⟩ := Kd.R_reads HO.out
      have hstr := Kd.C_string (P := Try.prog) (c := c) Try.underlying22 Try.underlying5 (dst := 9) Try.underlying9 hC
      have e : strOfNums (byt N ((i + 7) / 8)) = ⟨(ofN ((i + 7) / 8) N).toArray⟩ := by
        unfold strOfNums byt
        rw [List.map_map]
        congr 2
        rw [show (fun n : Int => UInt8.ofNat n.toNat) ∘ (fun b : UInt8 => (b.toNat : Int)) = id from by funext b; simp, List.map_id]
      rw [e] at hstr
      obtain ⟨xs, hxs⟩ : ∃ xs, byt N ((i + 7) / 8) = xs := ⟨_, rfl⟩
      rw [hxs] at hstr hv
      obtain ⟨A', c', hu⟩ := HI.out.bits
      have hcg : wr.cell? ⟨g, 0, none⟩ = some (.slice A' i c') := by rw [← hu]; exact (blk_cell HI.out.1.blk 0).trans rfl
      clear hu hC hlc hxs e
      subst hv
      go_wp2
      go_ret
      exact ⟨rfl, HB.out⟩
end Go.Proofs.Ytlfcepdaicngjaa.Rw

/- Two writers of bits, of one kind each, that share no row. -/
namespace Go.Proofs.Ytlfcepdaicngjaa.Walk
open Go Go.RowKit Go.Proofs.Ytlfcepdaicngjaa.P Go.Proofs.Ytlfcepdaicngjaa.B Go.Proofs.Ytlfcepdaicngjaa.Bn Go.Proofs.Ytlfcepdaicngjaa.Hd Go.Proofs.Ytlfcepdaicngjaa.Bw Go.Proofs.Ytlfcepdaicngjaa.Rw Go.Proofs.YtlfcepdaicngjaaW.PrintWords Go.Proofs.YtlfcepdaicngjaaW.PrintLast Go.Proofs.YtlfcepdaicngjaaW.PrintMore
set_option linter.unusedVariables false
set_option linter.unusedSimpArgs false
theorem bw_drew {base g N len : Nat} {W : World} {v : Value} (h : IsBW base W g v N len) : IsBW base W.drew g v N len := ⟨h.1.drew, h.2⟩
theorem rw_drew {base g N len : Nat} {W : World} {v : Value} (h : IsRW base W g v N len) : IsRW base W.drew g v N len := ⟨h.1.drew, h.2⟩
/-- Two writers, of one kind each, that share no row. -/
structure Two (base : Nat) (W : World) (g q : Nat) (u v : Value) (N len : Nat) : Prop where
  a : IsBW base W g u N len
  b : IsRW base W q v N len
  apart : ∀ k, v.ownBlock = some k → u.ownBlock ≠ some k
theorem Two.fst {base g q N len N2 len2 : Nat} {W W1 : World} {u v u1 : Value} (hb : IsRW base W q v N2 len2) (ha : IsBW base W g u N len) (hap : ∀ k, v.ownBlock = some k → u.ownBlock ≠ some k) (hw : Wrote W W1 g u u1) :
    IsRW base W1 q v N2 len2 ∧ ∀ k, v.ownBlock = some k → u1.ownBlock ≠ some k := by
  refine ⟨⟨hb.1.stay hw (blk_ne hb.1.blk ha.1.blk (by decide)) (fun k hk => ?_) (fun k hk => ?_) (fun k hk => hap k hk), hb.2⟩, apart_step hw (fun k hk => (hb.1.own k hk).2.1) hap⟩
  · obtain ⟨c, hc⟩ := (ha.1.own k hk).2.2
    exact blk_ne hb.1.blk hc (by decide)
  · obtain ⟨c, hc⟩ := (hb.1.own k hk).2.2
    exact blk_ne hc ha.1.blk (by decide)
theorem Two.snd {base g q N len N2 len2 : Nat} {W W1 : World} {u v v1 : Value} (ha : IsBW base W g u N len) (hb : IsRW base W q v N2 len2) (hap : ∀ k, v.ownBlock = some k → u.ownBlock ≠ some k) (hw : Wrote W W1 q v v1) :
    IsBW base W1 g u N len ∧ ∀ k, v1.ownBlock = some k → u.ownBlock ≠ some k := by
  have hap' : ∀ k, u.ownBlock = some k → v.ownBlock ≠ some k := fun k h1 h2 => hap k h2 h1
  refine ⟨⟨ha.1.stay hw (blk_ne ha.1.blk hb.1.blk (by decide)) (fun k hk => ?_) (fun k hk => ?_) (fun k hk => hap' k hk), ha.2⟩, fun k h1 h2 => apart_step hw (fun k hk => (ha.1.own k hk).2.1) hap' k h2 h1⟩
  · obtain ⟨c, hc⟩ := (hb.1.own k hk).2.2
    exact blk_ne ha.1.blk hc (by decide)
  · obtain ⟨c, hc⟩ := (ha.1.own k hk).2.2
    exact blk_ne hc hb.1.blk (by decide)

end Go.Proofs.Ytlfcepdaicngjaa.Walk
