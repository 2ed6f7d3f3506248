import Derived.Test.YtnjfddmajiihjaaWMore
import Derived.ChangeArms
import Derived.DataReads
import Derived.SizedLaws
import Derived.WideShapes
import Derived.Test.YtnjfddmajiihjaaMg5
import Derived.Test.YtnjfddmajiihjaaPx8
import Derived.Test.YtnjfddmajiihjaaParsesW0
import Derived.Test.YtnjfddmajiihjaaParsesW1
import Derived.Test.YtnjfddmajiihjaaParsesW2
import Derived.Test.YtnjfddmajiihjaaParsesW3
namespace Go.Proofs.Ytnjfddmajiihjaa.Opens
set_option linter.unusedVariables false
set_option linter.unusedSimpArgs false
open Go Go.RowKit Go.Proofs.YtnjfddmajiihjaaW.PrintWords Go.Proofs.YtnjfddmajiihjaaW.PrintLast Go.Proofs.YtnjfddmajiihjaaW.PrintMore
section
variable {P : Program}
structure Opens {α : Type} (P : Program) (t : TypeId) (d : Kd α) (ok : α → Prop) : Prop where
  size : P.cellsOf t = d.sz
  get : ∀ {H : Type} {enc : TypeId × Value → H} {w : World} {base : Nat} {spare : Nat → Bool} {held : Bool} {fuel : Nat} {cs : List Value} {x : DataW H × List MemPlace},
    DataW.trod enc P w base spare held fuel t cs = some x → ∃ a, d.K w a cs ∧ ok a
theorem Opens.int {t : TypeId} {k : IntKind} (hu : P.underlying t = some (.int k)) (hs : P.cellsOf t = 1) : Opens P t (Kd.int k) (fun n => (Lit.int k n).wf = true) :=
  ⟨hs, fun h => by obtain ⟨n, rfl, _, hw⟩ := DataW.trod_int hu h; exact ⟨n, rfl, hw⟩⟩
theorem Opens.bool {t : TypeId} (hu : P.underlying t = some .bool) (hs : P.cellsOf t = 1) : Opens P t Kd.bool (fun _ => True) :=
  ⟨hs, fun h => by obtain ⟨b, rfl, _⟩ := DataW.trod_bool hu h; exact ⟨b, rfl, trivial⟩⟩
theorem Opens.string {t : TypeId} (hu : P.underlying t = some .string) (hs : P.cellsOf t = 1) : Opens P t Kd.string (fun s => s.size ≤ maxLen) :=
  ⟨hs, fun h => by obtain ⟨s, rfl, _, hl⟩ := DataW.trod_string hu h; exact ⟨s, rfl, hl⟩⟩
theorem slice_row {α : Type} {t e : TypeId} {d : Kd α} {ok : α → Prop} (hu : P.underlying t = some (.slice e)) (ho : Opens P e d ok)
    {H : Type} {enc : TypeId × Value → H} {w : World} {base : Nat} {spare : Nat → Bool} {held : Bool} {fuel : Nat} {cs : List Value} {x : DataW H × List MemPlace}
    (h : DataW.trod enc P w base spare held fuel t cs = some x) :
    ∃ A c, ∃ xs : List α, cs = [.slice A xs.length c] ∧ xs.length ≤ c ∧ d.C w A xs.length xs ∧ (∀ a ∈ xs, ok a) ∧ (x.1 = .nil ∧ xs = [] ∨ ∃ elems rest, x.1 = .slice elems rest ∧ elems.length = xs.length) := by
  rcases DataW.trod_slice hu h with ⟨rfl, rfl⟩ | ⟨a, len, cap, elems, rest, n, _, rfl, rfl, _, hl, hm, hlen, hel, _, _⟩
  · exact ⟨none, 0, [], rfl, Nat.le_refl _, ⟨rfl, by simp, fun h0 => absurd h0 (by simp)⟩, (fun a ha => by cases ha), .inl ⟨rfl, rfl⟩⟩
  · have each : ∀ i : Fin len, ∃ p, ok p ∧ ∃ c, c.length = d.sz ∧ d.K w p c ∧ ∀ j u, c[j]? = some u → w.cell? (a.add (i * d.sz + j)) = some u := by
      intro i
      have h1 := hel i i.2
      have h2 : (i : Nat) < elems.length := by have := i.2; omega
      rw [List.getElem?_eq_getElem h2, Option.bind_eq_some_iff] at h1
      obtain ⟨cs', hcs, ht⟩ := h1
      obtain ⟨_, hcl, hcc⟩ := World.cells?_some hcs
      obtain ⟨p, hp, hok⟩ := ho.get ht
      rw [ho.size] at hcl hcc
      refine ⟨p, hok, cs', hcl, hp, fun j u hj => ?_⟩
      have hj2 : j < d.sz := by
        rw [← hcl]
        exact (List.getElem?_eq_some_iff.1 hj).1
      have h3 := hcc j hj2
      rw [hj] at h3
      rw [← h3, add_add]
    have hg : ∀ (j : Nat) (p : α), (List.ofFn fun i => Classical.choose (each i))[j]? = some p → ∃ hj : j < len, p = Classical.choose (each ⟨j, hj⟩) := by
      intro j p hp
      obtain ⟨hj, he⟩ := List.getElem?_eq_some_iff.1 hp
      rw [List.length_ofFn] at hj
      refine ⟨hj, ?_⟩
      rw [← he, List.getElem_ofFn]
    refine ⟨some a, cap, List.ofFn fun i => Classical.choose (each i), by rw [List.length_ofFn], by rw [List.length_ofFn]; exact hl, ⟨rfl, ?_, fun _ => ⟨a, rfl, fun j p hp => ?_⟩⟩, ?_, .inr ⟨_, _, rfl, by rw [List.length_ofFn, List.length_map, hlen]⟩⟩
    · rw [List.length_ofFn]
      unfold maxLen at hm
      omega
    · obtain ⟨hj, rfl⟩ := hg j p hp
      obtain ⟨_, c, hc, hk, hcell⟩ := Classical.choose_spec (each ⟨j, hj⟩)
      exact ⟨c, hc, hk, hcell⟩
    · intro p hp
      obtain ⟨j, hj⟩ := List.getElem?_of_mem hp
      obtain ⟨hj', rfl⟩ := hg j p hj
      exact (Classical.choose_spec (each ⟨j, hj'⟩)).1
theorem Opens.slice {α : Type} {t e : TypeId} {d : Kd α} {ok : α → Prop} (hu : P.underlying t = some (.slice e)) (hs : P.cellsOf t = 1) (ho : Opens P e d ok) : Opens P t (Kd.slice e d) (fun xs => ∀ a ∈ xs, ok a) :=
  ⟨hs, fun h => by obtain ⟨A, c, xs, rfl, hl, hc, hok, _⟩ := slice_row hu ho h; exact ⟨xs, ⟨A, c, rfl, hl, hc⟩, hok⟩⟩
end
end Go.Proofs.Ytnjfddmajiihjaa.Opens
namespace Go.Proofs.Ytnjfddmajiihjaa.Hp
set_option linter.unusedVariables false
set_option linter.unusedSimpArgs false
open Go Go.RowKit Go.Proofs.Ytnjfddmajiihjaa.P Go.Proofs.Ytnjfddmajiihjaa.B Go.Proofs.Ytnjfddmajiihjaa.Num Go.Proofs.Ytnjfddmajiihjaa.Cur Go.Proofs.YtnjfddmajiihjaaW.PrintWords Go.Proofs.YtnjfddmajiihjaaW.PrintLast Go.Proofs.YtnjfddmajiihjaaW.PrintMore
theorem num_le (R : List UInt8) (w m : Nat) (h : 256 ^ w ≤ m + 1) : 0 ≤ ((leN (R.take w) : Nat) : Int) ∧ ((leN (R.take w) : Nat) : Int) ≤ (m : Int) := by
  have h1 := leN_lt (R.take w)
  have h2 : (R.take w).length ≤ w := by rw [List.length_take]; omega
  have h3 : 256 ^ (R.take w).length ≤ 256 ^ w := Nat.pow_le_pow_right (by omega) h2
  omega
theorem num2 (R : List UInt8) : 0 ≤ ((leN (R.take 2) : Nat) : Int) ∧ ((leN (R.take 2) : Nat) : Int) ≤ 65535 := num_le R 2 65535 (by decide)
theorem num4 (R : List UInt8) : 0 ≤ ((leN (R.take 4) : Nat) : Int) ∧ ((leN (R.take 4) : Nat) : Int) ≤ 4294967295 := num_le R 4 4294967295 (by decide)
theorem num8 (R : List UInt8) : 0 ≤ ((leN (R.take 8) : Nat) : Int) ∧ ((leN (R.take 8) : Nat) : Int) ≤ 18446744073709551615 := num_le R 8 18446744073709551615 (by decide)
theorem local_nums (R : List UInt8) : ∃ v1 v2 v3 v4 v5 v6 v7 v8 v9 : Int, numsL [2, 2, 2, 4, 4, 4, 4, 2, 2] R = [v1, v2, v3, v4, v5, v6, v7, v8, v9] ∧ (0 ≤ v1 ∧ v1 ≤ 65535) ∧ (0 ≤ v2 ∧ v2 ≤ 65535) ∧ (0 ≤ v3 ∧ v3 ≤ 65535) ∧ (0 ≤ v4 ∧ v4 ≤ 4294967295) ∧ (0 ≤ v5 ∧ v5 ≤ 4294967295) ∧ (0 ≤ v6 ∧ v6 ≤ 4294967295) ∧ (0 ≤ v7 ∧ v7 ≤ 4294967295) ∧ (0 ≤ v8 ∧ v8 ≤ 65535) ∧ (0 ≤ v9 ∧ v9 ≤ 65535) := ⟨_, _, _, _, _, _, _, _, _, rfl, num2 _, num2 _, num2 _, num4 _, num4 _, num4 _, num4 _, num2 _, num2 _⟩
theorem local_first : ((leN [80, 75, 3, 4] : Nat) : Int) = 67324752 := by decide
theorem local_ref (s : ByteArray) (hs : s.size ≤ 3000) : portmanteauref17_Parse.f 300 s [4, 2, 2, 2, 4, 4, 4, 4, 2, 2] 67324752 [8, 9] = some (specR s [80, 75, 3, 4] [2, 2, 2, 4, 4, 4, 4, 2, 2] [8, 9]) := by
  have h := ref_parse s hs [80, 75, 3, 4] rfl [2, 2, 2, 4, 4, 4, 4, 2, 2] [8, 9] (by intro w hw; simp only [List.mem_cons, List.mem_nil_iff, or_false] at hw; unfold Wd; omega) (by decide) (by decide) (by decide) (by decide) ?_ 300 (Nat.le_refl _)
  · rw [local_first] at h
    exact h
  intro h4 hm hf t ht
  obtain ⟨v1, v2, v3, v4, v5, v6, v7, v8, v9, hn, b1, b2, b3, b4, b5, b6, b7, b8, b9⟩ := local_nums (s.data.toList.drop 4)
  rw [hn]
  simp only [List.mem_cons, List.mem_nil_iff, or_false] at ht
  rcases ht with rfl | rfl
  · show v8 ≤ 1000000000
    omega
  · show v9 ≤ 1000000000
    omega
theorem local_split (s : ByteArray) (hs : s.size ≤ 3000) : (∃ (e : Int) (lr : List Int) (tr : List ByteArray), e ≠ 0 ∧ header_ParseLocal.f s = some (0, 0, 0, 0, 0, 0, 0, (⟨#[]⟩ : ByteArray), (⟨#[]⟩ : ByteArray), 0, e) ∧ portmanteauref17_Parse.f 300 s [4, 2, 2, 2, 4, 4, 4, 4, 2, 2] 67324752 [8, 9] = some (lr, tr, 0, e)) ∨ (4 ≤ s.size ∧ s.data.toList.take 4 = [80, 75, 3, 4] ∧ ∃ (v1 v2 v3 v4 v5 v6 v7 v8 v9 : Int) (x1 x2 : ByteArray) (lr : List Int) (tr : List ByteArray) (n : Int), header_ParseLocal.f s = some (v1, v2, v3, v4, v5, v6, v7, x1, x2, n, 0) ∧ portmanteauref17_Parse.f 300 s [4, 2, 2, 2, 4, 4, 4, 4, 2, 2] 67324752 [8, 9] = some (lr, tr, n, 0) ∧ portmanteaulaw17_locals.f v1 v2 v3 v4 v5 v6 v7 x1 x2 = some lr ∧ lr.length ≤ 100 ∧ tr = [x1, x2]) := by
  have hr := local_ref s hs
  unfold specR at hr
  by_cases h4 : s.size < 4
  · rw [if_pos h4] at hr
    exact .inl ⟨3, [], [], by decide, local_short s hs h4, hr⟩
  rw [if_neg h4] at hr
  by_cases hm : s.data.toList.take 4 = [80, 75, 3, 4]
  case neg =>
    rw [if_neg hm] at hr
    exact .inl ⟨4, [], [], by decide, local_no4 s hs (by omega) hm, hr⟩
  rw [if_pos hm] at hr
  by_cases hf : s.size < 4 + 26
  · rw [if_pos (show s.size < 4 + ([2, 2, 2, 4, 4, 4, 4, 2, 2] : List Nat).sum from hf)] at hr
    exact .inl ⟨3, [], [], by decide, local_fix s hs (by omega) hm hf, hr⟩
  rw [if_neg (show ¬ s.size < 4 + ([2, 2, 2, 4, 4, 4, 4, 2, 2] : List Nat).sum from hf)] at hr
  obtain ⟨v1, v2, v3, v4, v5, v6, v7, v8, v9, hn, b1, b2, b3, b4, b5, b6, b7, b8, b9⟩ := local_nums (s.data.toList.drop 4)
  rw [hn, local_first] at hr
  change portmanteauref17_Parse.f 300 s [4, 2, 2, 2, 4, 4, 4, 4, 2, 2] 67324752 [8, 9] = some (if s.size < 4 + ([2, 2, 2, 4, 4, 4, 4, 2, 2] : List Nat).sum + ([v8.toNat, v9.toNat] : List Nat).sum then ([], [], 0, 3) else ([67324752, v1, v2, v3, v4, v5, v6, v7, v8, v9], textsL [v8.toNat, v9.toNat] (s.data.toList.drop (4 + ([2, 2, 2, 4, 4, 4, 4, 2, 2] : List Nat).sum)), ((4 + ([2, 2, 2, 4, 4, 4, 4, 2, 2] : List Nat).sum + ([v8.toNat, v9.toNat] : List Nat).sum : Nat) : Int), 0)) at hr
  have hsum : ([v8.toNat, v9.toNat] : List Nat).sum = v8.toNat + v9.toNat := by simp only [List.sum_cons, List.sum_nil]; omega
  have hws : ([2, 2, 2, 4, 4, 4, 4, 2, 2] : List Nat).sum = 26 := by decide
  rw [hsum, hws] at hr
  by_cases hk : s.size < 30 + (v8.toNat + v9.toNat)
  · rw [if_pos (by omega)] at hr
    exact .inl ⟨3, [], [], by decide, local_txt s hs hm (by omega) v1 v2 v3 v4 v5 v6 v7 v8 v9 hn v8.toNat (by omega) v9.toNat (by omega) hk, hr⟩
  rw [if_neg (by omega)] at hr
  obtain ⟨x1, x2, hx, z1, z2⟩ : ∃ x1 x2 : ByteArray, textsL [v8.toNat, v9.toNat] (s.data.toList.drop 30) = [x1, x2] ∧ x1.size = v8.toNat ∧ x2.size = v9.toNat := by
    refine ⟨_, _, rfl, ?_, ?_⟩
    all_goals (rw [strN_size]; simp only [List.length_take, List.length_drop, toList_length]; omega)
  have hgd := local_good s hs hm (by omega) v1 v2 v3 v4 v5 v6 v7 v8 v9 hn v8.toNat (by omega) v9.toNat (by omega) x1 x2 hx (by omega)
  rw [show 4 + 26 = 30 from rfl, hx] at hr
  refine .inr ⟨by omega, hm, v1, v2, v3, v4, v5, v6, v7, v8, v9, x1, x2, [67324752, v1, v2, v3, v4, v5, v6, v7, v8, v9], [x1, x2], _, hgd, hr, ?_, by simp, rfl⟩
  unfold portmanteaulaw17_locals.f
  congr 1
  refine ?_
  simp only [List.cons.injEq, and_true, true_and]
  refine ⟨?_, ?_, ?_, ?_, ?_, ?_, ?_, ?_, ?_⟩
  · exact u64_id (by omega) (by omega)
  · exact u64_id (by omega) (by omega)
  · exact u64_id (by omega) (by omega)
  · exact u64_id (by omega) (by omega)
  · exact u64_id (by omega) (by omega)
  · exact u64_id (by omega) (by omega)
  · exact u64_id (by omega) (by omega)
  · rw [z1, u64_id (by omega) (by omega)]; omega
  · rw [z2, u64_id (by omega) (by omega)]; omega
theorem central_nums (R : List UInt8) : ∃ v1 v2 v3 v4 v5 v6 v7 v8 v9 v10 v11 v12 v13 v14 v15 : Int, numsL [2, 2, 2, 2, 4, 4, 4, 4, 2, 2, 2, 2, 2, 4, 4] R = [v1, v2, v3, v4, v5, v6, v7, v8, v9, v10, v11, v12, v13, v14, v15] ∧ (0 ≤ v1 ∧ v1 ≤ 65535) ∧ (0 ≤ v2 ∧ v2 ≤ 65535) ∧ (0 ≤ v3 ∧ v3 ≤ 65535) ∧ (0 ≤ v4 ∧ v4 ≤ 65535) ∧ (0 ≤ v5 ∧ v5 ≤ 4294967295) ∧ (0 ≤ v6 ∧ v6 ≤ 4294967295) ∧ (0 ≤ v7 ∧ v7 ≤ 4294967295) ∧ (0 ≤ v8 ∧ v8 ≤ 4294967295) ∧ (0 ≤ v9 ∧ v9 ≤ 65535) ∧ (0 ≤ v10 ∧ v10 ≤ 65535) ∧ (0 ≤ v11 ∧ v11 ≤ 65535) ∧ (0 ≤ v12 ∧ v12 ≤ 65535) ∧ (0 ≤ v13 ∧ v13 ≤ 65535) ∧ (0 ≤ v14 ∧ v14 ≤ 4294967295) ∧ (0 ≤ v15 ∧ v15 ≤ 4294967295) := ⟨_, _, _, _, _, _, _, _, _, _, _, _, _, _, _, rfl, num2 _, num2 _, num2 _, num2 _, num4 _, num4 _, num4 _, num4 _, num2 _, num2 _, num2 _, num2 _, num2 _, num4 _, num4 _⟩
theorem central_first : ((leN [80, 75, 1, 2] : Nat) : Int) = 33639248 := by decide
theorem central_ref (s : ByteArray) (hs : s.size ≤ 3000) : portmanteauref17_Parse.f 300 s [4, 2, 2, 2, 2, 4, 4, 4, 4, 2, 2, 2, 2, 2, 4, 4] 33639248 [9, 10, 11] = some (specR s [80, 75, 1, 2] [2, 2, 2, 2, 4, 4, 4, 4, 2, 2, 2, 2, 2, 4, 4] [9, 10, 11]) := by
  have h := ref_parse s hs [80, 75, 1, 2] rfl [2, 2, 2, 2, 4, 4, 4, 4, 2, 2, 2, 2, 2, 4, 4] [9, 10, 11] (by intro w hw; simp only [List.mem_cons, List.mem_nil_iff, or_false] at hw; unfold Wd; omega) (by decide) (by decide) (by decide) (by decide) ?_ 300 (Nat.le_refl _)
  · rw [central_first] at h
    exact h
  intro h4 hm hf t ht
  obtain ⟨v1, v2, v3, v4, v5, v6, v7, v8, v9, v10, v11, v12, v13, v14, v15, hn, b1, b2, b3, b4, b5, b6, b7, b8, b9, b10, b11, b12, b13, b14, b15⟩ := central_nums (s.data.toList.drop 4)
  rw [hn]
  simp only [List.mem_cons, List.mem_nil_iff, or_false] at ht
  rcases ht with rfl | rfl | rfl
  · show v9 ≤ 1000000000
    omega
  · show v10 ≤ 1000000000
    omega
  · show v11 ≤ 1000000000
    omega
theorem central_split (s : ByteArray) (hs : s.size ≤ 3000) : (∃ (e : Int) (lr : List Int) (tr : List ByteArray), e ≠ 0 ∧ header_ParseCentral.f s = some (0, 0, 0, 0, 0, 0, 0, 0, 0, 0, 0, 0, (⟨#[]⟩ : ByteArray), (⟨#[]⟩ : ByteArray), (⟨#[]⟩ : ByteArray), 0, e) ∧ portmanteauref17_Parse.f 300 s [4, 2, 2, 2, 2, 4, 4, 4, 4, 2, 2, 2, 2, 2, 4, 4] 33639248 [9, 10, 11] = some (lr, tr, 0, e)) ∨ (4 ≤ s.size ∧ s.data.toList.take 4 = [80, 75, 1, 2] ∧ ∃ (v1 v2 v3 v4 v5 v6 v7 v8 v9 v10 v11 v12 v13 v14 v15 : Int) (x1 x2 x3 : ByteArray) (lr : List Int) (tr : List ByteArray) (n : Int), header_ParseCentral.f s = some (v1, v2, v3, v4, v5, v6, v7, v8, v12, v13, v14, v15, x1, x2, x3, n, 0) ∧ portmanteauref17_Parse.f 300 s [4, 2, 2, 2, 2, 4, 4, 4, 4, 2, 2, 2, 2, 2, 4, 4] 33639248 [9, 10, 11] = some (lr, tr, n, 0) ∧ portmanteaulaw17_centrals.f v1 v2 v3 v4 v5 v6 v7 v8 v12 v13 v14 v15 x1 x2 x3 = some lr ∧ lr.length ≤ 100 ∧ tr = [x1, x2, x3]) := by
  have hr := central_ref s hs
  unfold specR at hr
  by_cases h4 : s.size < 4
  · rw [if_pos h4] at hr
    exact .inl ⟨3, [], [], by decide, central_short s hs h4, hr⟩
  rw [if_neg h4] at hr
  by_cases hm : s.data.toList.take 4 = [80, 75, 1, 2]
  case neg =>
    rw [if_neg hm] at hr
    exact .inl ⟨4, [], [], by decide, central_no4 s hs (by omega) hm, hr⟩
  rw [if_pos hm] at hr
  by_cases hf : s.size < 4 + 42
  · rw [if_pos (show s.size < 4 + ([2, 2, 2, 2, 4, 4, 4, 4, 2, 2, 2, 2, 2, 4, 4] : List Nat).sum from hf)] at hr
    exact .inl ⟨3, [], [], by decide, central_fix s hs (by omega) hm hf, hr⟩
  rw [if_neg (show ¬ s.size < 4 + ([2, 2, 2, 2, 4, 4, 4, 4, 2, 2, 2, 2, 2, 4, 4] : List Nat).sum from hf)] at hr
  obtain ⟨v1, v2, v3, v4, v5, v6, v7, v8, v9, v10, v11, v12, v13, v14, v15, hn, b1, b2, b3, b4, b5, b6, b7, b8, b9, b10, b11, b12, b13, b14, b15⟩ := central_nums (s.data.toList.drop 4)
  rw [hn, central_first] at hr
  change portmanteauref17_Parse.f 300 s [4, 2, 2, 2, 2, 4, 4, 4, 4, 2, 2, 2, 2, 2, 4, 4] 33639248 [9, 10, 11] = some (if s.size < 4 + ([2, 2, 2, 2, 4, 4, 4, 4, 2, 2, 2, 2, 2, 4, 4] : List Nat).sum + ([v9.toNat, v10.toNat, v11.toNat] : List Nat).sum then ([], [], 0, 3) else ([33639248, v1, v2, v3, v4, v5, v6, v7, v8, v9, v10, v11, v12, v13, v14, v15], textsL [v9.toNat, v10.toNat, v11.toNat] (s.data.toList.drop (4 + ([2, 2, 2, 2, 4, 4, 4, 4, 2, 2, 2, 2, 2, 4, 4] : List Nat).sum)), ((4 + ([2, 2, 2, 2, 4, 4, 4, 4, 2, 2, 2, 2, 2, 4, 4] : List Nat).sum + ([v9.toNat, v10.toNat, v11.toNat] : List Nat).sum : Nat) : Int), 0)) at hr
  have hsum : ([v9.toNat, v10.toNat, v11.toNat] : List Nat).sum = v9.toNat + v10.toNat + v11.toNat := by simp only [List.sum_cons, List.sum_nil]; omega
  have hws : ([2, 2, 2, 2, 4, 4, 4, 4, 2, 2, 2, 2, 2, 4, 4] : List Nat).sum = 42 := by decide
  rw [hsum, hws] at hr
  by_cases hk : s.size < 46 + (v9.toNat + v10.toNat + v11.toNat)
  · rw [if_pos (by omega)] at hr
    exact .inl ⟨3, [], [], by decide, central_txt s hs hm (by omega) v1 v2 v3 v4 v5 v6 v7 v8 v9 v10 v11 v12 v13 v14 v15 hn v9.toNat (by omega) v10.toNat (by omega) v11.toNat (by omega) hk, hr⟩
  rw [if_neg (by omega)] at hr
  obtain ⟨x1, x2, x3, hx, z1, z2, z3⟩ : ∃ x1 x2 x3 : ByteArray, textsL [v9.toNat, v10.toNat, v11.toNat] (s.data.toList.drop 46) = [x1, x2, x3] ∧ x1.size = v9.toNat ∧ x2.size = v10.toNat ∧ x3.size = v11.toNat := by
    refine ⟨_, _, _, rfl, ?_, ?_, ?_⟩
    all_goals (rw [strN_size]; simp only [List.length_take, List.length_drop, toList_length]; omega)
  have hgd := central_good s hs hm (by omega) v1 v2 v3 v4 v5 v6 v7 v8 v9 v10 v11 v12 v13 v14 v15 hn v9.toNat (by omega) v10.toNat (by omega) v11.toNat (by omega) x1 x2 x3 hx (by omega)
  rw [show 4 + 42 = 46 from rfl, hx] at hr
  refine .inr ⟨by omega, hm, v1, v2, v3, v4, v5, v6, v7, v8, v9, v10, v11, v12, v13, v14, v15, x1, x2, x3, [33639248, v1, v2, v3, v4, v5, v6, v7, v8, v9, v10, v11, v12, v13, v14, v15], [x1, x2, x3], _, hgd, hr, ?_, by simp, rfl⟩
  unfold portmanteaulaw17_centrals.f
  congr 1
  refine ?_
  simp only [List.cons.injEq, and_true, true_and]
  refine ⟨?_, ?_, ?_, ?_, ?_, ?_, ?_, ?_, ?_, ?_, ?_, ?_, ?_, ?_, ?_⟩
  · exact u64_id (by omega) (by omega)
  · exact u64_id (by omega) (by omega)
  · exact u64_id (by omega) (by omega)
  · exact u64_id (by omega) (by omega)
  · exact u64_id (by omega) (by omega)
  · exact u64_id (by omega) (by omega)
  · exact u64_id (by omega) (by omega)
  · exact u64_id (by omega) (by omega)
  · rw [z1, u64_id (by omega) (by omega)]; omega
  · rw [z2, u64_id (by omega) (by omega)]; omega
  · rw [z3, u64_id (by omega) (by omega)]; omega
  · exact u64_id (by omega) (by omega)
  · exact u64_id (by omega) (by omega)
  · exact u64_id (by omega) (by omega)
  · exact u64_id (by omega) (by omega)
theorem descw_nums (R : List UInt8) : ∃ v1 v2 v3 : Int, numsL [4, 8, 8] R = [v1, v2, v3] ∧ (0 ≤ v1 ∧ v1 ≤ 4294967295) ∧ (0 ≤ v2 ∧ v2 ≤ 18446744073709551615) ∧ (0 ≤ v3 ∧ v3 ≤ 18446744073709551615) := ⟨_, _, _, rfl, num4 _, num8 _, num8 _⟩
theorem descw_first : ((leN [80, 75, 7, 8] : Nat) : Int) = 134695760 := by decide
theorem descw_ref (s : ByteArray) (hs : s.size ≤ 3000) : portmanteauref17_Parse.f 300 s [4, 4, 8, 8] 134695760 [] = some (specR s [80, 75, 7, 8] [4, 8, 8] []) := by
  have h := ref_parse s hs [80, 75, 7, 8] rfl [4, 8, 8] [] (by intro w hw; simp only [List.mem_cons, List.mem_nil_iff, or_false] at hw; unfold Wd; omega) (by decide) (by decide) (by decide) (by decide) ?_ 300 (Nat.le_refl _)
  · rw [descw_first] at h
    exact h
  intro h4 hm hf t ht
  obtain ⟨v1, v2, v3, hn, b1, b2, b3⟩ := descw_nums (s.data.toList.drop 4)
  rw [hn]
  cases ht
theorem descw_split (s : ByteArray) (hs : s.size ≤ 3000) : (∃ (e : Int) (lr : List Int) (tr : List ByteArray), e ≠ 0 ∧ header_ParseDescriptor.f s true = some (0, 0, 0, 0, e) ∧ portmanteauref17_Parse.f 300 s [4, 4, 8, 8] 134695760 [] = some (lr, tr, 0, e)) ∨ (4 ≤ s.size ∧ s.data.toList.take 4 = [80, 75, 7, 8] ∧ ∃ (v1 v2 v3 : Int) (lr : List Int) (tr : List ByteArray) (n : Int), header_ParseDescriptor.f s true = some (v1, v2, v3, n, 0) ∧ portmanteauref17_Parse.f 300 s [4, 4, 8, 8] 134695760 [] = some (lr, tr, n, 0) ∧ portmanteaulaw17_descriptors.f v1 v2 v3 = some lr ∧ lr.length ≤ 100) := by
  have hr := descw_ref s hs
  unfold specR at hr
  by_cases h4 : s.size < 4
  · rw [if_pos h4] at hr
    exact .inl ⟨3, [], [], by decide, descw_short s hs h4, hr⟩
  rw [if_neg h4] at hr
  by_cases hm : s.data.toList.take 4 = [80, 75, 7, 8]
  case neg =>
    rw [if_neg hm] at hr
    exact .inl ⟨4, [], [], by decide, descw_no4 s hs (by omega) hm, hr⟩
  rw [if_pos hm] at hr
  by_cases hf : s.size < 4 + 20
  · rw [if_pos (show s.size < 4 + ([4, 8, 8] : List Nat).sum from hf)] at hr
    exact .inl ⟨3, [], [], by decide, descw_fix s hs (by omega) hm hf, hr⟩
  rw [if_neg (show ¬ s.size < 4 + ([4, 8, 8] : List Nat).sum from hf)] at hr
  obtain ⟨v1, v2, v3, hn, b1, b2, b3⟩ := descw_nums (s.data.toList.drop 4)
  rw [hn, descw_first] at hr
  change portmanteauref17_Parse.f 300 s [4, 4, 8, 8] 134695760 [] = some (if s.size < 4 + ([4, 8, 8] : List Nat).sum + 0 then ([], [], 0, 3) else ([134695760, v1, v2, v3], [], ((4 + ([4, 8, 8] : List Nat).sum + 0 : Nat) : Int), 0)) at hr
  have hws : ([4, 8, 8] : List Nat).sum = 20 := by decide
  rw [hws, if_neg (by omega)] at hr
  have hgd := descw_good s hs hm (by omega) v1 v2 v3 hn
  refine .inr ⟨by omega, hm, v1, v2, v3, [134695760, v1, v2, v3], [], _, hgd, hr, ?_, by simp⟩
  unfold portmanteaulaw17_descriptors.f
  congr 1
  refine ?_
  simp only [List.cons.injEq, and_true, true_and]
  exact u64_id (by omega) (by omega)
theorem descn_nums (R : List UInt8) : ∃ v1 v2 v3 : Int, numsL [4, 4, 4] R = [v1, v2, v3] ∧ (0 ≤ v1 ∧ v1 ≤ 4294967295) ∧ (0 ≤ v2 ∧ v2 ≤ 4294967295) ∧ (0 ≤ v3 ∧ v3 ≤ 4294967295) := ⟨_, _, _, rfl, num4 _, num4 _, num4 _⟩
theorem descn_first : ((leN [80, 75, 7, 8] : Nat) : Int) = 134695760 := by decide
theorem descn_ref (s : ByteArray) (hs : s.size ≤ 3000) : portmanteauref17_Parse.f 300 s [4, 4, 4, 4] 134695760 [] = some (specR s [80, 75, 7, 8] [4, 4, 4] []) := by
  have h := ref_parse s hs [80, 75, 7, 8] rfl [4, 4, 4] [] (by intro w hw; simp only [List.mem_cons, List.mem_nil_iff, or_false] at hw; unfold Wd; omega) (by decide) (by decide) (by decide) (by decide) ?_ 300 (Nat.le_refl _)
  · rw [descn_first] at h
    exact h
  intro h4 hm hf t ht
  obtain ⟨v1, v2, v3, hn, b1, b2, b3⟩ := descn_nums (s.data.toList.drop 4)
  rw [hn]
  cases ht
theorem descn_split (s : ByteArray) (hs : s.size ≤ 3000) : (∃ (e : Int) (lr : List Int) (tr : List ByteArray), e ≠ 0 ∧ header_ParseDescriptor.f s false = some (0, 0, 0, 0, e) ∧ portmanteauref17_Parse.f 300 s [4, 4, 4, 4] 134695760 [] = some (lr, tr, 0, e)) ∨ (4 ≤ s.size ∧ s.data.toList.take 4 = [80, 75, 7, 8] ∧ ∃ (v1 v2 v3 : Int) (lr : List Int) (tr : List ByteArray) (n : Int), header_ParseDescriptor.f s false = some (v1, v2, v3, n, 0) ∧ portmanteauref17_Parse.f 300 s [4, 4, 4, 4] 134695760 [] = some (lr, tr, n, 0) ∧ portmanteaulaw17_descriptors.f v1 v2 v3 = some lr ∧ lr.length ≤ 100) := by
  have hr := descn_ref s hs
  unfold specR at hr
  by_cases h4 : s.size < 4
  · rw [if_pos h4] at hr
    exact .inl ⟨3, [], [], by decide, descn_short s hs h4, hr⟩
  rw [if_neg h4] at hr
  by_cases hm : s.data.toList.take 4 = [80, 75, 7, 8]
  case neg =>
    rw [if_neg hm] at hr
    exact .inl ⟨4, [], [], by decide, descn_no4 s hs (by omega) hm, hr⟩
  rw [if_pos hm] at hr
  by_cases hf : s.size < 4 + 12
  · rw [if_pos (show s.size < 4 + ([4, 4, 4] : List Nat).sum from hf)] at hr
    exact .inl ⟨3, [], [], by decide, descn_fix s hs (by omega) hm hf, hr⟩
  rw [if_neg (show ¬ s.size < 4 + ([4, 4, 4] : List Nat).sum from hf)] at hr
  obtain ⟨v1, v2, v3, hn, b1, b2, b3⟩ := descn_nums (s.data.toList.drop 4)
  rw [hn, descn_first] at hr
  change portmanteauref17_Parse.f 300 s [4, 4, 4, 4] 134695760 [] = some (if s.size < 4 + ([4, 4, 4] : List Nat).sum + 0 then ([], [], 0, 3) else ([134695760, v1, v2, v3], [], ((4 + ([4, 4, 4] : List Nat).sum + 0 : Nat) : Int), 0)) at hr
  have hws : ([4, 4, 4] : List Nat).sum = 12 := by decide
  rw [hws, if_neg (by omega)] at hr
  have hgd := descn_good s hs hm (by omega) v1 v2 v3 hn
  refine .inr ⟨by omega, hm, v1, v2, v3, [134695760, v1, v2, v3], [], _, hgd, hr, ?_, by simp⟩
  unfold portmanteaulaw17_descriptors.f
  congr 1
  refine ?_
  simp only [List.cons.injEq, and_true, true_and]
  exact u64_id (by omega) (by omega)
end Go.Proofs.Ytnjfddmajiihjaa.Hp
namespace Go.Proofs.Ytnjfddmajiihjaa.Walk
set_option linter.unusedVariables false
set_option linter.unusedSimpArgs false
open Go Go.RowKit Go.Proofs.Ytnjfddmajiihjaa.P Go.Proofs.Ytnjfddmajiihjaa.B Go.Proofs.Ytnjfddmajiihjaa.D17 Go.Proofs.Ytnjfddmajiihjaa.Hp Go.Proofs.YtnjfddmajiihjaaW.PrintWords Go.Proofs.YtnjfddmajiihjaaW.PrintLast Go.Proofs.YtnjfddmajiihjaaW.PrintMore
theorem desc_split (s : ByteArray) (wide : Bool) (hs : s.size ≤ 3000) : (∃ (e : Int) (lr : List Int) (tr : List ByteArray), e ≠ 0 ∧ header_ParseDescriptor.f s wide = some (0, 0, 0, 0, e) ∧ portmanteauref17_Parse.f 300 s (if wide = true then [4, 4, 8, 8] else [4, 4, 4, 4]) 134695760 [] = some (lr, tr, 0, e)) ∨
    (s.data.toList.take 4 = [80, 75, 7, 8] ∧ ∃ (v1 v2 v3 : Int) (lr : List Int) (tr : List ByteArray) (n : Int), header_ParseDescriptor.f s wide = some (v1, v2, v3, n, 0) ∧ portmanteauref17_Parse.f 300 s (if wide = true then [4, 4, 8, 8] else [4, 4, 4, 4]) 134695760 [] = some (lr, tr, n, 0) ∧ portmanteaulaw17_descriptors.f v1 v2 v3 = some lr ∧ lr.length ≤ 100) := by
  cases wide with
  | true =>
    rcases descw_split s hs with h | ⟨_, hm, v1, v2, v3, lr, tr, n, h⟩
    · exact .inl h
    · exact .inr ⟨hm, v1, v2, v3, lr, tr, n, h⟩
  | false =>
    rcases descn_split s hs with h | ⟨_, hm, v1, v2, v3, lr, tr, n, h⟩
    · exact .inl h
    · exact .inr ⟨hm, v1, v2, v3, lr, tr, n, h⟩
set_option maxHeartbeats 4000000 in
set_option maxRecDepth 100000 in
theorem parses_big (s : ByteArray) (wide : Bool) (w : World) (hs : 3000 < s.size) :
    Calls Try.prog 4 #[.string s, .bool wide] w fun e w' => e = .returned (.bool true) ∧ Below w.heap.size w w' := by
  have hz1 : decide (3000 < s.size) = true := decide_eq_true hs
  have hz2 : decide ((3000 : Int) < (s.size : Int)) = true := decide_eq_true (by omega)
  clear hs
  go_enter Try.func4, Try.ntmps4
  go_wp2_with (go_at_call 6; refine (portmanteaulaw17_awake.calls 200 _ _ awake_true).mono ?_; rintro e w1 ⟨rfl, hb⟩; have HB1 := Aside0.mk hb; clear hb)
  go_ret
  exact ⟨rfl, HB1.out⟩
theorem HeaderParses (s : ByteArray) (wide : Bool) (w : World) (hs : s.size ≤ 140737488351232) :
    Calls Try.prog 4 #[.string s, .bool wide] w fun e w' => e = .returned (.bool true) ∧ Below w.heap.size w w' := by
  by_cases hz : 3000 < s.size
  · exact parses_big s wide w hz
  have h3 : s.size ≤ 3000 := by omega
  rcases local_split s h3 with ⟨ea, lra, tra, hea, fpa, fra⟩ | ⟨_, hma, a1, a2, a3, a4, a5, a6, a7, a8, a9, x1, x2, lra, tra, na, fpa, fra, fna, hla, hta⟩
  · rcases central_split s h3 with ⟨eb, lrb, trb, heb, fpb, frb⟩ | ⟨_, hmb, b1, b2, b3, b4, b5, b6, b7, b8, b9, b10, b11, b12, b13, b14, b15, y1, y2, y3, lrb, trb, nb, fpb, frb, fnb, hlb, htb⟩
    · rcases desc_split s wide h3 with ⟨ec, lrc, trc, hec, fpc, frc⟩ | ⟨hmc, c1, c2, c3, lrc, trc, nc, fpc, frc, fnc, hlc⟩
      · exact parses_w0 s wide w h3 ea hea lra tra fpa fra eb heb lrb trb fpb frb ec hec lrc trc fpc frc
      · exact parses_w3 s wide w h3 ea hea lra tra fpa fra eb heb lrb trb fpb frb c1 c2 c3 lrc trc nc fpc frc fnc hlc
    · rcases desc_split s wide h3 with ⟨ec, lrc, trc, hec, fpc, frc⟩ | ⟨hmc, _⟩
      · exact parses_w2 s wide w h3 ea hea lra tra fpa fra _ _ _ _ _ _ _ _ _ _ _ _ _ _ _ lrb trb nb fpb frb fnb hlb htb ec hec lrc trc fpc frc
      · rw [hmb] at hmc; exact absurd hmc (by decide)
  · rcases central_split s h3 with ⟨eb, lrb, trb, heb, fpb, frb⟩ | ⟨_, hmb, _⟩
    · rcases desc_split s wide h3 with ⟨ec, lrc, trc, hec, fpc, frc⟩ | ⟨hmc, _⟩
      · exact parses_w1 s wide w h3 _ _ _ _ _ _ _ _ _ lra tra na fpa fra fna hla hta eb heb lrb trb fpb frb ec hec lrc trc fpc frc
      · rw [hma] at hmc; exact absurd hmc (by decide)
    · rw [hma] at hmb; exact absurd hmb (by decide)
end Go.Proofs.Ytnjfddmajiihjaa.Walk
