/- TailBack: the walk and the plain part joined. -/
import Derived.Test.YtdooampgkiodjaaWalkTailBack
namespace Go.Proofs.Ytdooampgkiodjaa.Walk
set_option linter.unusedVariables false
set_option linter.unusedSimpArgs false
open Go Go.RowKit Go.Proofs.Ytdooampgkiodjaa.P Go.Proofs.Ytdooampgkiodjaa.B Go.Proofs.Ytdooampgkiodjaa.D18 Go.Proofs.Ytdooampgkiodjaa.Num Go.Proofs.Ytdooampgkiodjaa.Cur Go.Proofs.YtdooampgkiodjaaW.PrintWords Go.Proofs.YtdooampgkiodjaaW.PrintLast Go.Proofs.YtdooampgkiodjaaW.PrintMore
theorem app_list (a b : ByteArray) : (a ++ b).data.toList = a.data.toList ++ b.data.toList := by
  simp
theorem li_of (t : ByteArray) (h : t.size ≤ 1000000) : strings_LastIndex.f t (⟨#[80, 75, 5, 6]⟩ : ByteArray) = some (Lib.lastIndex t.data.toList [80, 75, 5, 6]) := by
  unfold strings_LastIndex.f
  rw [if_pos (by omega)]
theorem TailBack (a0 a1 : ByteArray) (a2 a3 : Int) (a4 : Bool) (w : World) (w0 : a0.size ≤ 140737488351232) (w1 : a1.size ≤ 140737488351232) (w2 : (Lit.int .u64 a2).wf = true) (w3 : (Lit.int .u64 a3).wf = true) :
    Calls Try.prog 5 #[.string a0, .string a1, .int .u64 a2, .int .u64 a3, .bool a4] w fun e w' => e = .returned (.bool true) ∧ Below w.heap.size w w' := by
  by_cases h0 : 2000 < a0.size
  · exact back_big0 a0 a1 a2 a3 a4 w h0
  by_cases h1 : 1000 < a1.size
  · exact back_big1 a0 a1 a2 a3 a4 w h0 h1
  have b2 := wf_u64 w2
  have b3 := wf_u64 w3
  obtain ⟨n, rfl⟩ : ∃ n : Nat, a2 = (n : Int) := ⟨a2.toNat, by omega⟩
  obtain ⟨m, rfl⟩ : ∃ m : Nat, a3 = (m : Int) := ⟨a3.toNat, by omega⟩
  obtain ⟨z, hz⟩ : ∃ z, m % (a0.size + 1) = z := ⟨_, rfl⟩
  have hzl : z ≤ a0.size := by have := Nat.mod_lt m (show 0 < a0.size + 1 by omega); omega
  obtain ⟨o, ho⟩ : ∃ o, a0.size - z = o := ⟨_, rfl⟩
  have e1 : Int.tmod (m : Int) ((a0.size : Int) + 1) = (z : Int) := by rw [← hz]; rfl
  have e2 : IntKind.u64.wrap ((a0.size : Int) - (z : Int)) = (o : Int) := by rw [u64_id (by omega) (by omega)]; omega
  obtain ⟨t, er, hte⟩ : ∃ t er, tailGo n z o a1 a4 = (t, er) := ⟨_, _, rfl⟩
  have hP : tail_Print.f (a0.size : Int) (n : Int) (z : Int) (o : Int) a1 a4 = some (t, er) := by
    unfold tail_Print.f
    rw [if_pos ⟨⟨by omega, by omega⟩, ⟨by omega, by omega⟩, ⟨by omega, by omega⟩⟩, Int.toNat_natCast, Int.toNat_natCast, Int.toNat_natCast, hte]
  have hcl : a1.data.toList.length = a1.size := toList_length a1
  have hal : a0.data.toList.length = a0.size := toList_length a0
  unfold tailGo at hte
  rw [if_neg (by omega)] at hte
  cases a4 with
  | true =>
    rw [if_pos rfl] at hte
    obtain ⟨rfl, rfl⟩ := Prod.mk.inj hte
    obtain ⟨E, hE⟩ : ∃ E, endB 65535 4294967295 4294967295 a1.data.toList = E := ⟨_, rfl⟩
    have hEl : E.length = 22 + a1.size := by rw [← hE, endB_len, hcl]
    obtain ⟨P, hPd⟩ : ∃ P, wideB n z o = P := ⟨_, rfl⟩
    have hw : P = wideR n z o ++ locB a0.data.toList.length := by rw [← hPd]; exact wideB_eq n z o _ (by omega)
    have hPl : P.length = 76 := by rw [hw, List.length_append, wide_len, loc_len]
    rw [hE, hPd] at hP
    have hts : (strN (P ++ E)).size = 98 + a1.size := by rw [Cur.strN_size, List.length_append, hPl, hEl]; omega
    refine back_core a0 a1 _ _ true w z o 0 (Lib.lastIndex (strN (P ++ E)).data.toList [80, 75, 5, 6]) (strN (P ++ E)) 3000 h0 h1 (by omega) e1 e2 hP (li_of _ (by omega)) ?_
    rw [Cur.strN_data]
    by_cases hli : ((strN (P ++ E)).size : Int) - 22 - (a1.size : Int) < Lib.lastIndex (P ++ E) [80, 75, 5, 6]
    · exact .inr (.inl ⟨rfl, hli⟩)
    · refine .inr (.inr ⟨rfl, hli, ?_⟩)
      have hno := no_more a0.data.toList P E a1.size hEl (by rw [hPl]; omega)
      have hs : (a0 ++ strN (P ++ E)).data.toList = a0.data.toList ++ (wideR n z o ++ (locB a0.data.toList.length ++ E)) := by
        rw [app_list, Cur.strN_data, hw, List.append_assoc]
      have := find_wide (a0 ++ strN (P ++ E)) a0.data.toList a1.data.toList E n z o hE.symm hs (by omega) (by omega) (by omega) (by omega) (by omega) (by
        intro j hj1 hj2
        rw [app_list, Cur.strN_data]
        exact hno j (by omega) (by omega)) 2999 (by omega)
      rw [hal] at this
      exact this
  | false =>
    rw [if_neg (by decide)] at hte
    by_cases hn : 65535 ≤ n
    · rw [if_pos hn] at hte
      obtain ⟨rfl, rfl⟩ := Prod.mk.inj hte
      exact back_core a0 a1 _ _ false w z o 8 _ _ 3000 h0 h1 (by decide) e1 e2 hP (li_of _ (by decide)) (.inl ⟨by decide, rfl, by omega⟩)
    · rw [if_neg hn, if_neg (by omega), if_neg (by omega)] at hte
      obtain ⟨rfl, rfl⟩ := Prod.mk.inj hte
      obtain ⟨E, hE⟩ : ∃ E, endB n z o a1.data.toList = E := ⟨_, rfl⟩
      have hEl : E.length = 22 + a1.size := by rw [← hE, endB_len, hcl]
      rw [hE] at hP
      have hts : (strN E).size = 22 + a1.size := by rw [Cur.strN_size, hEl]
      refine back_core a0 a1 _ _ false w z o 0 (Lib.lastIndex (strN E).data.toList [80, 75, 5, 6]) (strN E) 3000 h0 h1 (by omega) e1 e2 hP (li_of _ (by omega)) ?_
      rw [Cur.strN_data]
      by_cases hli : ((strN E).size : Int) - 22 - (a1.size : Int) < Lib.lastIndex E [80, 75, 5, 6]
      · exact .inr (.inl ⟨rfl, hli⟩)
      · refine .inr (.inr ⟨rfl, hli, ?_⟩)
        have hno := no_more a0.data.toList [] E a1.size hEl (by rw [List.nil_append]; show ¬ _ > ((0 : Nat) : Int); omega)
        have hs : (a0 ++ strN E).data.toList = a0.data.toList ++ E := by rw [app_list, Cur.strN_data]
        have := find_bare (a0 ++ strN E) a0.data.toList a1.data.toList n z o (by rw [hE]; exact hs) (by omega) (by omega) (by omega) (by omega) (by omega) (by
          intro j hj1 hj2
          rw [hs]
          exact hno j (by simp; omega) (by simp; omega)) 2999 (by omega)
        rw [hal] at this
        exact this
end Go.Proofs.Ytdooampgkiodjaa.Walk
