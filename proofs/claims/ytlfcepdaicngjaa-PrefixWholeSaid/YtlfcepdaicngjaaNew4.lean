/- prefix.New at any lengths: one contract. -/
import Derived.Test.YtlfcepdaicngjaaNewbad
import Derived.Test.YtlfcepdaicngjaaPlain04
namespace Go.Proofs.Ytlfcepdaicngjaa.Pk
set_option linter.unusedVariables false
set_option linter.unusedSimpArgs false
open Go Go.RowKit Go.Proofs.Ytlfcepdaicngjaa.P Go.Proofs.YtlfcepdaicngjaaW.PrintWords Go.Proofs.YtlfcepdaicngjaaW.PrintLast Go.Proofs.YtlfcepdaicngjaaW.PrintMore
theorem new_says (A0 : Option Addr) (c0 : Nat) (l0 : List Int) (o : Bool) (w : World) (hr0 : Kd.C (Kd.int .u8) w A0 l0.length l0) (hc0 : l0.length ≤ c0) (hu : ∀ x ∈ l0, 0 ≤ x) :
    Calls Try.prog 8 #[.slice A0 l0.length c0, .bool o] w fun e w' => Below w.heap.size w w' ∧
      ((∃ r, r ≠ 0 ∧ e = .returned (.tuple #[.pointer none, .int .i64 r])) ∨
       (∃ p n, w.heap.size ≤ p ∧ prefix_Fill.f 5000 l0 = some (n, 0) ∧ n ≤ 32768 ∧ okW l0 = true ∧ (32768 ≤ n ∨ o = true ∧ prefix_few.f 5000 l0 = some true) ∧ e = .returned (.tuple #[.pointer (some ⟨p, 0, none⟩), .int .i64 0]) ∧ IsCode w' p l0 (wordsW l0).2)) := by
  obtain ⟨n, e, hF, hW⟩ := words_total l0 hu
  by_cases he : e = 0
  · subst he
    by_cases hn : n > 32768
    · rw [if_pos rfl, if_pos hn] at hW
      exact (new_bad A0 c0 l0 _ _ o w hr0 hc0 hW (by decide)).mono fun x w' ⟨h1, h2⟩ => ⟨h2, .inl ⟨10, by decide, h1⟩⟩
    · rw [if_pos rfl, if_neg hn] at hW
      have hok := fill_okW l0 n hu hF
      obtain ⟨hlen, hall⟩ : l0.length ≤ 4096 ∧ ∀ x ∈ l0, 0 ≤ x ∧ x ≤ 15 := by simpa [okW] using hok
      obtain ⟨b, hb⟩ := few_total l0 hlen
      by_cases h : 32768 ≤ n ∨ n < 32768 ∧ o = true ∧ prefix_few.f 5000 l0 = some true
      · exact (new_ok A0 c0 l0 _ n o w hr0 hc0 hW hF hlen (wordsW_length l0) hall (wordsW_B32 l0) h).mono fun x w' ⟨p, h1, h2, h3, h4⟩ => ⟨h4, .inr ⟨p, n, h1, hF, by omega, hok, h.imp id (fun q => q.2), h2, h3⟩⟩
      · have hn2 : n < 32768 := by
          rcases Int.lt_or_le n 32768 with q | q
          · exact q
          · exact absurd (.inl q) h
        refine (new_shut A0 c0 l0 _ n o w hr0 hc0 hW hF hn2 ?_).mono fun x w' ⟨h1, h2⟩ => ⟨h2, .inl ⟨10, by decide, h1⟩⟩
        cases o with
        | false => exact .inl rfl
        | true =>
          cases b with
          | false => exact .inr ⟨rfl, hb⟩
          | true => exact absurd (.inr ⟨hn2, rfl, hb⟩) h
  · rw [if_neg he] at hW
    exact (new_bad A0 c0 l0 _ e o w hr0 hc0 hW he).mono fun x w' ⟨h1, h2⟩ => ⟨h2, .inl ⟨e, he, h1⟩⟩
end Go.Proofs.Ytlfcepdaicngjaa.Pk
