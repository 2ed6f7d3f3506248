/- StampDOS: any time as DOS has it, and any of DOS's times; whether any time fits 32 bits. -/
import Derived.Test.YtpolblaahifjiaaDoorCalDOS
import Derived.Test.YtpolblaahifjiaaDoorPx14
namespace Go.Proofs.YtpolblaahifjiaaDoor.Walk
set_option linter.unusedVariables false
open Go Go.RowKit Go.Proofs.YtpolblaahifjiaaDoor.P Go.Proofs.YtpolblaahifjiaaDoor.Cal Go.Proofs.YtpolblaahifjiaaDoor.Fmt Go.Proofs.YtpolblaahifjiaaDoorW.PrintWords Go.Proofs.YtpolblaahifjiaaDoorW.PrintLast Go.Proofs.YtpolblaahifjiaaDoorW.PrintMore
theorem pure_dos (t n : Int) (hb : -9223372036854775808 ≤ t ∧ t ≤ 9223372036854775807) (h0 : 0 ≤ n) (h1 : n < 4294967296) : portmanteaulaw12_StampDOS.f 20000 t n = some true := by
  obtain ⟨⟨c, e⟩, hs⟩ : ∃ r, stamp_FromDOS.f n = some r := by rw [fromdos_eq n h0 h1]; exact sec_some _ _ _ _ _ _
  obtain ⟨q, hq⟩ := dos_some t hb
  have hq1 : stamp_ToDOS.f 20000 t = some q := hq 19997
  have hq2 : portmanteauref12_ToDOS.f 20000 t = some q := (dos_same 19997 t hb).trans hq1
  unfold portmanteaulaw12_StampDOS.f portmanteaulaw12_awake.f
  rw [Option.bind_some, if_pos rfl, hs, Option.bind_some, fromdos_same n h0 h1, hs, Option.bind_some, hq1, Option.bind_some, hq2, Option.bind_some, if_pos rfl, if_pos rfl, if_pos rfl, fits_eq t hb, Option.bind_some]
  by_cases h : t ≥ -2147483648
  · rw [if_pos h]
    by_cases h2 : t ≤ 2147483647
    · rw [decide_eq_true (show -2147483648 ≤ t ∧ t ≤ 2147483647 from ⟨h, h2⟩), decide_eq_true h2]; rfl
    · rw [decide_eq_false (show ¬ (-2147483648 ≤ t ∧ t ≤ 2147483647) from fun k => h2 k.2), decide_eq_false h2]; rfl
  · rw [if_neg h, decide_eq_false (show ¬ (-2147483648 ≤ t ∧ t ≤ 2147483647) from fun k => h k.1)]; rfl
theorem wf_i64b {x : Int} (h : (Lit.int .i64 x).wf = true) : -9223372036854775808 ≤ x ∧ x ≤ 9223372036854775807 := by
  simp [Lit.wf, IntKind.min, IntKind.max, IntKind.signed, IntKind.bits] at h; omega
theorem wf_u32 {x : Int} (h : (Lit.int .u32 x).wf = true) : 0 ≤ x ∧ x < 4294967296 := by
  simp [Lit.wf, IntKind.min, IntKind.max, IntKind.signed, IntKind.bits] at h; omega
theorem StampDOS (t n : Int) (w : World) (w0 : (Lit.int .i64 t).wf = true) (w1 : (Lit.int .u32 n).wf = true) (hT : Tab w) :
    Calls Tryd.prog 7 #[.int .i64 t, .int .u32 n] w fun e w' => e = .returned (.bool true) ∧ Below w.heap.size w w' :=
  portmanteaulaw12_StampDOS.calls 20000 t n true w (pure_dos t n (wf_i64b w0) (wf_u32 w1).1 (wf_u32 w1).2) hT
end Go.Proofs.YtpolblaahifjiaaDoor.Walk
