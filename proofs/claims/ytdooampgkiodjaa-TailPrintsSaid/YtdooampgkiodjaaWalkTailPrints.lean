/- TailPrints: the bytes of any end: out of the printed walk and the plain law. -/
import Derived.Test.YtdooampgkiodjaaPlainTailPrints
namespace Go.Proofs.Ytdooampgkiodjaa.Walk
set_option linter.unusedVariables false
open Go Go.RowKit Go.Proofs.Ytdooampgkiodjaa.P Go.Proofs.Ytdooampgkiodjaa.B Go.Proofs.YtdooampgkiodjaaW.PrintWords
theorem TailPrints (a : S25) (cs : Array Value) (more : Bool) (w : World) (hK : k25.K w a cs.toList)
    (hok : ((Lit.int .i64 a.f0).wf = true) ∧ ((Lit.int .u64 a.f1).wf = true) ∧ ((Lit.int .u64 a.f2).wf = true) ∧ ((Lit.int .u64 a.f3).wf = true) ∧ (a.f4.size ≤ maxLen) ∧ (True)) :
    Calls Try.prog 6 #[.agg cs, .bool more] w fun e w' => e = .returned (.bool true) ∧ Below w.heap.size w w' := by
  have hcs := k25_open hK
  obtain rfl : cs = #[.int .i64 a.f0, .int .u64 a.f1, .int .u64 a.f2, .int .u64 a.f3, .string a.f4, .bool a.f5] := Array.toList_inj.1 (by rw [hcs])
  exact portmanteaulaw18_TailPrints.calls (2000 + 1) a.f0 a.f1 a.f2 a.f3 a.f4 a.f5 more true w (D18.law a.f0 a.f1 a.f2 a.f3 a.f4 a.f5 more (wf_u64 hok.2.1) (wf_u64 hok.2.2.1) (wf_u64 hok.2.2.2.1) 2000 (by omega))
end Go.Proofs.Ytdooampgkiodjaa.Walk
