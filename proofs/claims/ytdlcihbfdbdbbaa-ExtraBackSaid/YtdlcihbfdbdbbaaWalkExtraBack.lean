/- ExtraBack: what is printed is parsed as it was; what is parsed is printed so; what was put is found, once: out of the printed walk and the plain law. -/
import Derived.Test.YtdlcihbfdbdbbaaPlainBack13
import Derived.Test.YtdlcihbfdbdbbaaPx12
namespace Go.Proofs.Ytdlcihbfdbdbbaa.Walk
set_option linter.unusedVariables false
open Go Go.RowKit Go.Proofs.Ytdlcihbfdbdbbaa.P Go.Proofs.Ytdlcihbfdbdbbaa.B Go.Proofs.YtdlcihbfdbdbbaaW.PrintWords
theorem ExtraBack (s : ByteArray) (A : Option Addr) (c : Nat) (l : List S38) (f : S38) (cs : Array Value) (w : World) (hs : s.size ≤ 140737488351232) (hl : l.length ≤ c) (hC : Kd.C k38 w A l.length l)
    (hok : ∀ x_ ∈ l, ((Lit.int .u16 x_.f0).wf = true) ∧ (x_.f1.size ≤ maxLen)) (hz : l.length * 24 ≤ 140737488351232) (hK : k38.K w f cs.toList) (hokf : ((Lit.int .u16 f.f0).wf = true) ∧ (f.f1.size ≤ maxLen)) :
    Calls Try.prog 5 #[.string s, .slice A l.length c, .agg cs] w fun e w' => e = .returned (.bool true) ∧ Below w.heap.size w w' := by
  have hcs := k38_open hK
  obtain rfl : cs = #[.int .u16 f.f0, .string f.f1] := Array.toList_inj.1 (by rw [hcs])
  exact portmanteaulaw13_ExtraBack.calls 300001 s A c l f.f0 f.f1 true w hC hl (D13.law s l f.f0 f.f1 (fun x hx => by have := wf_u16 (hok x hx).1; omega) 300001 (by omega))
end Go.Proofs.Ytdlcihbfdbdbbaa.Walk
