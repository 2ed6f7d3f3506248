/- ExtraReads: the fields that any bytes are, the bytes of any fields: out of the printed walk and the plain law. -/
import Derived.Test.YtdlcihbfdbdbbaaPlainExtraReads
namespace Go.Proofs.Ytdlcihbfdbdbbaa.Walk
set_option linter.unusedVariables false
open Go Go.RowKit Go.Proofs.Ytdlcihbfdbdbbaa.P Go.Proofs.Ytdlcihbfdbdbbaa.B Go.Proofs.YtdlcihbfdbdbbaaW.PrintWords
theorem ExtraReads (s : ByteArray) (A : Option Addr) (c : Nat) (l : List S38) (w : World) (hs : s.size ≤ 140737488351232) (hl : l.length ≤ c) (hC : Kd.C k38 w A l.length l)
    (hok : ∀ x_ ∈ l, ((Lit.int .u16 x_.f0).wf = true) ∧ (x_.f1.size ≤ maxLen)) (hz : l.length * 24 ≤ 140737488351232) :
    Calls Try.prog 3 #[.string s, .slice A l.length c] w fun e w' => e = .returned (.bool true) ∧ Below w.heap.size w w' :=
  portmanteaulaw13_ExtraReads.calls 300001 s A c l true w hC hl (D13.law s l (fun x hx => by have := wf_u16 (hok x hx).1; omega) 300001 (by omega))
end Go.Proofs.Ytdlcihbfdbdbbaa.Walk
