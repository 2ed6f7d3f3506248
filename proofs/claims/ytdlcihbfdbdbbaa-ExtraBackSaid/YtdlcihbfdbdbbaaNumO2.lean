/- Two bytes: plain Lean. -/
import Derived.Test.YtdlcihbfdbdbbaaNumO
import Derived.Test.YtdlcihbfdbdbbaaPx6
namespace Go.Proofs.Ytdlcihbfdbdbbaa.Num
set_option linter.unusedVariables false
set_option linter.unusedSimpArgs false
open Go Go.RowKit Go.Proofs.Ytdlcihbfdbdbbaa.P Go.Proofs.Ytdlcihbfdbdbbaa.B Go.Proofs.YtdlcihbfdbdbbaaW.PrintWords Go.Proofs.YtdlcihbfdbdbbaaW.PrintLast Go.Proofs.YtdlcihbfdbdbbaaW.PrintMore

theorem two_eq (n : Nat) (hn : n < 2 ^ 16) (k : Nat) (hk : 64 < k) : cursor_Two.f k (n : Int) = some (strN (ofN 2 n)) := by
  unfold cursor_Two.f
  rw [u64_id (by omega) (by omega), of_eq n (by omega) 2 k hk]; rfl
end Go.Proofs.Ytdlcihbfdbdbbaa.Num
