/- Eight bytes: plain Lean. -/
import Derived.Test.YtdooampgkiodjaaNumO
import Derived.Test.YtdooampgkiodjaaPx9
namespace Go.Proofs.Ytdooampgkiodjaa.Num
set_option linter.unusedVariables false
set_option linter.unusedSimpArgs false
open Go Go.RowKit Go.Proofs.Ytdooampgkiodjaa.P Go.Proofs.Ytdooampgkiodjaa.B Go.Proofs.YtdooampgkiodjaaW.PrintWords Go.Proofs.YtdooampgkiodjaaW.PrintLast Go.Proofs.YtdooampgkiodjaaW.PrintMore

theorem eight_eq (n : Nat) (hn : n < 2 ^ 64) (k : Nat) (hk : 64 < k) : cursor_Eight.f k (n : Int) = some (strN (ofN 8 n)) := by
  unfold cursor_Eight.f
  rw [of_eq n hn 8 k hk]; rfl
end Go.Proofs.Ytdooampgkiodjaa.Num
