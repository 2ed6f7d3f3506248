/- 'max' of five, six, seven whole numbers, for the walk. -/
import Derived.Test.YtnjfddmajiihjaaWMore
namespace Go.Proofs.Ytnjfddmajiihjaa.Mx
open Go Go.RowKit Go.Proofs.YtnjfddmajiihjaaW.PrintMore
theorem max_five (ats : Array TypeId) (ty : TypeId) (a b c d e : Value) : Builtin.max_ ats ty #[a, b, c, d, e] = (Builtin.max2 a b >>= fun s => Builtin.max2 s c >>= fun s => Builtin.max2 s d >>= fun s => Builtin.max2 s e >>= fun s => pure s) := by simp only [Builtin.max_, List.foldlM_cons, List.foldlM_nil]
theorem max_six (ats : Array TypeId) (ty : TypeId) (a b c d e f : Value) : Builtin.max_ ats ty #[a, b, c, d, e, f] = (Builtin.max2 a b >>= fun s => Builtin.max2 s c >>= fun s => Builtin.max2 s d >>= fun s => Builtin.max2 s e >>= fun s => Builtin.max2 s f >>= fun s => pure s) := by simp only [Builtin.max_, List.foldlM_cons, List.foldlM_nil]
theorem max_seven (ats : Array TypeId) (ty : TypeId) (a b c d e f g : Value) : Builtin.max_ ats ty #[a, b, c, d, e, f, g] = (Builtin.max2 a b >>= fun s => Builtin.max2 s c >>= fun s => Builtin.max2 s d >>= fun s => Builtin.max2 s e >>= fun s => Builtin.max2 s f >>= fun s => Builtin.max2 s g >>= fun s => pure s) := by simp only [Builtin.max_, List.foldlM_cons, List.foldlM_nil]
end Go.Proofs.Ytnjfddmajiihjaa.Mx
