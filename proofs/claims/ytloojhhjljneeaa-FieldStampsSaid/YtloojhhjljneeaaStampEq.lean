/- Two of the reference's stamps held against each other. -/
import Derived.Test.YtloojhhjljneeaaRefStampP
import Derived.Test.YtloojhhjljneeaaArrEq
namespace Go.Proofs.Ytloojhhjljneeaa.St
set_option linter.unusedVariables false
set_option linter.unusedSimpArgs false
open Go Go.RowKit Go.Proofs.Ytloojhhjljneeaa.Ar Go.Proofs.YtloojhhjljneeaaW.PrintWords Go.Proofs.YtloojhhjljneeaaW.PrintLast Go.Proofs.YtloojhhjljneeaaW.PrintMore
theorem size21 : ∀ w, (sizeOf 21).run Try.prog w = .ok 1 w := fun w => by kernel_rfl
theorem stamp_eq (a b c d : Int) (W : World) : (Op.equalIn 10000 37 (.agg #[.int .u8 a, .int .i32 b, .int .i32 c, .int .i32 d]) (.agg #[.int .u8 a, .int .i32 b, .int .i32 c, .int .i32 d])).run Try.prog W = .ok true W := by
  rw [run_equalIn_agg W 9999 37 _ _ (by kernel_rfl) (by kernel_rfl)]
  have hf : ∃ f1 f2 : Field, (Try.prog.fieldsOf 37).toList = [f1, f2] ∧ f1.name ≠ "_" ∧ f2.name ≠ "_" ∧ f1.type = 5 ∧ f1.offset = 0 ∧ f2.type = 35 ∧ f2.offset = 1 := by
    unfold Program.fieldsOf
    rw [Try.underlying37]
    exact ⟨_, _, rfl, by decide, by decide, rfl, rfl, rfl, rfl⟩
  obtain ⟨f1, f2, hf, n1, n2, t1, o1, t2, o2⟩ := hf
  rw [hf]
  have p1 : ∀ W, (part 5 #[.int .u8 a, .int .i32 b, .int .i32 c, .int .i32 d] 0).run Try.prog W = .ok (.int .u8 a) W := fun W => by kernel_rfl
  have p2 : ∀ W, (part 35 #[.int .u8 a, .int .i32 b, .int .i32 c, .int .i32 d] 1).run Try.prog W = .ok (.agg (ints .i32 [b, c, d]).toArray) W := fun W => by kernel_rfl
  have e1 : ∀ W, (Op.equalIn 9999 5 (.int .u8 a) (.int .u8 a)).run Try.prog W = .ok true W := fun W => by rw [run_equalIn_int W 9998 5 .u8 .u8 a a Try.underlying5]; simp
  have e2 : ∀ W, (Op.equalIn 9999 35 (.agg (ints .i32 [b, c, d]).toArray) (.agg (ints .i32 [b, c, d]).toArray)).run Try.prog W = .ok true W := fun W => run_equalIn_ints W .i32 9997 35 21 3 Try.underlying35 Try.underlying21 size21 [b, c, d] rfl
  simp only [Op.eqFields, n1, n2, t1, t2, o1, o2, ne_eq, not_false_eq_true, if_true, Sem.run_bind, p1, p2, e1, e2, Result.andThen_ok, Bool.not_true, Bool.false_eq_true, if_false, Sem.run_pure]
end Go.Proofs.Ytloojhhjljneeaa.St
