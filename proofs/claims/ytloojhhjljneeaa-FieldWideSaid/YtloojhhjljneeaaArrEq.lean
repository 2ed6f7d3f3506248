/- Two arrays of whole numbers held against each other. -/
import Derived.Test.YtloojhhjljneeaaArr
import Derived.Laws.StructEq
namespace Go.Proofs.Ytloojhhjljneeaa.Ar
set_option linter.unusedVariables false
set_option linter.unusedSimpArgs false
open Go Go.RowKit Go.Proofs.YtloojhhjljneeaaW.PrintWords Go.Proofs.YtloojhhjljneeaaW.PrintLast Go.Proofs.YtloojhhjljneeaaW.PrintMore
theorem run_equalIn_ints {P : Program} (w : World) (k : IntKind) (d : Nat) (t e : TypeId) (n : Nat) (ht : P.underlying t = some (.array n e)) (he : P.underlying e = some (.int k)) (hsz : ∀ w, (sizeOf e).run P w = .ok 1 w)
    (xs : List Int) (hx : xs.length = n) :
    (Op.equalIn (d + 2) t (.agg (ints k xs).toArray) (.agg (ints k xs).toArray)).run P w = .ok true w := by
  rw [Op.equalIn]
  simp only [Sem.run_bind, run_underlying ht, Result.andThen_ok, hsz, Std.Legacy.Range.forIn_eq_forIn_range', Std.Legacy.Range.size, Nat.sub_zero, Nat.add_sub_cancel, Nat.div_one]
  have hl : ∀ i ∈ List.range' 0 n 1, i < n := fun i hi => by simpa using (List.mem_range'_1.1 hi).2
  generalize List.range' 0 n 1 = l at hl ⊢
  induction l with
  | nil => simp
  | cons i l ih =>
    have hi : i < n := hl i (by simp)
    have px : (part e (ints k xs).toArray (i * 1)).run P w = .ok (.int k (xs.getD i 0)) w := by
      simp [part, isAgg, run_underlying he, List.getD, ints, List.getElem?_eq_getElem (show i < xs.length by omega)]
    have pe : (Op.equalIn (d + 1) e (.int k (xs.getD i 0)) (.int k (xs.getD i 0))).run P w = .ok true w := by
      rw [run_equalIn_int w d e k k _ _ he]
      simp
    simp only [List.forIn_cons, Sem.run_bind, px, pe, Result.andThen_ok]
    simp only [Bool.not_true, Bool.false_eq_true, if_false, Sem.run_pure, Result.andThen_ok]
    exact ih fun j hj => hl j (by simp [hj])
theorem run_eql_ints {P : Program} (w : World) (k : IntKind) (t e : TypeId) (n : Nat) (ht : P.underlying t = some (.array n e)) (he : P.underlying e = some (.int k)) (hsz : ∀ w, (sizeOf e).run P w = .ok 1 w)
    (xs : List Int) (hx : xs.length = n) :
    (binOp .eql t (.agg (ints k xs).toArray) (.agg (ints k xs).toArray)).run P w = .ok (.bool true) w := by
  rw [run_eql_struct, run_equalIn_ints w k 9998 t e n ht he hsz xs hx]
  rfl
end Go.Proofs.Ytloojhhjljneeaa.Ar
