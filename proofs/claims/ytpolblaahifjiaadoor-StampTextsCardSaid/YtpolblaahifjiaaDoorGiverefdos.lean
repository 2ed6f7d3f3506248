/- The reference's FromDOS: the walk. -/
import Derived.Test.YtpolblaahifjiaaDoorPx12
namespace Go.Proofs.YtpolblaahifjiaaDoor.P
set_option linter.unusedVariables false
set_option linter.unusedSimpArgs false
open Go Go.RowKit Go.Proofs Go.Proofs.YtpolblaahifjiaaDoorW.PrintWords Go.Proofs.YtpolblaahifjiaaDoorW.PrintLast Go.Proofs.YtpolblaahifjiaaDoorW.PrintMore
/-- A time of DOS's, by the reference. -/
def portmanteauref12_FromDOS.f (a0 : Int) : Option (Int × Int) :=
  if 0 ≤ a0 ∧ a0 < 4294967296 then portmanteauref12_Seconds.f 20000 (a0 / 65536 / 512 + 1980) (a0 / 65536 / 32 % 16) (a0 / 65536 % 32) (a0 % 65536 / 2048) (a0 % 65536 / 32 % 64) (a0 % 32 * 2) else none
set_option maxHeartbeats 12800000 in
set_option maxRecDepth 100000 in
theorem refdos_nat (n : Nat) (r1 r2 : Int) (w : World) (hn : n < 4294967296) (h : portmanteauref12_Seconds.f 20000 ((n : Int) / 65536 / 512 + 1980) ((n : Int) / 65536 / 32 % 16) ((n : Int) / 65536 % 32) ((n : Int) % 65536 / 2048) ((n : Int) % 65536 / 32 % 64) ((n : Int) % 32 * 2) = some (r1, r2)) :
    Calls Tryd.prog 17 #[.int .u32 (n : Int)] w fun e w' => e = .returned (.tuple #[.int .i64 r1, .int .i64 r2]) ∧ Below w.heap.size w w' := by
  have hu := Tryd.underlying34
  have H := Aside0.mk h
  clear h
  go_enter Tryd.func17, Tryd.ntmps17
  go_wp2_with (go_at_call 15; (with_reducible refine (portmanteauref12_Seconds.calls 20000 _ _ _ _ _ _ _ _ _ H.out).mono ?_); rintro e w1 ⟨rfl, hb⟩; have HB := Aside0.mk hb; clear hb)
  go_ret2
  exact ⟨rfl, HB.out⟩
theorem portmanteauref12_FromDOS.calls (a0 r1 r2 : Int) (w : World) (h : portmanteauref12_FromDOS.f a0 = some (r1, r2)) :
    Calls Tryd.prog 17 #[.int .u32 a0] w fun e w' => e = .returned (.tuple #[.int .i64 r1, .int .i64 r2]) ∧ Below w.heap.size w w' := by
  unfold portmanteauref12_FromDOS.f at h
  split at h
  · rename_i hb
    obtain ⟨n, rfl⟩ : ∃ n : Nat, a0 = (n : Int) := ⟨a0.toNat, by omega⟩
    exact refdos_nat n r1 r2 w (by omega) h
  · cases h
end Go.Proofs.YtpolblaahifjiaaDoor.P
