/-
  No cell of these rows narrows 'for every input' (looked for: loops, veiled, ifaces, maps, wideKeys, modest, calm, conditions, laid).
  DERIVED. THE GIVEN ROWS OF THIS SEAT. 2 by the template 'for every input the law returns true; each argument reads behind the call as it read before'; 0 by the template 'total and deterministic' (their statements: YtolohijegkagiaaTotals.lean).
  GIVEN WITH THE SEED: the statements are not yours to turn. If you find one false, say at which input.
  Laid BY PROGRAM, IN A SANDBOX (cutbox-rows.mjs): the forced cells as the released guide's own fill.sh prints them over the translation b4f4c28203869ae8… (all of the seat's roots in one cut). By AI agents, Wed Nov 11 2026. No macro, syntax, notation, axiom, sorry.
-/
import Derived.Test.YtolohijegkagiaaChecked
import GoSem.Claim
import GoSem.ClaimJoined
import GoSem.ClaimMapViews
import Derived.JoinedTies
import Derived.KernelRfl
namespace Go.Proofs.Ytolohijegkagiaa
/- THE CELL 'sum', in the pinned program and in every row, IS THE sha256 OF THE DUMP (.gsa) THAT YtolohijegkagiaaProg.lean LOADS. Nothing in Lean hashes anything: it is a label: what it is worth is what the hold of that sum in a sandbox is worth. -/
noncomputable def Try.pinned : Pinned := { name := "ytolohijegkagiaa", sum := "b4f4c28203869ae84cb5b373eed6b20e6c445648c8936726b1c082a8b19d42b9", checked := Try.checked }
namespace Rows
def none {H : Type} : Left H := { results := [], args := [] }

/-- 'portmanteaulaw09.DeflateBounds': WHATEVER THE INPUT: true; the input reads as it did. -/
def deflateBoundsSpec : ChangeSpec := { name := "deflateBounds", fn := fun _ => fun
  | [d1, d2, d3] => { results := [.lit (.bool true)], args := [d1, d2, d3] }
  | _ => none }
def deflateBoundsRow : OpenClaim := { program := "ytolohijegkagiaa", sum := "b4f4c28203869ae84cb5b373eed6b20e6c445648c8936726b1c082a8b19d42b9", func := "portmanteau/portmanteaulaw09.DeflateBounds", spec := "deflateBounds", plainKeys := false, apart := false }
def DeflateBoundsSaid : Prop := deflateBoundsRow.holds Try.pinned (OpenSpec.ofChange deflateBoundsSpec)

/-- ITS FALSE NEIGHBOUR: 'it returns false'. Refute it at one input. -/
def deflateBoundsWrong : ChangeSpec := { name := "deflateBounds", fn := fun _ => fun
  | [d1, d2, d3] => { results := [.lit (.bool false)], args := [d1, d2, d3] }
  | _ => none }
def DeflateBoundsWrongFalsely : Prop := deflateBoundsRow.holds Try.pinned (OpenSpec.ofChange deflateBoundsWrong)

/-- 'portmanteaulaw09.DeflateSame': WHATEVER THE INPUT: true; the input reads as it did. -/
def deflateSameSpec : ChangeSpec := { name := "deflateSame", fn := fun _ => fun
  | [d1, d2, d3, d4] => { results := [.lit (.bool true)], args := [d1, d2, d3, d4] }
  | _ => none }
def deflateSameRow : OpenClaim := { program := "ytolohijegkagiaa", sum := "b4f4c28203869ae84cb5b373eed6b20e6c445648c8936726b1c082a8b19d42b9", func := "portmanteau/portmanteaulaw09.DeflateSame", spec := "deflateSame", inPlace := ["internal/abi.NoEscape", "internal/bytealg.MakeNoZero"], unfollowed := true, recurses := true, plainKeys := false, apart := false }
def DeflateSameSaid : Prop := deflateSameRow.holds Try.pinned (OpenSpec.ofChange deflateSameSpec)

/-- ITS FALSE NEIGHBOUR: 'it returns false'. Refute it at one input. -/
def deflateSameWrong : ChangeSpec := { name := "deflateSame", fn := fun _ => fun
  | [d1, d2, d3, d4] => { results := [.lit (.bool false)], args := [d1, d2, d3, d4] }
  | _ => none }
def DeflateSameWrongFalsely : Prop := deflateSameRow.holds Try.pinned (OpenSpec.ofChange deflateSameWrong)

/- THE SECOND FORM. 'bulk': how many values and letters a reading holds, each counted each time it is reached (what is shared counts as often as it is met; a slice's spare places count too). A statement '..UptoSaid' is the law's where the arguments, and the package variables that the reading takes, are together of bulk at most 1048576: NARROWER than '..Said'. Prove '..Said' where nothing that the law and all that it calls make is longer than what came in: it says more and counts as full. Else prove '..UptoSaid'. A law counts once. -/
mutual
def uptoBulk {H : Type} : DataW H → Nat
  | .lit (.string bytes) => bytes.length + 1
  | .lit _ => 1
  | .nil => 1
  | .ptr d => uptoBulk d + 1
  | .slice elems spare => uptoBulkAll elems + uptoBulkAll spare + 1
  | .agg parts => uptoBulkAll parts + 1
  | .iface _ d => uptoBulk d + 1
  | .map entries => uptoBulkEntries entries + 1
  | .held _ => 1
def uptoBulkAll {H : Type} : List (DataW H) → Nat
  | [] => 0
  | d :: r => uptoBulk d + uptoBulkAll r
def uptoBulkEntries {H : Type} : List (Lit × DataW H) → Nat
  | [] => 0
  | x :: r => uptoBulkEntry x + uptoBulkEntries r
def uptoBulkEntry {H : Type} : Lit × DataW H → Nat
  | (.string bytes, d) => bytes.length + uptoBulk d + 1
  | (_, d) => uptoBulk d + 1
 end
def uptoSmall : (H : Type) → List (DataW H) → Bool := fun _ ds => decide (uptoBulkAll ds ≤ 1048576)
def OpenSpec.upto (s : _root_.Go.ChangeSpec) : _root_.Go.OpenSpec := { _root_.Go.OpenSpec.ofChange s with cond := some uptoSmall }

/-- 'portmanteaulaw09.DeflateBounds', WHERE WHAT IT READS IS OF BULK AT MOST 1048576: true; the input reads as it did. -/
def deflateBoundsUptoRow : OpenClaim := { program := "ytolohijegkagiaa", sum := "b4f4c28203869ae84cb5b373eed6b20e6c445648c8936726b1c082a8b19d42b9", func := "portmanteau/portmanteaulaw09.DeflateBounds", spec := "deflateBounds", plainKeys := false, apart := false, narrowed := true }
def DeflateBoundsUptoSaid : Prop := deflateBoundsUptoRow.holds Try.pinned (OpenSpec.upto deflateBoundsSpec)

/-- 'portmanteaulaw09.DeflateSame', WHERE WHAT IT READS IS OF BULK AT MOST 1048576: true; the input reads as it did. -/
def deflateSameUptoRow : OpenClaim := { program := "ytolohijegkagiaa", sum := "b4f4c28203869ae84cb5b373eed6b20e6c445648c8936726b1c082a8b19d42b9", func := "portmanteau/portmanteaulaw09.DeflateSame", spec := "deflateSame", inPlace := ["internal/abi.NoEscape", "internal/bytealg.MakeNoZero"], unfollowed := true, recurses := true, plainKeys := false, apart := false, narrowed := true }
def DeflateSameUptoSaid : Prop := deflateSameUptoRow.holds Try.pinned (OpenSpec.upto deflateSameSpec)

end Rows
end Go.Proofs.Ytolohijegkagiaa
