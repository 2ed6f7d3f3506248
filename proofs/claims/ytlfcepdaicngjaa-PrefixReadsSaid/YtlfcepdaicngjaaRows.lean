/-
  No cell of these rows narrows 'for every input' (looked for: loops, veiled, ifaces, maps, wideKeys, modest, calm, conditions, laid).
  DERIVED. THE GIVEN ROWS OF THIS SEAT. 4 by the template 'for every input the law returns true; each argument reads behind the call as it read before'; 0 by the template 'total and deterministic' (their statements: YtlfcepdaicngjaaTotals.lean).
  GIVEN WITH THE SEED: the statements are not yours to turn. If you find one false, say at which input.
  Laid BY PROGRAM, IN A SANDBOX (cutbox-rows.mjs): the forced cells as the released guide's own fill.sh prints them over the translation 9deb99984a3b17f1… (all of the seat's roots in one cut). By AI agents, Wed Nov 11 2026. No macro, syntax, notation, axiom, sorry.
-/
import Derived.Test.YtlfcepdaicngjaaChecked
import GoSem.Claim
import GoSem.ClaimJoined
import GoSem.ClaimMapViews
import Derived.JoinedTies
import Derived.KernelRfl
namespace Go.Proofs.Ytlfcepdaicngjaa
/- THE CELL 'sum', in the pinned program and in every row, IS THE sha256 OF THE DUMP (.gsa) THAT YtlfcepdaicngjaaProg.lean LOADS. Nothing in Lean hashes anything: it is a label: what it is worth is what the hold of that sum in a sandbox is worth. -/
noncomputable def Try.pinned : Pinned := { name := "ytlfcepdaicngjaa", sum := "9deb99984a3b17f1c93acdae8c435722feffc1d178be0577599c9a70091988f3", checked := Try.checked }
namespace Rows
def none {H : Type} : Left H := { results := [], args := [] }

/-- 'portmanteaulaw04.PrefixWhole': WHATEVER THE INPUT: true; the input reads as it did. -/
def prefixWholeSpec : ChangeSpec := { name := "prefixWhole", fn := fun _ => fun
  | [d1, d2] => { results := [.lit (.bool true)], args := [d1, d2] }
  | _ => none }
def prefixWholeRow : OpenClaim := { program := "ytlfcepdaicngjaa", sum := "9deb99984a3b17f1c93acdae8c435722feffc1d178be0577599c9a70091988f3", func := "portmanteau/portmanteaulaw04.PrefixWhole", spec := "prefixWhole", plainKeys := false, apart := false }
def PrefixWholeSaid : Prop := prefixWholeRow.holds Try.pinned (OpenSpec.ofChange prefixWholeSpec)

/-- ITS FALSE NEIGHBOUR: 'it returns false'. Refute it at one input. -/
def prefixWholeWrong : ChangeSpec := { name := "prefixWhole", fn := fun _ => fun
  | [d1, d2] => { results := [.lit (.bool false)], args := [d1, d2] }
  | _ => none }
def PrefixWholeWrongFalsely : Prop := prefixWholeRow.holds Try.pinned (OpenSpec.ofChange prefixWholeWrong)

/-- 'portmanteaulaw04.PrefixNil': WHATEVER THE INPUT: true; the input reads as it did. -/
def prefixNilSpec : ChangeSpec := { name := "prefixNil", fn := fun _ => fun
  | [] => { results := [.lit (.bool true)], args := [] }
  | _ => none }
def prefixNilRow : OpenClaim := { program := "ytlfcepdaicngjaa", sum := "9deb99984a3b17f1c93acdae8c435722feffc1d178be0577599c9a70091988f3", func := "portmanteau/portmanteaulaw04.PrefixNil", spec := "prefixNil", plainKeys := false, apart := false }
def PrefixNilSaid : Prop := prefixNilRow.holds Try.pinned (OpenSpec.ofChange prefixNilSpec)

/-- ITS FALSE NEIGHBOUR: 'it returns false'. Refute it at one input. -/
def prefixNilWrong : ChangeSpec := { name := "prefixNil", fn := fun _ => fun
  | [] => { results := [.lit (.bool false)], args := [] }
  | _ => none }
def PrefixNilWrongFalsely : Prop := prefixNilRow.holds Try.pinned (OpenSpec.ofChange prefixNilWrong)

/-- 'portmanteaulaw04.PrefixReads': WHATEVER THE INPUT: true; the input reads as it did. -/
def prefixReadsSpec : ChangeSpec := { name := "prefixReads", fn := fun _ => fun
  | [d1, d2, d3, d4] => { results := [.lit (.bool true)], args := [d1, d2, d3, d4] }
  | _ => none }
def prefixReadsRow : OpenClaim := { program := "ytlfcepdaicngjaa", sum := "9deb99984a3b17f1c93acdae8c435722feffc1d178be0577599c9a70091988f3", func := "portmanteau/portmanteaulaw04.PrefixReads", spec := "prefixReads", plainKeys := false, apart := false }
def PrefixReadsSaid : Prop := prefixReadsRow.holds Try.pinned (OpenSpec.ofChange prefixReadsSpec)

/-- ITS FALSE NEIGHBOUR: 'it returns false'. Refute it at one input. -/
def prefixReadsWrong : ChangeSpec := { name := "prefixReads", fn := fun _ => fun
  | [d1, d2, d3, d4] => { results := [.lit (.bool false)], args := [d1, d2, d3, d4] }
  | _ => none }
def PrefixReadsWrongFalsely : Prop := prefixReadsRow.holds Try.pinned (OpenSpec.ofChange prefixReadsWrong)

/-- 'portmanteaulaw04.PrefixBack': WHATEVER THE INPUT: true; the input reads as it did. -/
def prefixBackSpec : ChangeSpec := { name := "prefixBack", fn := fun _ => fun
  | [d1, d2] => { results := [.lit (.bool true)], args := [d1, d2] }
  | _ => none }
def prefixBackRow : OpenClaim := { program := "ytlfcepdaicngjaa", sum := "9deb99984a3b17f1c93acdae8c435722feffc1d178be0577599c9a70091988f3", func := "portmanteau/portmanteaulaw04.PrefixBack", spec := "prefixBack", plainKeys := false, apart := false }
def PrefixBackSaid : Prop := prefixBackRow.holds Try.pinned (OpenSpec.ofChange prefixBackSpec)

/-- ITS FALSE NEIGHBOUR: 'it returns false'. Refute it at one input. -/
def prefixBackWrong : ChangeSpec := { name := "prefixBack", fn := fun _ => fun
  | [d1, d2] => { results := [.lit (.bool false)], args := [d1, d2] }
  | _ => none }
def PrefixBackWrongFalsely : Prop := prefixBackRow.holds Try.pinned (OpenSpec.ofChange prefixBackWrong)

/- THE SECOND FORM. 'bulk': how many values and letters a reading holds, each counted each time it is reached (what is shared counts as often as it is met; a slice's spare places count too). A statement '..UptoSaid' is the law's where the arguments, and the package variables that the reading takes, are together of bulk at most 1048576: NARROWER than '..Said'. Prove '..Said' where nothing that the law and all that it calls make is longer than what came in: it says more and counts as full. Else prove '..UptoSaid'. A law counts once. -/
mutual
def uptoBulk {H : Type} : DataW H → Nat
  | .lit (.string bytes) => bytes.length + 1
  | .lit _ => 1
  | .nil => 1
  | .ptr d => uptoBulk d + 1
  | .slice elems spare => uptoBulkAll elems + uptoBulkAll spare + 1
  | .agg parts => uptoBulkAll parts + 1
  | .iface _ d => uptoBulk d + 1
  | .map entries => uptoBulkEntries entries + 1
  | .held _ => 1
def uptoBulkAll {H : Type} : List (DataW H) → Nat
  | [] => 0
  | d :: r => uptoBulk d + uptoBulkAll r
def uptoBulkEntries {H : Type} : List (Lit × DataW H) → Nat
  | [] => 0
  | x :: r => uptoBulkEntry x + uptoBulkEntries r
def uptoBulkEntry {H : Type} : Lit × DataW H → Nat
  | (.string bytes, d) => bytes.length + uptoBulk d + 1
  | (_, d) => uptoBulk d + 1
 end
def uptoSmall : (H : Type) → List (DataW H) → Bool := fun _ ds => decide (uptoBulkAll ds ≤ 1048576)
def OpenSpec.upto (s : _root_.Go.ChangeSpec) : _root_.Go.OpenSpec := { _root_.Go.OpenSpec.ofChange s with cond := some uptoSmall }

/-- 'portmanteaulaw04.PrefixWhole', WHERE WHAT IT READS IS OF BULK AT MOST 1048576: true; the input reads as it did. -/
def prefixWholeUptoRow : OpenClaim := { program := "ytlfcepdaicngjaa", sum := "9deb99984a3b17f1c93acdae8c435722feffc1d178be0577599c9a70091988f3", func := "portmanteau/portmanteaulaw04.PrefixWhole", spec := "prefixWhole", plainKeys := false, apart := false, narrowed := true }
def PrefixWholeUptoSaid : Prop := prefixWholeUptoRow.holds Try.pinned (OpenSpec.upto prefixWholeSpec)

/-- 'portmanteaulaw04.PrefixNil', WHERE WHAT IT READS IS OF BULK AT MOST 1048576: true; the input reads as it did. -/
def prefixNilUptoRow : OpenClaim := { program := "ytlfcepdaicngjaa", sum := "9deb99984a3b17f1c93acdae8c435722feffc1d178be0577599c9a70091988f3", func := "portmanteau/portmanteaulaw04.PrefixNil", spec := "prefixNil", plainKeys := false, apart := false, narrowed := true }
def PrefixNilUptoSaid : Prop := prefixNilUptoRow.holds Try.pinned (OpenSpec.upto prefixNilSpec)

/-- 'portmanteaulaw04.PrefixReads', WHERE WHAT IT READS IS OF BULK AT MOST 1048576: true; the input reads as it did. -/
def prefixReadsUptoRow : OpenClaim := { program := "ytlfcepdaicngjaa", sum := "9deb99984a3b17f1c93acdae8c435722feffc1d178be0577599c9a70091988f3", func := "portmanteau/portmanteaulaw04.PrefixReads", spec := "prefixReads", plainKeys := false, apart := false, narrowed := true }
def PrefixReadsUptoSaid : Prop := prefixReadsUptoRow.holds Try.pinned (OpenSpec.upto prefixReadsSpec)

/-- 'portmanteaulaw04.PrefixBack', WHERE WHAT IT READS IS OF BULK AT MOST 1048576: true; the input reads as it did. -/
def prefixBackUptoRow : OpenClaim := { program := "ytlfcepdaicngjaa", sum := "9deb99984a3b17f1c93acdae8c435722feffc1d178be0577599c9a70091988f3", func := "portmanteau/portmanteaulaw04.PrefixBack", spec := "prefixBack", plainKeys := false, apart := false, narrowed := true }
def PrefixBackUptoSaid : Prop := prefixBackUptoRow.holds Try.pinned (OpenSpec.upto prefixBackSpec)

end Rows
end Go.Proofs.Ytlfcepdaicngjaa
