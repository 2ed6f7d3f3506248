/-
  No cell of these rows narrows 'for every input' (looked for: loops, veiled, ifaces, maps, wideKeys, modest, calm, conditions, laid).
  DERIVED. THE GIVEN ROWS OF THIS SEAT. 3 by the template 'for every input the law returns true; each argument reads behind the call as it read before'; 0 by the template 'total and deterministic' (their statements: YtnjfddmajiihjaaTotals.lean).
  GIVEN WITH THE SEED: the statements are not yours to turn. If you find one false, say at which input.
  Laid BY PROGRAM, IN A SANDBOX (cutbox-rows.mjs): the forced cells as the released guide's own fill.sh prints them over the translation 7e62f0f2e5179ae5… (all of the seat's roots in one cut). By AI agents, Wed Nov 11 2026. No macro, syntax, notation, axiom, sorry.
-/
import Derived.Test.YtnjfddmajiihjaaChecked
import GoSem.Claim
import GoSem.ClaimJoined
import GoSem.ClaimMapViews
import Derived.JoinedTies
import Derived.KernelRfl
namespace Go.Proofs.Ytnjfddmajiihjaa
/- THE CELL 'sum', in the pinned program and in every row, IS THE sha256 OF THE DUMP (.gsa) THAT YtnjfddmajiihjaaProg.lean LOADS. Nothing in Lean hashes anything: it is a label: what it is worth is what the hold of that sum in a sandbox is worth. -/
noncomputable def Try.pinned : Pinned := { name := "ytnjfddmajiihjaa", sum := "7e62f0f2e5179ae5c3b0565c434e24e21575b11b66cb177e84d9ff790db7ddd0", checked := Try.checked }
namespace Rows
def none {H : Type} : Left H := { results := [], args := [] }

/-- 'portmanteaulaw17.HeaderPrints': WHATEVER THE INPUT: true; the input reads as it did. -/
def headerPrintsSpec : ChangeSpec := { name := "headerPrints", fn := fun _ => fun
  | [d1, d2, d3, d4, d5] => { results := [.lit (.bool true)], args := [d1, d2, d3, d4, d5] }
  | _ => none }
def headerPrintsRow : OpenClaim := { program := "ytnjfddmajiihjaa", sum := "7e62f0f2e5179ae5c3b0565c434e24e21575b11b66cb177e84d9ff790db7ddd0", func := "portmanteau/portmanteaulaw17.HeaderPrints", spec := "headerPrints", inPlace := ["internal/abi.NoEscape"], apart := false }
def HeaderPrintsSaid : Prop := headerPrintsRow.holds Try.pinned (OpenSpec.ofChange headerPrintsSpec)

/-- ITS FALSE NEIGHBOUR: 'it returns false'. Refute it at one input. -/
def headerPrintsWrong : ChangeSpec := { name := "headerPrints", fn := fun _ => fun
  | [d1, d2, d3, d4, d5] => { results := [.lit (.bool false)], args := [d1, d2, d3, d4, d5] }
  | _ => none }
def HeaderPrintsWrongFalsely : Prop := headerPrintsRow.holds Try.pinned (OpenSpec.ofChange headerPrintsWrong)

/-- 'portmanteaulaw17.HeaderParses': WHATEVER THE INPUT: true; the input reads as it did. -/
def headerParsesSpec : ChangeSpec := { name := "headerParses", fn := fun _ => fun
  | [d1, d2] => { results := [.lit (.bool true)], args := [d1, d2] }
  | _ => none }
def headerParsesRow : OpenClaim := { program := "ytnjfddmajiihjaa", sum := "7e62f0f2e5179ae5c3b0565c434e24e21575b11b66cb177e84d9ff790db7ddd0", func := "portmanteau/portmanteaulaw17.HeaderParses", spec := "headerParses", inPlace := ["internal/abi.NoEscape"], apart := false }
def HeaderParsesSaid : Prop := headerParsesRow.holds Try.pinned (OpenSpec.ofChange headerParsesSpec)

/-- ITS FALSE NEIGHBOUR: 'it returns false'. Refute it at one input. -/
def headerParsesWrong : ChangeSpec := { name := "headerParses", fn := fun _ => fun
  | [d1, d2] => { results := [.lit (.bool false)], args := [d1, d2] }
  | _ => none }
def HeaderParsesWrongFalsely : Prop := headerParsesRow.holds Try.pinned (OpenSpec.ofChange headerParsesWrong)

/-- 'portmanteaulaw17.HeaderBack': WHATEVER THE INPUT: true; the input reads as it did. -/
def headerBackSpec : ChangeSpec := { name := "headerBack", fn := fun _ => fun
  | [d1, d2, d3, d4, d5, d6] => { results := [.lit (.bool true)], args := [d1, d2, d3, d4, d5, d6] }
  | _ => none }
def headerBackRow : OpenClaim := { program := "ytnjfddmajiihjaa", sum := "7e62f0f2e5179ae5c3b0565c434e24e21575b11b66cb177e84d9ff790db7ddd0", func := "portmanteau/portmanteaulaw17.HeaderBack", spec := "headerBack", inPlace := ["internal/abi.NoEscape"], apart := false }
def HeaderBackSaid : Prop := headerBackRow.holds Try.pinned (OpenSpec.ofChange headerBackSpec)

/-- ITS FALSE NEIGHBOUR: 'it returns false'. Refute it at one input. -/
def headerBackWrong : ChangeSpec := { name := "headerBack", fn := fun _ => fun
  | [d1, d2, d3, d4, d5, d6] => { results := [.lit (.bool false)], args := [d1, d2, d3, d4, d5, d6] }
  | _ => none }
def HeaderBackWrongFalsely : Prop := headerBackRow.holds Try.pinned (OpenSpec.ofChange headerBackWrong)

/- THE SECOND FORM. 'bulk': how many values and letters a reading holds, each counted each time it is reached (what is shared counts as often as it is met; a slice's spare places count too). A statement '..UptoSaid' is the law's where the arguments, and the package variables that the reading takes, are together of bulk at most 1048576: NARROWER than '..Said'. Prove '..Said' where nothing that the law and all that it calls make is longer than what came in: it says more and counts as full. Else prove '..UptoSaid'. A law counts once. -/
mutual
def uptoBulk {H : Type} : DataW H → Nat
  | .lit (.string bytes) => bytes.length + 1
  | .lit _ => 1
  | .nil => 1
  | .ptr d => uptoBulk d + 1
  | .slice elems spare => uptoBulkAll elems + uptoBulkAll spare + 1
  | .agg parts => uptoBulkAll parts + 1
  | .iface _ d => uptoBulk d + 1
  | .map entries => uptoBulkEntries entries + 1
  | .held _ => 1
def uptoBulkAll {H : Type} : List (DataW H) → Nat
  | [] => 0
  | d :: r => uptoBulk d + uptoBulkAll r
def uptoBulkEntries {H : Type} : List (Lit × DataW H) → Nat
  | [] => 0
  | x :: r => uptoBulkEntry x + uptoBulkEntries r
def uptoBulkEntry {H : Type} : Lit × DataW H → Nat
  | (.string bytes, d) => bytes.length + uptoBulk d + 1
  | (_, d) => uptoBulk d + 1
 end
def uptoSmall : (H : Type) → List (DataW H) → Bool := fun _ ds => decide (uptoBulkAll ds ≤ 1048576)
def OpenSpec.upto (s : _root_.Go.ChangeSpec) : _root_.Go.OpenSpec := { _root_.Go.OpenSpec.ofChange s with cond := some uptoSmall }

/-- 'portmanteaulaw17.HeaderPrints', WHERE WHAT IT READS IS OF BULK AT MOST 1048576: true; the input reads as it did. -/
def headerPrintsUptoRow : OpenClaim := { program := "ytnjfddmajiihjaa", sum := "7e62f0f2e5179ae5c3b0565c434e24e21575b11b66cb177e84d9ff790db7ddd0", func := "portmanteau/portmanteaulaw17.HeaderPrints", spec := "headerPrints", inPlace := ["internal/abi.NoEscape"], apart := false, narrowed := true }
def HeaderPrintsUptoSaid : Prop := headerPrintsUptoRow.holds Try.pinned (OpenSpec.upto headerPrintsSpec)

/-- 'portmanteaulaw17.HeaderParses', WHERE WHAT IT READS IS OF BULK AT MOST 1048576: true; the input reads as it did. -/
def headerParsesUptoRow : OpenClaim := { program := "ytnjfddmajiihjaa", sum := "7e62f0f2e5179ae5c3b0565c434e24e21575b11b66cb177e84d9ff790db7ddd0", func := "portmanteau/portmanteaulaw17.HeaderParses", spec := "headerParses", inPlace := ["internal/abi.NoEscape"], apart := false, narrowed := true }
def HeaderParsesUptoSaid : Prop := headerParsesUptoRow.holds Try.pinned (OpenSpec.upto headerParsesSpec)

/-- 'portmanteaulaw17.HeaderBack', WHERE WHAT IT READS IS OF BULK AT MOST 1048576: true; the input reads as it did. -/
def headerBackUptoRow : OpenClaim := { program := "ytnjfddmajiihjaa", sum := "7e62f0f2e5179ae5c3b0565c434e24e21575b11b66cb177e84d9ff790db7ddd0", func := "portmanteau/portmanteaulaw17.HeaderBack", spec := "headerBack", inPlace := ["internal/abi.NoEscape"], apart := false, narrowed := true }
def HeaderBackUptoSaid : Prop := headerBackUptoRow.holds Try.pinned (OpenSpec.upto headerBackSpec)

end Rows
end Go.Proofs.Ytnjfddmajiihjaa
