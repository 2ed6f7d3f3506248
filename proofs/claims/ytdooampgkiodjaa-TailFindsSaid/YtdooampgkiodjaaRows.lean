/-
  No cell of these rows narrows 'for every input' (looked for: loops, veiled, ifaces, maps, wideKeys, modest, calm, conditions, laid).
  DERIVED. THE GIVEN ROWS OF THIS SEAT. 4 by the template 'for every input the law returns true; each argument reads behind the call as it read before'; 0 by the template 'total and deterministic' (their statements: YtdooampgkiodjaaTotals.lean).
  GIVEN WITH THE SEED: the statements are not yours to turn. If you find one false, say at which input.
  Laid BY PROGRAM, IN A SANDBOX (cutbox-rows.mjs): the forced cells as the released guide's own fill.sh prints them over the translation 98c48c9af352db8f… (all of the seat's roots in one cut). By AI agents, Wed Nov 11 2026. No macro, syntax, notation, axiom, sorry.
-/
import Derived.Test.YtdooampgkiodjaaChecked
import GoSem.Claim
import GoSem.ClaimJoined
import GoSem.ClaimMapViews
import Derived.JoinedTies
import Derived.KernelRfl
namespace Go.Proofs.Ytdooampgkiodjaa
/- THE CELL 'sum', in the pinned program and in every row, IS THE sha256 OF THE DUMP (.gsa) THAT YtdooampgkiodjaaProg.lean LOADS. Nothing in Lean hashes anything: it is a label: what it is worth is what the hold of that sum in a sandbox is worth. -/
noncomputable def Try.pinned : Pinned := { name := "ytdooampgkiodjaa", sum := "98c48c9af352db8f7e5b9eb5320c9ea3aa73866d16ff9b7bc9d16a236a68fa55", checked := Try.checked }
namespace Rows
def none {H : Type} : Left H := { results := [], args := [] }

/-- 'portmanteaulaw18.TailFinds': WHATEVER THE INPUT: true; the input reads as it did. -/
def tailFindsSpec : ChangeSpec := { name := "tailFinds", fn := fun _ => fun
  | [d] => { results := [.lit (.bool true)], args := [d] }
  | _ => none }
def tailFindsRow : OpenClaim := { program := "ytdooampgkiodjaa", sum := "98c48c9af352db8f7e5b9eb5320c9ea3aa73866d16ff9b7bc9d16a236a68fa55", func := "portmanteau/portmanteaulaw18.TailFinds", spec := "tailFinds", inPlace := ["internal/abi.NoEscape"], apart := false }
def TailFindsSaid : Prop := tailFindsRow.holds Try.pinned (OpenSpec.ofChange tailFindsSpec)

/-- ITS FALSE NEIGHBOUR: 'it returns false'. Refute it at one input. -/
def tailFindsWrong : ChangeSpec := { name := "tailFinds", fn := fun _ => fun
  | [d] => { results := [.lit (.bool false)], args := [d] }
  | _ => none }
def TailFindsWrongFalsely : Prop := tailFindsRow.holds Try.pinned (OpenSpec.ofChange tailFindsWrong)

/-- 'portmanteaulaw18.TailWide': WHATEVER THE INPUT: true; the input reads as it did. -/
def tailWideSpec : ChangeSpec := { name := "tailWide", fn := fun _ => fun
  | [d1, d2, d3] => { results := [.lit (.bool true)], args := [d1, d2, d3] }
  | _ => none }
def tailWideRow : OpenClaim := { program := "ytdooampgkiodjaa", sum := "98c48c9af352db8f7e5b9eb5320c9ea3aa73866d16ff9b7bc9d16a236a68fa55", func := "portmanteau/portmanteaulaw18.TailWide", spec := "tailWide", inPlace := ["internal/abi.NoEscape"], apart := false }
def TailWideSaid : Prop := tailWideRow.holds Try.pinned (OpenSpec.ofChange tailWideSpec)

/-- ITS FALSE NEIGHBOUR: 'it returns false'. Refute it at one input. -/
def tailWideWrong : ChangeSpec := { name := "tailWide", fn := fun _ => fun
  | [d1, d2, d3] => { results := [.lit (.bool false)], args := [d1, d2, d3] }
  | _ => none }
def TailWideWrongFalsely : Prop := tailWideRow.holds Try.pinned (OpenSpec.ofChange tailWideWrong)

/-- 'portmanteaulaw18.TailBack': WHATEVER THE INPUT: true; the input reads as it did. -/
def tailBackSpec : ChangeSpec := { name := "tailBack", fn := fun _ => fun
  | [d1, d2, d3, d4, d5] => { results := [.lit (.bool true)], args := [d1, d2, d3, d4, d5] }
  | _ => none }
def tailBackRow : OpenClaim := { program := "ytdooampgkiodjaa", sum := "98c48c9af352db8f7e5b9eb5320c9ea3aa73866d16ff9b7bc9d16a236a68fa55", func := "portmanteau/portmanteaulaw18.TailBack", spec := "tailBack", inPlace := ["internal/abi.NoEscape"], apart := false }
def TailBackSaid : Prop := tailBackRow.holds Try.pinned (OpenSpec.ofChange tailBackSpec)

/-- ITS FALSE NEIGHBOUR: 'it returns false'. Refute it at one input. -/
def tailBackWrong : ChangeSpec := { name := "tailBack", fn := fun _ => fun
  | [d1, d2, d3, d4, d5] => { results := [.lit (.bool false)], args := [d1, d2, d3, d4, d5] }
  | _ => none }
def TailBackWrongFalsely : Prop := tailBackRow.holds Try.pinned (OpenSpec.ofChange tailBackWrong)

/-- 'portmanteaulaw18.TailPrints': WHATEVER THE INPUT: true; the input reads as it did. -/
def tailPrintsSpec : ChangeSpec := { name := "tailPrints", fn := fun _ => fun
  | [d1, d2] => { results := [.lit (.bool true)], args := [d1, d2] }
  | _ => none }
def tailPrintsRow : OpenClaim := { program := "ytdooampgkiodjaa", sum := "98c48c9af352db8f7e5b9eb5320c9ea3aa73866d16ff9b7bc9d16a236a68fa55", func := "portmanteau/portmanteaulaw18.TailPrints", spec := "tailPrints", inPlace := ["internal/abi.NoEscape", "internal/bytealg.MakeNoZero"], apart := false }
def TailPrintsSaid : Prop := tailPrintsRow.holds Try.pinned (OpenSpec.ofChange tailPrintsSpec)

/-- ITS FALSE NEIGHBOUR: 'it returns false'. Refute it at one input. -/
def tailPrintsWrong : ChangeSpec := { name := "tailPrints", fn := fun _ => fun
  | [d1, d2] => { results := [.lit (.bool false)], args := [d1, d2] }
  | _ => none }
def TailPrintsWrongFalsely : Prop := tailPrintsRow.holds Try.pinned (OpenSpec.ofChange tailPrintsWrong)

/- THE SECOND FORM. 'bulk': how many values and letters a reading holds, each counted each time it is reached (what is shared counts as often as it is met; a slice's spare places count too). A statement '..UptoSaid' is the law's where the arguments, and the package variables that the reading takes, are together of bulk at most 1048576: NARROWER than '..Said'. Prove '..Said' where nothing that the law and all that it calls make is longer than what came in: it says more and counts as full. Else prove '..UptoSaid'. A law counts once. -/
mutual
def uptoBulk {H : Type} : DataW H → Nat
  | .lit (.string bytes) => bytes.length + 1
  | .lit _ => 1
  | .nil => 1
  | .ptr d => uptoBulk d + 1
  | .slice elems spare => uptoBulkAll elems + uptoBulkAll spare + 1
  | .agg parts => uptoBulkAll parts + 1
  | .iface _ d => uptoBulk d + 1
  | .map entries => uptoBulkEntries entries + 1
  | .held _ => 1
def uptoBulkAll {H : Type} : List (DataW H) → Nat
  | [] => 0
  | d :: r => uptoBulk d + uptoBulkAll r
def uptoBulkEntries {H : Type} : List (Lit × DataW H) → Nat
  | [] => 0
  | x :: r => uptoBulkEntry x + uptoBulkEntries r
def uptoBulkEntry {H : Type} : Lit × DataW H → Nat
  | (.string bytes, d) => bytes.length + uptoBulk d + 1
  | (_, d) => uptoBulk d + 1
 end
def uptoSmall : (H : Type) → List (DataW H) → Bool := fun _ ds => decide (uptoBulkAll ds ≤ 1048576)
def OpenSpec.upto (s : _root_.Go.ChangeSpec) : _root_.Go.OpenSpec := { _root_.Go.OpenSpec.ofChange s with cond := some uptoSmall }

/-- 'portmanteaulaw18.TailFinds', WHERE WHAT IT READS IS OF BULK AT MOST 1048576: true; the input reads as it did. -/
def tailFindsUptoRow : OpenClaim := { program := "ytdooampgkiodjaa", sum := "98c48c9af352db8f7e5b9eb5320c9ea3aa73866d16ff9b7bc9d16a236a68fa55", func := "portmanteau/portmanteaulaw18.TailFinds", spec := "tailFinds", inPlace := ["internal/abi.NoEscape"], apart := false, narrowed := true }
def TailFindsUptoSaid : Prop := tailFindsUptoRow.holds Try.pinned (OpenSpec.upto tailFindsSpec)

/-- 'portmanteaulaw18.TailWide', WHERE WHAT IT READS IS OF BULK AT MOST 1048576: true; the input reads as it did. -/
def tailWideUptoRow : OpenClaim := { program := "ytdooampgkiodjaa", sum := "98c48c9af352db8f7e5b9eb5320c9ea3aa73866d16ff9b7bc9d16a236a68fa55", func := "portmanteau/portmanteaulaw18.TailWide", spec := "tailWide", inPlace := ["internal/abi.NoEscape"], apart := false, narrowed := true }
def TailWideUptoSaid : Prop := tailWideUptoRow.holds Try.pinned (OpenSpec.upto tailWideSpec)

/-- 'portmanteaulaw18.TailBack', WHERE WHAT IT READS IS OF BULK AT MOST 1048576: true; the input reads as it did. -/
def tailBackUptoRow : OpenClaim := { program := "ytdooampgkiodjaa", sum := "98c48c9af352db8f7e5b9eb5320c9ea3aa73866d16ff9b7bc9d16a236a68fa55", func := "portmanteau/portmanteaulaw18.TailBack", spec := "tailBack", inPlace := ["internal/abi.NoEscape"], apart := false, narrowed := true }
def TailBackUptoSaid : Prop := tailBackUptoRow.holds Try.pinned (OpenSpec.upto tailBackSpec)

/-- 'portmanteaulaw18.TailPrints', WHERE WHAT IT READS IS OF BULK AT MOST 1048576: true; the input reads as it did. -/
def tailPrintsUptoRow : OpenClaim := { program := "ytdooampgkiodjaa", sum := "98c48c9af352db8f7e5b9eb5320c9ea3aa73866d16ff9b7bc9d16a236a68fa55", func := "portmanteau/portmanteaulaw18.TailPrints", spec := "tailPrints", inPlace := ["internal/abi.NoEscape", "internal/bytealg.MakeNoZero"], apart := false, narrowed := true }
def TailPrintsUptoSaid : Prop := tailPrintsUptoRow.holds Try.pinned (OpenSpec.upto tailPrintsSpec)

end Rows
end Go.Proofs.Ytdooampgkiodjaa
