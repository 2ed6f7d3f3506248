/-
  No cell of these rows narrows 'for every input' (looked for: loops, veiled, ifaces, maps, wideKeys, modest, calm, conditions, laid).
  DERIVED. THE GIVEN ROWS OF THIS SEAT. 3 by the template 'for every input the law returns true; each argument reads behind the call as it read before'; 0 by the template 'total and deterministic' (their statements: YtloojhhjljneeaaTotals.lean).
  GIVEN WITH THE SEED: the statements are not yours to turn. If you find one false, say at which input.
  Laid BY PROGRAM, IN A SANDBOX (cutbox-rows.mjs): the forced cells as the released guide's own fill.sh prints them over the translation d54668b5182c049e… (all of the seat's roots in one cut). By AI agents, Wed Nov 11 2026. No macro, syntax, notation, axiom, sorry.
-/
import Derived.Test.YtloojhhjljneeaaChecked
import GoSem.Claim
import GoSem.ClaimJoined
import GoSem.ClaimMapViews
import Derived.JoinedTies
import Derived.KernelRfl
namespace Go.Proofs.Ytloojhhjljneeaa
/- THE CELL 'sum', in the pinned program and in every row, IS THE sha256 OF THE DUMP (.gsa) THAT YtloojhhjljneeaaProg.lean LOADS. Nothing in Lean hashes anything: it is a label: what it is worth is what the hold of that sum in a sandbox is worth. -/
noncomputable def Try.pinned : Pinned := { name := "ytloojhhjljneeaa", sum := "d54668b5182c049e9f84fdeb33f4f6459d8e7d3b270f4e704b6c28b835f7a9c5", checked := Try.checked }
namespace Rows
def none {H : Type} : Left H := { results := [], args := [] }

/-- 'portmanteaulaw14.FieldOwners': WHATEVER THE INPUT: true; the input reads as it did. -/
def fieldOwnersSpec : ChangeSpec := { name := "fieldOwners", fn := fun _ => fun
  | [d1, d2, d3] => { results := [.lit (.bool true)], args := [d1, d2, d3] }
  | _ => none }
def fieldOwnersRow : OpenClaim := { program := "ytloojhhjljneeaa", sum := "d54668b5182c049e9f84fdeb33f4f6459d8e7d3b270f4e704b6c28b835f7a9c5", func := "portmanteau/portmanteaulaw14.FieldOwners", spec := "fieldOwners", apart := false }
def FieldOwnersSaid : Prop := fieldOwnersRow.holds Try.pinned (OpenSpec.ofChange fieldOwnersSpec)

/-- ITS FALSE NEIGHBOUR: 'it returns false'. Refute it at one input. -/
def fieldOwnersWrong : ChangeSpec := { name := "fieldOwners", fn := fun _ => fun
  | [d1, d2, d3] => { results := [.lit (.bool false)], args := [d1, d2, d3] }
  | _ => none }
def FieldOwnersWrongFalsely : Prop := fieldOwnersRow.holds Try.pinned (OpenSpec.ofChange fieldOwnersWrong)

/-- 'portmanteaulaw14.FieldStamps': WHATEVER THE INPUT: true; the input reads as it did. -/
def fieldStampsSpec : ChangeSpec := { name := "fieldStamps", fn := fun _ => fun
  | [d1, d2, d3] => { results := [.lit (.bool true)], args := [d1, d2, d3] }
  | _ => none }
def fieldStampsRow : OpenClaim := { program := "ytloojhhjljneeaa", sum := "d54668b5182c049e9f84fdeb33f4f6459d8e7d3b270f4e704b6c28b835f7a9c5", func := "portmanteau/portmanteaulaw14.FieldStamps", spec := "fieldStamps", apart := false }
def FieldStampsSaid : Prop := fieldStampsRow.holds Try.pinned (OpenSpec.ofChange fieldStampsSpec)

/-- ITS FALSE NEIGHBOUR: 'it returns false'. Refute it at one input. -/
def fieldStampsWrong : ChangeSpec := { name := "fieldStamps", fn := fun _ => fun
  | [d1, d2, d3] => { results := [.lit (.bool false)], args := [d1, d2, d3] }
  | _ => none }
def FieldStampsWrongFalsely : Prop := fieldStampsRow.holds Try.pinned (OpenSpec.ofChange fieldStampsWrong)

/-- 'portmanteaulaw14.FieldWide': WHATEVER THE INPUT: true; the input reads as it did. -/
def fieldWideSpec : ChangeSpec := { name := "fieldWide", fn := fun _ => fun
  | [d1, d2, d3] => { results := [.lit (.bool true)], args := [d1, d2, d3] }
  | _ => none }
def fieldWideRow : OpenClaim := { program := "ytloojhhjljneeaa", sum := "d54668b5182c049e9f84fdeb33f4f6459d8e7d3b270f4e704b6c28b835f7a9c5", func := "portmanteau/portmanteaulaw14.FieldWide", spec := "fieldWide", apart := false }
def FieldWideSaid : Prop := fieldWideRow.holds Try.pinned (OpenSpec.ofChange fieldWideSpec)

/-- ITS FALSE NEIGHBOUR: 'it returns false'. Refute it at one input. -/
def fieldWideWrong : ChangeSpec := { name := "fieldWide", fn := fun _ => fun
  | [d1, d2, d3] => { results := [.lit (.bool false)], args := [d1, d2, d3] }
  | _ => none }
def FieldWideWrongFalsely : Prop := fieldWideRow.holds Try.pinned (OpenSpec.ofChange fieldWideWrong)

/- THE SECOND FORM. 'bulk': how many values and letters a reading holds, each counted each time it is reached (what is shared counts as often as it is met; a slice's spare places count too). A statement '..UptoSaid' is the law's where the arguments, and the package variables that the reading takes, are together of bulk at most 1048576: NARROWER than '..Said'. Prove '..Said' where nothing that the law and all that it calls make is longer than what came in: it says more and counts as full. Else prove '..UptoSaid'. A law counts once. -/
mutual
def uptoBulk {H : Type} : DataW H → Nat
  | .lit (.string bytes) => bytes.length + 1
  | .lit _ => 1
  | .nil => 1
  | .ptr d => uptoBulk d + 1
  | .slice elems spare => uptoBulkAll elems + uptoBulkAll spare + 1
  | .agg parts => uptoBulkAll parts + 1
  | .iface _ d => uptoBulk d + 1
  | .map entries => uptoBulkEntries entries + 1
  | .held _ => 1
def uptoBulkAll {H : Type} : List (DataW H) → Nat
  | [] => 0
  | d :: r => uptoBulk d + uptoBulkAll r
def uptoBulkEntries {H : Type} : List (Lit × DataW H) → Nat
  | [] => 0
  | x :: r => uptoBulkEntry x + uptoBulkEntries r
def uptoBulkEntry {H : Type} : Lit × DataW H → Nat
  | (.string bytes, d) => bytes.length + uptoBulk d + 1
  | (_, d) => uptoBulk d + 1
 end
def uptoSmall : (H : Type) → List (DataW H) → Bool := fun _ ds => decide (uptoBulkAll ds ≤ 1048576)
def OpenSpec.upto (s : _root_.Go.ChangeSpec) : _root_.Go.OpenSpec := { _root_.Go.OpenSpec.ofChange s with cond := some uptoSmall }

/-- 'portmanteaulaw14.FieldOwners', WHERE WHAT IT READS IS OF BULK AT MOST 1048576: true; the input reads as it did. -/
def fieldOwnersUptoRow : OpenClaim := { program := "ytloojhhjljneeaa", sum := "d54668b5182c049e9f84fdeb33f4f6459d8e7d3b270f4e704b6c28b835f7a9c5", func := "portmanteau/portmanteaulaw14.FieldOwners", spec := "fieldOwners", apart := false, narrowed := true }
def FieldOwnersUptoSaid : Prop := fieldOwnersUptoRow.holds Try.pinned (OpenSpec.upto fieldOwnersSpec)

/-- 'portmanteaulaw14.FieldStamps', WHERE WHAT IT READS IS OF BULK AT MOST 1048576: true; the input reads as it did. -/
def fieldStampsUptoRow : OpenClaim := { program := "ytloojhhjljneeaa", sum := "d54668b5182c049e9f84fdeb33f4f6459d8e7d3b270f4e704b6c28b835f7a9c5", func := "portmanteau/portmanteaulaw14.FieldStamps", spec := "fieldStamps", apart := false, narrowed := true }
def FieldStampsUptoSaid : Prop := fieldStampsUptoRow.holds Try.pinned (OpenSpec.upto fieldStampsSpec)

/-- 'portmanteaulaw14.FieldWide', WHERE WHAT IT READS IS OF BULK AT MOST 1048576: true; the input reads as it did. -/
def fieldWideUptoRow : OpenClaim := { program := "ytloojhhjljneeaa", sum := "d54668b5182c049e9f84fdeb33f4f6459d8e7d3b270f4e704b6c28b835f7a9c5", func := "portmanteau/portmanteaulaw14.FieldWide", spec := "fieldWide", apart := false, narrowed := true }
def FieldWideUptoSaid : Prop := fieldWideUptoRow.holds Try.pinned (OpenSpec.upto fieldWideSpec)

end Rows
end Go.Proofs.Ytloojhhjljneeaa
