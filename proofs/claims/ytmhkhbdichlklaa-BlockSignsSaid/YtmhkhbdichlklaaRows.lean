/-
  No cell of these rows narrows 'for every input' (looked for: loops, veiled, ifaces, maps, wideKeys, modest, calm, conditions, laid).
  DERIVED. THE GIVEN ROWS OF THIS SEAT. 4 by the template 'for every input the law returns true; each argument reads behind the call as it read before'; 0 by the template 'total and deterministic' (their statements: YtmhkhbdichlklaaTotals.lean).
  GIVEN WITH THE SEED: the statements are not yours to turn. If you find one false, say at which input.
  Laid BY PROGRAM, IN A SANDBOX (cutbox-rows.mjs): the forced cells as the released guide's own fill.sh prints them over the translation f5587b541fc4359a… (all of the seat's roots in one cut). By AI agents, Wed Nov 11 2026. No macro, syntax, notation, axiom, sorry.
-/
import Derived.Test.YtmhkhbdichlklaaChecked
import GoSem.Claim
import GoSem.ClaimJoined
import GoSem.ClaimMapViews
import Derived.JoinedTies
import Derived.KernelRfl
namespace Go.Proofs.Ytmhkhbdichlklaa
/- THE CELL 'sum', in the pinned program and in every row, IS THE sha256 OF THE DUMP (.gsa) THAT YtmhkhbdichlklaaProg.lean LOADS. Nothing in Lean hashes anything: it is a label: what it is worth is what the hold of that sum in a sandbox is worth. -/
noncomputable def Try.pinned : Pinned := { name := "ytmhkhbdichlklaa", sum := "f5587b541fc4359a86c47896ea83f81cc7a345b60b86f5ecc1613200d623229b", checked := Try.checked }
namespace Rows
def none {H : Type} : Left H := { results := [], args := [] }

/-- 'portmanteaulaw08.BlockSigns': WHATEVER THE INPUT: true; the input reads as it did. -/
def blockSignsSpec : ChangeSpec := { name := "blockSigns", fn := fun _ => fun
  | [d1, d2] => { results := [.lit (.bool true)], args := [d1, d2] }
  | _ => none }
def blockSignsRow : OpenClaim := { program := "ytmhkhbdichlklaa", sum := "f5587b541fc4359a86c47896ea83f81cc7a345b60b86f5ecc1613200d623229b", func := "portmanteau/portmanteaulaw08.BlockSigns", spec := "blockSigns", plainKeys := false, apart := false }
def BlockSignsSaid : Prop := blockSignsRow.holds Try.pinned (OpenSpec.ofChange blockSignsSpec)

/-- ITS FALSE NEIGHBOUR: 'it returns false'. Refute it at one input. -/
def blockSignsWrong : ChangeSpec := { name := "blockSigns", fn := fun _ => fun
  | [d1, d2] => { results := [.lit (.bool false)], args := [d1, d2] }
  | _ => none }
def BlockSignsWrongFalsely : Prop := blockSignsRow.holds Try.pinned (OpenSpec.ofChange blockSignsWrong)

/-- 'portmanteaulaw08.BlockShort': WHATEVER THE INPUT: true; the input reads as it did. -/
def blockShortSpec : ChangeSpec := { name := "blockShort", fn := fun _ => fun
  | [d] => { results := [.lit (.bool true)], args := [d] }
  | _ => none }
def blockShortRow : OpenClaim := { program := "ytmhkhbdichlklaa", sum := "f5587b541fc4359a86c47896ea83f81cc7a345b60b86f5ecc1613200d623229b", func := "portmanteau/portmanteaulaw08.BlockShort", spec := "blockShort", unfollowed := true, recurses := true, plainKeys := false, apart := false }
def BlockShortSaid : Prop := blockShortRow.holds Try.pinned (OpenSpec.ofChange blockShortSpec)

/-- ITS FALSE NEIGHBOUR: 'it returns false'. Refute it at one input. -/
def blockShortWrong : ChangeSpec := { name := "blockShort", fn := fun _ => fun
  | [d] => { results := [.lit (.bool false)], args := [d] }
  | _ => none }
def BlockShortWrongFalsely : Prop := blockShortRow.holds Try.pinned (OpenSpec.ofChange blockShortWrong)

/-- 'portmanteaulaw08.BlockReads': WHATEVER THE INPUT: true; the input reads as it did. -/
def blockReadsSpec : ChangeSpec := { name := "blockReads", fn := fun _ => fun
  | [d1, d2, d3] => { results := [.lit (.bool true)], args := [d1, d2, d3] }
  | _ => none }
def blockReadsRow : OpenClaim := { program := "ytmhkhbdichlklaa", sum := "f5587b541fc4359a86c47896ea83f81cc7a345b60b86f5ecc1613200d623229b", func := "portmanteau/portmanteaulaw08.BlockReads", spec := "blockReads", unfollowed := true, recurses := true, plainKeys := false, apart := false }
def BlockReadsSaid : Prop := blockReadsRow.holds Try.pinned (OpenSpec.ofChange blockReadsSpec)

/-- ITS FALSE NEIGHBOUR: 'it returns false'. Refute it at one input. -/
def blockReadsWrong : ChangeSpec := { name := "blockReads", fn := fun _ => fun
  | [d1, d2, d3] => { results := [.lit (.bool false)], args := [d1, d2, d3] }
  | _ => none }
def BlockReadsWrongFalsely : Prop := blockReadsRow.holds Try.pinned (OpenSpec.ofChange blockReadsWrong)

/-- 'portmanteaulaw08.BlockSizes': WHATEVER THE INPUT: true; the input reads as it did. -/
def blockSizesSpec : ChangeSpec := { name := "blockSizes", fn := fun _ => fun
  | [d1, d2, d3, d4] => { results := [.lit (.bool true)], args := [d1, d2, d3, d4] }
  | _ => none }
def blockSizesRow : OpenClaim := { program := "ytmhkhbdichlklaa", sum := "f5587b541fc4359a86c47896ea83f81cc7a345b60b86f5ecc1613200d623229b", func := "portmanteau/portmanteaulaw08.BlockSizes", spec := "blockSizes", unfollowed := true, recurses := true, plainKeys := false, apart := false }
def BlockSizesSaid : Prop := blockSizesRow.holds Try.pinned (OpenSpec.ofChange blockSizesSpec)

/-- ITS FALSE NEIGHBOUR: 'it returns false'. Refute it at one input. -/
def blockSizesWrong : ChangeSpec := { name := "blockSizes", fn := fun _ => fun
  | [d1, d2, d3, d4] => { results := [.lit (.bool false)], args := [d1, d2, d3, d4] }
  | _ => none }
def BlockSizesWrongFalsely : Prop := blockSizesRow.holds Try.pinned (OpenSpec.ofChange blockSizesWrong)

/- THE SECOND FORM. 'bulk': how many values and letters a reading holds, each counted each time it is reached (what is shared counts as often as it is met; a slice's spare places count too). A statement '..UptoSaid' is the law's where the arguments, and the package variables that the reading takes, are together of bulk at most 1048576: NARROWER than '..Said'. Prove '..Said' where nothing that the law and all that it calls make is longer than what came in: it says more and counts as full. Else prove '..UptoSaid'. A law counts once. -/
mutual
def uptoBulk {H : Type} : DataW H → Nat
  | .lit (.string bytes) => bytes.length + 1
  | .lit _ => 1
  | .nil => 1
  | .ptr d => uptoBulk d + 1
  | .slice elems spare => uptoBulkAll elems + uptoBulkAll spare + 1
  | .agg parts => uptoBulkAll parts + 1
  | .iface _ d => uptoBulk d + 1
  | .map entries => uptoBulkEntries entries + 1
  | .held _ => 1
def uptoBulkAll {H : Type} : List (DataW H) → Nat
  | [] => 0
  | d :: r => uptoBulk d + uptoBulkAll r
def uptoBulkEntries {H : Type} : List (Lit × DataW H) → Nat
  | [] => 0
  | x :: r => uptoBulkEntry x + uptoBulkEntries r
def uptoBulkEntry {H : Type} : Lit × DataW H → Nat
  | (.string bytes, d) => bytes.length + uptoBulk d + 1
  | (_, d) => uptoBulk d + 1
 end
def uptoSmall : (H : Type) → List (DataW H) → Bool := fun _ ds => decide (uptoBulkAll ds ≤ 1048576)
def OpenSpec.upto (s : _root_.Go.ChangeSpec) : _root_.Go.OpenSpec := { _root_.Go.OpenSpec.ofChange s with cond := some uptoSmall }

/-- 'portmanteaulaw08.BlockSigns', WHERE WHAT IT READS IS OF BULK AT MOST 1048576: true; the input reads as it did. -/
def blockSignsUptoRow : OpenClaim := { program := "ytmhkhbdichlklaa", sum := "f5587b541fc4359a86c47896ea83f81cc7a345b60b86f5ecc1613200d623229b", func := "portmanteau/portmanteaulaw08.BlockSigns", spec := "blockSigns", plainKeys := false, apart := false, narrowed := true }
def BlockSignsUptoSaid : Prop := blockSignsUptoRow.holds Try.pinned (OpenSpec.upto blockSignsSpec)

/-- 'portmanteaulaw08.BlockShort', WHERE WHAT IT READS IS OF BULK AT MOST 1048576: true; the input reads as it did. -/
def blockShortUptoRow : OpenClaim := { program := "ytmhkhbdichlklaa", sum := "f5587b541fc4359a86c47896ea83f81cc7a345b60b86f5ecc1613200d623229b", func := "portmanteau/portmanteaulaw08.BlockShort", spec := "blockShort", unfollowed := true, recurses := true, plainKeys := false, apart := false, narrowed := true }
def BlockShortUptoSaid : Prop := blockShortUptoRow.holds Try.pinned (OpenSpec.upto blockShortSpec)

/-- 'portmanteaulaw08.BlockReads', WHERE WHAT IT READS IS OF BULK AT MOST 1048576: true; the input reads as it did. -/
def blockReadsUptoRow : OpenClaim := { program := "ytmhkhbdichlklaa", sum := "f5587b541fc4359a86c47896ea83f81cc7a345b60b86f5ecc1613200d623229b", func := "portmanteau/portmanteaulaw08.BlockReads", spec := "blockReads", unfollowed := true, recurses := true, plainKeys := false, apart := false, narrowed := true }
def BlockReadsUptoSaid : Prop := blockReadsUptoRow.holds Try.pinned (OpenSpec.upto blockReadsSpec)

/-- 'portmanteaulaw08.BlockSizes', WHERE WHAT IT READS IS OF BULK AT MOST 1048576: true; the input reads as it did. -/
def blockSizesUptoRow : OpenClaim := { program := "ytmhkhbdichlklaa", sum := "f5587b541fc4359a86c47896ea83f81cc7a345b60b86f5ecc1613200d623229b", func := "portmanteau/portmanteaulaw08.BlockSizes", spec := "blockSizes", unfollowed := true, recurses := true, plainKeys := false, apart := false, narrowed := true }
def BlockSizesUptoSaid : Prop := blockSizesUptoRow.holds Try.pinned (OpenSpec.upto blockSizesSpec)

end Rows
end Go.Proofs.Ytmhkhbdichlklaa
