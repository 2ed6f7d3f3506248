/-
  DERIVED. GIVEN WITH THE SEED: THE CARDS: each row of YtloojhhjljneeaaDoorRows.lean that lists a variable, with what it lists TIED to the program's text (the seventh form; the later family's looks); each row that meets fmt, with fmt's text TOLD by the authors' own Lean function (tested against real Go, not proved from fmt's source: count such statements apart). THE CARD IS WHAT COUNTS. Prove the row's statement (the work); the ties are given (YtloojhhjljneeaaDoorTie.lean); close each card by the builder's one call (the guide's Derived/Test/ToyasCard.lean, 'card_holds'). Laid BY PROGRAM, IN A SANDBOX (cutbox-door.mjs). By AI agents, Wed Nov 11 2026. No macro, syntax, notation, axiom, sorry.
-/
import Derived.Test.YtloojhhjljneeaaDoorRows
import GoSem.ClaimSeven
namespace Go.Proofs.YtloojhhjljneeaaDoor
namespace Rows

/-- THE TIED CARD OF 'portmanteaulaw14.FieldPaths'. -/
def fieldPathsCard : Claim7 := { stood := { row := fieldPathsRow, standIns := [], harness := (true, "8bdb0d8fdb0a437ee36645265d4173e4244003aa33c57cf49aebbaf54d283cae"), looks := false }, kinds := [], alts := [], laidByText := true, laidKinds := [.data, .pinned], laidTests := true, laidLooks := .later }
def FieldPathsCardSaid : Prop := Claim7.holds Tryd.pinned (.plain (OpenSpec.ofChange fieldPathsSpec)) fieldPathsCard

/-- THE TIED CARD OF 'portmanteaulaw14.FieldBack'. -/
def fieldBackCard : Claim7 := { stood := { row := fieldBackRow, standIns := [], harness := (true, "8bdb0d8fdb0a437ee36645265d4173e4244003aa33c57cf49aebbaf54d283cae"), looks := false }, kinds := [], alts := [], laidByText := true, laidKinds := [.data, .pinned], laidTests := true, laidLooks := .later }
def FieldBackCardSaid : Prop := Claim7.holds Tryd.pinned (.plain (OpenSpec.ofChange fieldBackSpec)) fieldBackCard

/-- THE SECOND FORM's CARD OF 'portmanteaulaw14.FieldPaths'. -/
def fieldPathsUptoCard : Claim7 := { stood := { row := fieldPathsUptoRow, standIns := [], harness := (true, "8bdb0d8fdb0a437ee36645265d4173e4244003aa33c57cf49aebbaf54d283cae"), looks := false }, kinds := [], alts := [], laidByText := true, laidKinds := [.data, .pinned], laidTests := true, laidLooks := .later }
def FieldPathsUptoCardSaid : Prop := Claim7.holds Tryd.pinned (.plain (OpenSpec.upto fieldPathsSpec)) fieldPathsUptoCard

/-- THE SECOND FORM's CARD OF 'portmanteaulaw14.FieldBack'. -/
def fieldBackUptoCard : Claim7 := { stood := { row := fieldBackUptoRow, standIns := [], harness := (true, "8bdb0d8fdb0a437ee36645265d4173e4244003aa33c57cf49aebbaf54d283cae"), looks := false }, kinds := [], alts := [], laidByText := true, laidKinds := [.data, .pinned], laidTests := true, laidLooks := .later }
def FieldBackUptoCardSaid : Prop := Claim7.holds Tryd.pinned (.plain (OpenSpec.upto fieldBackSpec)) fieldBackUptoCard
end Rows
end Go.Proofs.YtloojhhjljneeaaDoor
