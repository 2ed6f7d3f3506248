/-
  DERIVED. GIVEN WITH THE SEED: THE CARDS: each row of YtpolblaahifjiaaDoorRows.lean that lists a variable, with what it lists TIED to the program's text (the seventh form; the later family's looks); each row that meets fmt, with fmt's text TOLD by the authors' own Lean function (tested against real Go, not proved from fmt's source: count such statements apart). THE CARD IS WHAT COUNTS. Prove the row's statement (the work); the ties are given (YtpolblaahifjiaaDoorTie.lean); close each card by the builder's one call (the guide's Derived/Test/ToyasCard.lean, 'card_holds'). Laid BY PROGRAM, IN A SANDBOX (cutbox-door.mjs). By AI agents, Wed Nov 11 2026. No macro, syntax, notation, axiom, sorry.
-/
import Derived.Test.YtpolblaahifjiaaDoorRows
import GoSem.ClaimSeven
namespace Go.Proofs.YtpolblaahifjiaaDoor
namespace Rows

/-- THE TIED CARD OF 'portmanteaulaw12.StampTexts'. -/
def stampTextsCard : Claim7 := { stood := { row := stampTextsRow, standIns := [], harness := (true, "75167db9cd9824a812c0c2a90949a2caa9554ce45672dda8edf809baa176cc3e"), looks := false }, kinds := [], alts := [], laidByText := true, laidKinds := [.data, .data, .data], laidTests := true, laidLooks := .later }
def StampTextsCardSaid : Prop := Claim7.holds Tryd.pinned (.plain (OpenSpec.ofChange stampTextsSpec)) stampTextsCard

/-- THE TIED CARD OF 'portmanteaulaw12.StampOrder'. -/
def stampOrderCard : Claim7 := { stood := { row := stampOrderRow, standIns := [], harness := (true, "75167db9cd9824a812c0c2a90949a2caa9554ce45672dda8edf809baa176cc3e"), looks := false }, kinds := [], alts := [], laidByText := true, laidKinds := [.data, .data, .data], laidTests := true, laidLooks := .later }
def StampOrderCardSaid : Prop := Claim7.holds Tryd.pinned (.plain (OpenSpec.ofChange stampOrderSpec)) stampOrderCard

/-- THE TIED CARD OF 'portmanteaulaw12.StampDates'. -/
def stampDatesCard : Claim7 := { stood := { row := stampDatesRow, standIns := [], harness := (true, "75167db9cd9824a812c0c2a90949a2caa9554ce45672dda8edf809baa176cc3e"), looks := false }, kinds := [], alts := [], laidByText := true, laidKinds := [.data, .data, .data], laidTests := true, laidLooks := .later }
def StampDatesCardSaid : Prop := Claim7.holds Tryd.pinned (.plain (OpenSpec.ofChange stampDatesSpec)) stampDatesCard

/-- THE TIED CARD OF 'portmanteaulaw12.StampBack'. -/
def stampBackCard : Claim7 := { stood := { row := stampBackRow, standIns := [], harness := (true, "75167db9cd9824a812c0c2a90949a2caa9554ce45672dda8edf809baa176cc3e"), looks := false }, kinds := [], alts := [], laidByText := true, laidKinds := [.data, .data, .data], laidTests := true, laidLooks := .later }
def StampBackCardSaid : Prop := Claim7.holds Tryd.pinned (.plain (OpenSpec.ofChange stampBackSpec)) stampBackCard

/-- THE TIED CARD OF 'portmanteaulaw12.StampDOS'. -/
def stampDOSCard : Claim7 := { stood := { row := stampDOSRow, standIns := [], harness := (true, "75167db9cd9824a812c0c2a90949a2caa9554ce45672dda8edf809baa176cc3e"), looks := false }, kinds := [], alts := [], laidByText := true, laidKinds := [.data, .data, .data], laidTests := true, laidLooks := .later }
def StampDOSCardSaid : Prop := Claim7.holds Tryd.pinned (.plain (OpenSpec.ofChange stampDOSSpec)) stampDOSCard

/-- THE SECOND FORM's CARD OF 'portmanteaulaw12.StampTexts'. -/
def stampTextsUptoCard : Claim7 := { stood := { row := stampTextsUptoRow, standIns := [], harness := (true, "75167db9cd9824a812c0c2a90949a2caa9554ce45672dda8edf809baa176cc3e"), looks := false }, kinds := [], alts := [], laidByText := true, laidKinds := [.data, .data, .data], laidTests := true, laidLooks := .later }
def StampTextsUptoCardSaid : Prop := Claim7.holds Tryd.pinned (.plain (OpenSpec.upto stampTextsSpec)) stampTextsUptoCard

/-- THE SECOND FORM's CARD OF 'portmanteaulaw12.StampOrder'. -/
def stampOrderUptoCard : Claim7 := { stood := { row := stampOrderUptoRow, standIns := [], harness := (true, "75167db9cd9824a812c0c2a90949a2caa9554ce45672dda8edf809baa176cc3e"), looks := false }, kinds := [], alts := [], laidByText := true, laidKinds := [.data, .data, .data], laidTests := true, laidLooks := .later }
def StampOrderUptoCardSaid : Prop := Claim7.holds Tryd.pinned (.plain (OpenSpec.upto stampOrderSpec)) stampOrderUptoCard

/-- THE SECOND FORM's CARD OF 'portmanteaulaw12.StampDates'. -/
def stampDatesUptoCard : Claim7 := { stood := { row := stampDatesUptoRow, standIns := [], harness := (true, "75167db9cd9824a812c0c2a90949a2caa9554ce45672dda8edf809baa176cc3e"), looks := false }, kinds := [], alts := [], laidByText := true, laidKinds := [.data, .data, .data], laidTests := true, laidLooks := .later }
def StampDatesUptoCardSaid : Prop := Claim7.holds Tryd.pinned (.plain (OpenSpec.upto stampDatesSpec)) stampDatesUptoCard

/-- THE SECOND FORM's CARD OF 'portmanteaulaw12.StampBack'. -/
def stampBackUptoCard : Claim7 := { stood := { row := stampBackUptoRow, standIns := [], harness := (true, "75167db9cd9824a812c0c2a90949a2caa9554ce45672dda8edf809baa176cc3e"), looks := false }, kinds := [], alts := [], laidByText := true, laidKinds := [.data, .data, .data], laidTests := true, laidLooks := .later }
def StampBackUptoCardSaid : Prop := Claim7.holds Tryd.pinned (.plain (OpenSpec.upto stampBackSpec)) stampBackUptoCard

/-- THE SECOND FORM's CARD OF 'portmanteaulaw12.StampDOS'. -/
def stampDOSUptoCard : Claim7 := { stood := { row := stampDOSUptoRow, standIns := [], harness := (true, "75167db9cd9824a812c0c2a90949a2caa9554ce45672dda8edf809baa176cc3e"), looks := false }, kinds := [], alts := [], laidByText := true, laidKinds := [.data, .data, .data], laidTests := true, laidLooks := .later }
def StampDOSUptoCardSaid : Prop := Claim7.holds Tryd.pinned (.plain (OpenSpec.upto stampDOSSpec)) stampDOSUptoCard
end Rows
end Go.Proofs.YtpolblaahifjiaaDoor
