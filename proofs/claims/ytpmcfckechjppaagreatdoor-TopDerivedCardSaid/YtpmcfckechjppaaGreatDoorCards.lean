/-
  DERIVED. GIVEN WITH THE SEED: THE CARDS: each row of YtpmcfckechjppaaGreatDoorRows.lean that lists a variable, with what it lists TIED to the program's text (the seventh form; the later family's looks); each row that meets fmt, with fmt's text TOLD by the authors' own Lean function (tested against real Go, not proved from fmt's source: count such statements apart). THE CARD IS WHAT COUNTS. Prove the row's statement (the work); the ties are given (YtpmcfckechjppaaGreatDoorTie.lean); close each card by the builder's one call (the guide's Derived/Test/ToyasCard.lean, 'card_holds'). Laid BY PROGRAM, IN A SANDBOX (cutbox-door.mjs). By AI agents, Wed Nov 11 2026. No macro, syntax, notation, axiom, sorry.
-/
import Derived.Test.YtpmcfckechjppaaGreatDoorRows
import GoSem.ClaimSeven
namespace Go.Proofs.YtpmcfckechjppaaGreatDoor
namespace Rows

/-- THE TIED CARD OF 'isoglosstop.TopDerived'. -/
def topDerivedCard : Claim7 := { stood := { row := topDerivedRow, standIns := [], harness := (true, "330a9edf758338890708efc67cc5e53f9c62f6d7c0a19ca1f2c4de6016962228"), looks := true }, kinds := [], alts := [], laidByText := true, laidKinds := [.data, .data, .data, .data, .handle, .data, .pinned], laidTests := true, laidLooks := .later }
def TopDerivedCardSaid : Prop := Claim7.holds Tryz.pinned (.plain (OpenSpec.ofChange topDerivedSpec)) topDerivedCard

/-- THE TIED CARD OF 'isoglosstop.TopParse'. -/
def topParseCard : Claim7 := { stood := { row := topParseRow, standIns := [], harness := (true, "330a9edf758338890708efc67cc5e53f9c62f6d7c0a19ca1f2c4de6016962228"), looks := true }, kinds := [], alts := [], laidByText := true, laidKinds := [.data, .data, .data, .data, .handle, .data, .pinned], laidTests := true, laidLooks := .later }
def TopParseCardSaid : Prop := Claim7.holds Tryz.pinned (.plain (OpenSpec.ofChange topParseSpec)) topParseCard

/-- THE TIED CARD OF 'isoglosstop.TopLookup'. -/
def topLookupCard : Claim7 := { stood := { row := topLookupRow, standIns := [], harness := (true, "330a9edf758338890708efc67cc5e53f9c62f6d7c0a19ca1f2c4de6016962228"), looks := true }, kinds := [], alts := [], laidByText := true, laidKinds := [.data, .data, .data, .data, .handle, .data, .pinned], laidTests := true, laidLooks := .later }
def TopLookupCardSaid : Prop := Claim7.holds Tryz.pinned (.plain (OpenSpec.ofChange topLookupSpec)) topLookupCard

/-- THE SECOND FORM's CARD OF 'isoglosstop.TopDerived'. -/
def topDerivedUptoCard : Claim7 := { stood := { row := topDerivedUptoRow, standIns := [], harness := (true, "330a9edf758338890708efc67cc5e53f9c62f6d7c0a19ca1f2c4de6016962228"), looks := true }, kinds := [], alts := [], laidByText := true, laidKinds := [.data, .data, .data, .data, .handle, .data, .pinned], laidTests := true, laidLooks := .later }
def TopDerivedUptoCardSaid : Prop := Claim7.holds Tryz.pinned (.plain (OpenSpec.upto topDerivedSpec)) topDerivedUptoCard

/-- THE SECOND FORM's CARD OF 'isoglosstop.TopParse'. -/
def topParseUptoCard : Claim7 := { stood := { row := topParseUptoRow, standIns := [], harness := (true, "330a9edf758338890708efc67cc5e53f9c62f6d7c0a19ca1f2c4de6016962228"), looks := true }, kinds := [], alts := [], laidByText := true, laidKinds := [.data, .data, .data, .data, .handle, .data, .pinned], laidTests := true, laidLooks := .later }
def TopParseUptoCardSaid : Prop := Claim7.holds Tryz.pinned (.plain (OpenSpec.upto topParseSpec)) topParseUptoCard

/-- THE SECOND FORM's CARD OF 'isoglosstop.TopLookup'. -/
def topLookupUptoCard : Claim7 := { stood := { row := topLookupUptoRow, standIns := [], harness := (true, "330a9edf758338890708efc67cc5e53f9c62f6d7c0a19ca1f2c4de6016962228"), looks := true }, kinds := [], alts := [], laidByText := true, laidKinds := [.data, .data, .data, .data, .handle, .data, .pinned], laidTests := true, laidLooks := .later }
def TopLookupUptoCardSaid : Prop := Claim7.holds Tryz.pinned (.plain (OpenSpec.upto topLookupSpec)) topLookupUptoCard
end Rows
end Go.Proofs.YtpmcfckechjppaaGreatDoor
