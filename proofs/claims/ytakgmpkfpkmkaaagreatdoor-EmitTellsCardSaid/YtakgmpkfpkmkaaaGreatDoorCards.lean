/-
  DERIVED. GIVEN WITH THE SEED: THE CARDS: each row of YtakgmpkfpkmkaaaGreatDoorRows.lean that lists a variable, with what it lists TIED to the program's text (the seventh form; the later family's looks); each row that meets fmt, with fmt's text TOLD by the authors' own Lean function (tested against real Go, not proved from fmt's source: count such statements apart). THE CARD IS WHAT COUNTS. Prove the row's statement (the work); the ties are given (YtakgmpkfpkmkaaaGreatDoorTie.lean); close each card by the builder's one call (the guide's Derived/Test/ToyasCard.lean, 'card_holds'). Laid BY PROGRAM, IN A SANDBOX (cutbox-door.mjs). By AI agents, Wed Nov 11 2026. No macro, syntax, notation, axiom, sorry.
-/
import Derived.Test.YtakgmpkfpkmkaaaGreatDoorRows
import GoSem.ClaimSeven
namespace Go.Proofs.YtakgmpkfpkmkaaaGreatDoor
namespace Rows

/-- THE TIED CARD OF 'sigillarylaw13.EmitTells'. -/
def emitTellsCard : Claim7 := { stood := { row := emitTellsRow, standIns := [], harness := (true, "c00f1d3f213d7c2a8943e706f218079287ecbb0ab0d15d0fab049e9d81d63326"), looks := true }, kinds := [], alts := [], laidByText := true, laidKinds := [.data, .data, .data, .data, .handle, .pinned], laidTests := true, laidLooks := .later }
def EmitTellsCardSaid : Prop := Claim7.holds Tryz.pinned (.plain (OpenSpec.ofChange emitTellsSpec)) emitTellsCard

/-- THE TIED CARD OF 'sigillarylaw13.EmitLines'. -/
def emitLinesCard : Claim7 := { stood := { row := emitLinesRow, standIns := [], harness := (true, "c00f1d3f213d7c2a8943e706f218079287ecbb0ab0d15d0fab049e9d81d63326"), looks := true }, kinds := [], alts := [], laidByText := true, laidKinds := [.data, .data, .data, .data, .handle, .pinned], laidTests := true, laidLooks := .later }
def EmitLinesCardSaid : Prop := Claim7.holds Tryz.pinned (.plain (OpenSpec.ofChange emitLinesSpec)) emitLinesCard

/-- THE TIED CARD OF 'sigillarylaw13.EmitItems'. -/
def emitItemsCard : Claim7 := { stood := { row := emitItemsRow, standIns := [], harness := (true, "c00f1d3f213d7c2a8943e706f218079287ecbb0ab0d15d0fab049e9d81d63326"), looks := true }, kinds := [], alts := [], laidByText := true, laidKinds := [.data, .data, .data, .data, .handle, .pinned], laidTests := true, laidLooks := .later }
def EmitItemsCardSaid : Prop := Claim7.holds Tryz.pinned (.plain (OpenSpec.ofChange emitItemsSpec)) emitItemsCard

/-- THE TIED CARD OF 'sigillarylaw13.EmitScalars'. -/
def emitScalarsCard : Claim7 := { stood := { row := emitScalarsRow, standIns := [], harness := (true, "c00f1d3f213d7c2a8943e706f218079287ecbb0ab0d15d0fab049e9d81d63326"), looks := true }, kinds := [], alts := [], laidByText := true, laidKinds := [.data, .data, .data, .data, .handle, .pinned], laidTests := true, laidLooks := .later }
def EmitScalarsCardSaid : Prop := Claim7.holds Tryz.pinned (.plain (OpenSpec.ofChange emitScalarsSpec)) emitScalarsCard

/-- THE TIED CARD OF 'sigillarylaw13.EmitNames'. -/
def emitNamesCard : Claim7 := { stood := { row := emitNamesRow, standIns := [], harness := (true, "c00f1d3f213d7c2a8943e706f218079287ecbb0ab0d15d0fab049e9d81d63326"), looks := true }, kinds := [], alts := [], laidByText := true, laidKinds := [.data, .data, .data, .data, .handle, .pinned], laidTests := true, laidLooks := .later }
def EmitNamesCardSaid : Prop := Claim7.holds Tryz.pinned (.plain (OpenSpec.ofChange emitNamesSpec)) emitNamesCard

/-- THE TIED CARD OF 'sigillarylaw13.EmitSame'. -/
def emitSameCard : Claim7 := { stood := { row := emitSameRow, standIns := [], harness := (true, "c00f1d3f213d7c2a8943e706f218079287ecbb0ab0d15d0fab049e9d81d63326"), looks := true }, kinds := [], alts := [], laidByText := true, laidKinds := [.data, .data, .data, .data, .handle, .pinned], laidTests := true, laidLooks := .later }
def EmitSameCardSaid : Prop := Claim7.holds Tryz.pinned (.plain (OpenSpec.ofChange emitSameSpec)) emitSameCard

/-- THE SECOND FORM's CARD OF 'sigillarylaw13.EmitTells'. -/
def emitTellsUptoCard : Claim7 := { stood := { row := emitTellsUptoRow, standIns := [], harness := (true, "c00f1d3f213d7c2a8943e706f218079287ecbb0ab0d15d0fab049e9d81d63326"), looks := true }, kinds := [], alts := [], laidByText := true, laidKinds := [.data, .data, .data, .data, .handle, .pinned], laidTests := true, laidLooks := .later }
def EmitTellsUptoCardSaid : Prop := Claim7.holds Tryz.pinned (.plain (OpenSpec.upto emitTellsSpec)) emitTellsUptoCard

/-- THE SECOND FORM's CARD OF 'sigillarylaw13.EmitLines'. -/
def emitLinesUptoCard : Claim7 := { stood := { row := emitLinesUptoRow, standIns := [], harness := (true, "c00f1d3f213d7c2a8943e706f218079287ecbb0ab0d15d0fab049e9d81d63326"), looks := true }, kinds := [], alts := [], laidByText := true, laidKinds := [.data, .data, .data, .data, .handle, .pinned], laidTests := true, laidLooks := .later }
def EmitLinesUptoCardSaid : Prop := Claim7.holds Tryz.pinned (.plain (OpenSpec.upto emitLinesSpec)) emitLinesUptoCard

/-- THE SECOND FORM's CARD OF 'sigillarylaw13.EmitItems'. -/
def emitItemsUptoCard : Claim7 := { stood := { row := emitItemsUptoRow, standIns := [], harness := (true, "c00f1d3f213d7c2a8943e706f218079287ecbb0ab0d15d0fab049e9d81d63326"), looks := true }, kinds := [], alts := [], laidByText := true, laidKinds := [.data, .data, .data, .data, .handle, .pinned], laidTests := true, laidLooks := .later }
def EmitItemsUptoCardSaid : Prop := Claim7.holds Tryz.pinned (.plain (OpenSpec.upto emitItemsSpec)) emitItemsUptoCard

/-- THE SECOND FORM's CARD OF 'sigillarylaw13.EmitScalars'. -/
def emitScalarsUptoCard : Claim7 := { stood := { row := emitScalarsUptoRow, standIns := [], harness := (true, "c00f1d3f213d7c2a8943e706f218079287ecbb0ab0d15d0fab049e9d81d63326"), looks := true }, kinds := [], alts := [], laidByText := true, laidKinds := [.data, .data, .data, .data, .handle, .pinned], laidTests := true, laidLooks := .later }
def EmitScalarsUptoCardSaid : Prop := Claim7.holds Tryz.pinned (.plain (OpenSpec.upto emitScalarsSpec)) emitScalarsUptoCard

/-- THE SECOND FORM's CARD OF 'sigillarylaw13.EmitNames'. -/
def emitNamesUptoCard : Claim7 := { stood := { row := emitNamesUptoRow, standIns := [], harness := (true, "c00f1d3f213d7c2a8943e706f218079287ecbb0ab0d15d0fab049e9d81d63326"), looks := true }, kinds := [], alts := [], laidByText := true, laidKinds := [.data, .data, .data, .data, .handle, .pinned], laidTests := true, laidLooks := .later }
def EmitNamesUptoCardSaid : Prop := Claim7.holds Tryz.pinned (.plain (OpenSpec.upto emitNamesSpec)) emitNamesUptoCard

/-- THE SECOND FORM's CARD OF 'sigillarylaw13.EmitSame'. -/
def emitSameUptoCard : Claim7 := { stood := { row := emitSameUptoRow, standIns := [], harness := (true, "c00f1d3f213d7c2a8943e706f218079287ecbb0ab0d15d0fab049e9d81d63326"), looks := true }, kinds := [], alts := [], laidByText := true, laidKinds := [.data, .data, .data, .data, .handle, .pinned], laidTests := true, laidLooks := .later }
def EmitSameUptoCardSaid : Prop := Claim7.holds Tryz.pinned (.plain (OpenSpec.upto emitSameSpec)) emitSameUptoCard
end Rows
end Go.Proofs.YtakgmpkfpkmkaaaGreatDoor
