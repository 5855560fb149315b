/-
  DERIVED. GIVEN WITH THE SEED: THE CARDS: each row of YtiklocoaghcliaaGreatDoorRows.lean that lists a variable, with what it lists TIED to the program's text (the seventh form; the later family's looks); each row that meets fmt, with fmt's text TOLD by the authors' own Lean function (tested against real Go, not proved from fmt's source: count such statements apart). THE CARD IS WHAT COUNTS. Prove the row's statement (the work); the ties are given (YtiklocoaghcliaaGreatDoorTie.lean); close each card by the builder's one call (the guide's Derived/Test/ToyasCard.lean, 'card_holds'). Laid BY PROGRAM, IN A SANDBOX (cutbox-door.mjs). By AI agents, Wed Nov 11 2026. No macro, syntax, notation, axiom, sorry.
-/
import Derived.Test.YtiklocoaghcliaaGreatDoorRows
import GoSem.ClaimSeven
namespace Go.Proofs.YtiklocoaghcliaaGreatDoor
namespace Rows

/-- THE TIED CARD OF 'sigillarylaw18.ComposeTrees'. -/
def composeTreesCard : Claim7 := { stood := { row := composeTreesRow, standIns := [], harness := (true, "52be0757eede980cc65cb1e63201a83bec6db2b4969c706cdb70f2318f51f9c1"), looks := true }, kinds := [], alts := [], laidByText := true, laidKinds := [.data, .data, .data, .data, .handle, .sentinel, .pinned], laidTests := true, laidLooks := .later }
def ComposeTreesCardSaid : Prop := Claim7.holds Tryz.pinned (.plain (OpenSpec.ofChange composeTreesSpec)) composeTreesCard

/-- THE TIED CARD OF 'sigillarylaw18.ComposeNames'. -/
def composeNamesCard : Claim7 := { stood := { row := composeNamesRow, standIns := [], harness := (true, "52be0757eede980cc65cb1e63201a83bec6db2b4969c706cdb70f2318f51f9c1"), looks := true }, kinds := [], alts := [], laidByText := true, laidKinds := [.data, .data, .data, .data, .handle, .sentinel, .pinned], laidTests := true, laidLooks := .later }
def ComposeNamesCardSaid : Prop := Claim7.holds Tryz.pinned (.plain (OpenSpec.ofChange composeNamesSpec)) composeNamesCard

/-- THE TIED CARD OF 'sigillarylaw18.ComposeWraps'. -/
def composeWrapsCard : Claim7 := { stood := { row := composeWrapsRow, standIns := [], harness := (true, "52be0757eede980cc65cb1e63201a83bec6db2b4969c706cdb70f2318f51f9c1"), looks := true }, kinds := [], alts := [], laidByText := true, laidKinds := [.data, .data, .data, .data, .handle, .sentinel, .pinned], laidTests := true, laidLooks := .later }
def ComposeWrapsCardSaid : Prop := Claim7.holds Tryz.pinned (.plain (OpenSpec.ofChange composeWrapsSpec)) composeWrapsCard

/-- THE TIED CARD OF 'sigillarylaw18.ComposeTwice'. -/
def composeTwiceCard : Claim7 := { stood := { row := composeTwiceRow, standIns := [], harness := (true, "52be0757eede980cc65cb1e63201a83bec6db2b4969c706cdb70f2318f51f9c1"), looks := true }, kinds := [], alts := [], laidByText := true, laidKinds := [.data, .data, .data, .data, .handle, .sentinel, .pinned], laidTests := true, laidLooks := .later }
def ComposeTwiceCardSaid : Prop := Claim7.holds Tryz.pinned (.plain (OpenSpec.ofChange composeTwiceSpec)) composeTwiceCard

/-- THE TIED CARD OF 'sigillarylaw18.ComposeRight'. -/
def composeRightCard : Claim7 := { stood := { row := composeRightRow, standIns := [], harness := (true, "52be0757eede980cc65cb1e63201a83bec6db2b4969c706cdb70f2318f51f9c1"), looks := true }, kinds := [], alts := [], laidByText := true, laidKinds := [.data, .data, .data, .data, .handle, .sentinel, .pinned], laidTests := true, laidLooks := .later }
def ComposeRightCardSaid : Prop := Claim7.holds Tryz.pinned (.plain (OpenSpec.ofChange composeRightSpec)) composeRightCard

/-- THE TIED CARD OF 'sigillarylaw18.ComposeBack'. -/
def composeBackCard : Claim7 := { stood := { row := composeBackRow, standIns := [], harness := (true, "52be0757eede980cc65cb1e63201a83bec6db2b4969c706cdb70f2318f51f9c1"), looks := true }, kinds := [], alts := [], laidByText := true, laidKinds := [.data, .data, .data, .data, .handle, .sentinel, .pinned], laidTests := true, laidLooks := .later }
def ComposeBackCardSaid : Prop := Claim7.holds Tryz.pinned (.plain (OpenSpec.ofChange composeBackSpec)) composeBackCard

/-- THE SECOND FORM's CARD OF 'sigillarylaw18.ComposeTrees'. -/
def composeTreesUptoCard : Claim7 := { stood := { row := composeTreesUptoRow, standIns := [], harness := (true, "52be0757eede980cc65cb1e63201a83bec6db2b4969c706cdb70f2318f51f9c1"), looks := true }, kinds := [], alts := [], laidByText := true, laidKinds := [.data, .data, .data, .data, .handle, .sentinel, .pinned], laidTests := true, laidLooks := .later }
def ComposeTreesUptoCardSaid : Prop := Claim7.holds Tryz.pinned (.plain (OpenSpec.upto composeTreesSpec)) composeTreesUptoCard

/-- THE SECOND FORM's CARD OF 'sigillarylaw18.ComposeNames'. -/
def composeNamesUptoCard : Claim7 := { stood := { row := composeNamesUptoRow, standIns := [], harness := (true, "52be0757eede980cc65cb1e63201a83bec6db2b4969c706cdb70f2318f51f9c1"), looks := true }, kinds := [], alts := [], laidByText := true, laidKinds := [.data, .data, .data, .data, .handle, .sentinel, .pinned], laidTests := true, laidLooks := .later }
def ComposeNamesUptoCardSaid : Prop := Claim7.holds Tryz.pinned (.plain (OpenSpec.upto composeNamesSpec)) composeNamesUptoCard

/-- THE SECOND FORM's CARD OF 'sigillarylaw18.ComposeWraps'. -/
def composeWrapsUptoCard : Claim7 := { stood := { row := composeWrapsUptoRow, standIns := [], harness := (true, "52be0757eede980cc65cb1e63201a83bec6db2b4969c706cdb70f2318f51f9c1"), looks := true }, kinds := [], alts := [], laidByText := true, laidKinds := [.data, .data, .data, .data, .handle, .sentinel, .pinned], laidTests := true, laidLooks := .later }
def ComposeWrapsUptoCardSaid : Prop := Claim7.holds Tryz.pinned (.plain (OpenSpec.upto composeWrapsSpec)) composeWrapsUptoCard

/-- THE SECOND FORM's CARD OF 'sigillarylaw18.ComposeTwice'. -/
def composeTwiceUptoCard : Claim7 := { stood := { row := composeTwiceUptoRow, standIns := [], harness := (true, "52be0757eede980cc65cb1e63201a83bec6db2b4969c706cdb70f2318f51f9c1"), looks := true }, kinds := [], alts := [], laidByText := true, laidKinds := [.data, .data, .data, .data, .handle, .sentinel, .pinned], laidTests := true, laidLooks := .later }
def ComposeTwiceUptoCardSaid : Prop := Claim7.holds Tryz.pinned (.plain (OpenSpec.upto composeTwiceSpec)) composeTwiceUptoCard

/-- THE SECOND FORM's CARD OF 'sigillarylaw18.ComposeRight'. -/
def composeRightUptoCard : Claim7 := { stood := { row := composeRightUptoRow, standIns := [], harness := (true, "52be0757eede980cc65cb1e63201a83bec6db2b4969c706cdb70f2318f51f9c1"), looks := true }, kinds := [], alts := [], laidByText := true, laidKinds := [.data, .data, .data, .data, .handle, .sentinel, .pinned], laidTests := true, laidLooks := .later }
def ComposeRightUptoCardSaid : Prop := Claim7.holds Tryz.pinned (.plain (OpenSpec.upto composeRightSpec)) composeRightUptoCard

/-- THE SECOND FORM's CARD OF 'sigillarylaw18.ComposeBack'. -/
def composeBackUptoCard : Claim7 := { stood := { row := composeBackUptoRow, standIns := [], harness := (true, "52be0757eede980cc65cb1e63201a83bec6db2b4969c706cdb70f2318f51f9c1"), looks := true }, kinds := [], alts := [], laidByText := true, laidKinds := [.data, .data, .data, .data, .handle, .sentinel, .pinned], laidTests := true, laidLooks := .later }
def ComposeBackUptoCardSaid : Prop := Claim7.holds Tryz.pinned (.plain (OpenSpec.upto composeBackSpec)) composeBackUptoCard
end Rows
end Go.Proofs.YtiklocoaghcliaaGreatDoor
