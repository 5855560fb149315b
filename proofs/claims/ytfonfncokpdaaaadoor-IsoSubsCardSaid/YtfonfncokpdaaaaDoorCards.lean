/-
  DERIVED. GIVEN WITH THE SEED: THE CARDS: each row of YtfonfncokpdaaaaDoorRows.lean that lists a variable, with what it lists TIED to the program's text (the seventh form; the later family's looks); each row that meets fmt, with fmt's text TOLD by the authors' own Lean function (tested against real Go, not proved from fmt's source: count such statements apart). THE CARD IS WHAT COUNTS. Prove the row's statement (the work); the ties are given (YtfonfncokpdaaaaDoorTie.lean); close each card by the builder's one call (the guide's Derived/Test/ToyasCard.lean, 'card_holds'). Laid BY PROGRAM, IN A SANDBOX (cutbox-door.mjs). By AI agents, Wed Nov 11 2026. No macro, syntax, notation, axiom, sorry.
-/
import Derived.Test.YtfonfncokpdaaaaDoorRows
import GoSem.ClaimSeven
namespace Go.Proofs.YtfonfncokpdaaaaDoor
namespace Rows

/-- THE TIED CARD OF 'sigillarylaw07.ArenaKids'. -/
def arenaKidsCard : Claim7 := { stood := { row := arenaKidsRow, standIns := [], harness := (true, "8d50f822162d867592f7f83c6e926530a6e2343790c9f02b67c6e4717d2315ae"), looks := true }, kinds := [], alts := [], laidByText := true, laidKinds := [.data, .handle, .pinned], laidTests := true, laidLooks := .later }
def ArenaKidsCardSaid : Prop := Claim7.holds Tryd.pinned (.plain (OpenSpec.ofChange arenaKidsSpec)) arenaKidsCard

/-- THE TIED CARD OF 'sigillarylaw07.ArenaSwaps'. -/
def arenaSwapsCard : Claim7 := { stood := { row := arenaSwapsRow, standIns := [], harness := (true, "8d50f822162d867592f7f83c6e926530a6e2343790c9f02b67c6e4717d2315ae"), looks := true }, kinds := [], alts := [], laidByText := true, laidKinds := [.data, .handle, .pinned], laidTests := true, laidLooks := .later }
def ArenaSwapsCardSaid : Prop := Claim7.holds Tryd.pinned (.plain (OpenSpec.ofChange arenaSwapsSpec)) arenaSwapsCard

/-- THE TIED CARD OF 'sigillarylaw09.IsoPairs'. -/
def isoPairsCard : Claim7 := { stood := { row := isoPairsRow, standIns := [], harness := (true, "8d50f822162d867592f7f83c6e926530a6e2343790c9f02b67c6e4717d2315ae"), looks := true }, kinds := [], alts := [], laidByText := true, laidKinds := [.data, .handle, .sentinel, .pinned], laidTests := true, laidLooks := .later }
def IsoPairsCardSaid : Prop := Claim7.holds Tryd.pinned (.plain (OpenSpec.ofChange isoPairsSpec)) isoPairsCard

/-- THE TIED CARD OF 'sigillarylaw09.IsoSubs'. -/
def isoSubsCard : Claim7 := { stood := { row := isoSubsRow, standIns := [], harness := (true, "8d50f822162d867592f7f83c6e926530a6e2343790c9f02b67c6e4717d2315ae"), looks := true }, kinds := [], alts := [], laidByText := true, laidKinds := [.data, .handle, .sentinel, .pinned], laidTests := true, laidLooks := .later }
def IsoSubsCardSaid : Prop := Claim7.holds Tryd.pinned (.plain (OpenSpec.ofChange isoSubsSpec)) isoSubsCard

/-- THE TIED CARD OF 'sigillarylaw09.IsoCounts'. -/
def isoCountsCard : Claim7 := { stood := { row := isoCountsRow, standIns := [], harness := (true, "8d50f822162d867592f7f83c6e926530a6e2343790c9f02b67c6e4717d2315ae"), looks := true }, kinds := [], alts := [], laidByText := true, laidKinds := [.data, .handle, .sentinel, .pinned], laidTests := true, laidLooks := .later }
def IsoCountsCardSaid : Prop := Claim7.holds Tryd.pinned (.plain (OpenSpec.ofChange isoCountsSpec)) isoCountsCard

/-- THE SECOND FORM's CARD OF 'sigillarylaw07.ArenaKids'. -/
def arenaKidsUptoCard : Claim7 := { stood := { row := arenaKidsUptoRow, standIns := [], harness := (true, "8d50f822162d867592f7f83c6e926530a6e2343790c9f02b67c6e4717d2315ae"), looks := true }, kinds := [], alts := [], laidByText := true, laidKinds := [.data, .handle, .pinned], laidTests := true, laidLooks := .later }
def ArenaKidsUptoCardSaid : Prop := Claim7.holds Tryd.pinned (.plain (OpenSpec.upto arenaKidsSpec)) arenaKidsUptoCard

/-- THE SECOND FORM's CARD OF 'sigillarylaw07.ArenaSwaps'. -/
def arenaSwapsUptoCard : Claim7 := { stood := { row := arenaSwapsUptoRow, standIns := [], harness := (true, "8d50f822162d867592f7f83c6e926530a6e2343790c9f02b67c6e4717d2315ae"), looks := true }, kinds := [], alts := [], laidByText := true, laidKinds := [.data, .handle, .pinned], laidTests := true, laidLooks := .later }
def ArenaSwapsUptoCardSaid : Prop := Claim7.holds Tryd.pinned (.plain (OpenSpec.upto arenaSwapsSpec)) arenaSwapsUptoCard

/-- THE SECOND FORM's CARD OF 'sigillarylaw09.IsoPairs'. -/
def isoPairsUptoCard : Claim7 := { stood := { row := isoPairsUptoRow, standIns := [], harness := (true, "8d50f822162d867592f7f83c6e926530a6e2343790c9f02b67c6e4717d2315ae"), looks := true }, kinds := [], alts := [], laidByText := true, laidKinds := [.data, .handle, .sentinel, .pinned], laidTests := true, laidLooks := .later }
def IsoPairsUptoCardSaid : Prop := Claim7.holds Tryd.pinned (.plain (OpenSpec.upto isoPairsSpec)) isoPairsUptoCard

/-- THE SECOND FORM's CARD OF 'sigillarylaw09.IsoSubs'. -/
def isoSubsUptoCard : Claim7 := { stood := { row := isoSubsUptoRow, standIns := [], harness := (true, "8d50f822162d867592f7f83c6e926530a6e2343790c9f02b67c6e4717d2315ae"), looks := true }, kinds := [], alts := [], laidByText := true, laidKinds := [.data, .handle, .sentinel, .pinned], laidTests := true, laidLooks := .later }
def IsoSubsUptoCardSaid : Prop := Claim7.holds Tryd.pinned (.plain (OpenSpec.upto isoSubsSpec)) isoSubsUptoCard

/-- THE SECOND FORM's CARD OF 'sigillarylaw09.IsoCounts'. -/
def isoCountsUptoCard : Claim7 := { stood := { row := isoCountsUptoRow, standIns := [], harness := (true, "8d50f822162d867592f7f83c6e926530a6e2343790c9f02b67c6e4717d2315ae"), looks := true }, kinds := [], alts := [], laidByText := true, laidKinds := [.data, .handle, .sentinel, .pinned], laidTests := true, laidLooks := .later }
def IsoCountsUptoCardSaid : Prop := Claim7.holds Tryd.pinned (.plain (OpenSpec.upto isoCountsSpec)) isoCountsUptoCard
end Rows
end Go.Proofs.YtfonfncokpdaaaaDoor
