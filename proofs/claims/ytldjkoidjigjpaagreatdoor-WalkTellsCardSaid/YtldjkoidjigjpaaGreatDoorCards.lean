/-
  DERIVED. GIVEN WITH THE SEED: THE CARDS: each row of YtldjkoidjigjpaaGreatDoorRows.lean that lists a variable, with what it lists TIED to the program's text (the seventh form; the later family's looks); each row that meets fmt, with fmt's text TOLD by the authors' own Lean function (tested against real Go, not proved from fmt's source: count such statements apart). THE CARD IS WHAT COUNTS. Prove the row's statement (the work); the ties are given (YtldjkoidjigjpaaGreatDoorTie.lean); close each card by the builder's one call (the guide's Derived/Test/ToyasCard.lean, 'card_holds'). Laid BY PROGRAM, IN A SANDBOX (cutbox-door.mjs). By AI agents, Wed Nov 11 2026. No macro, syntax, notation, axiom, sorry.
-/
import Derived.Test.YtldjkoidjigjpaaGreatDoorRows
import GoSem.ClaimSeven
namespace Go.Proofs.YtldjkoidjigjpaaGreatDoor
namespace Rows

/-- THE TIED CARD OF 'sigillarylaw07.ArenaTells'. -/
def arenaTellsCard : Claim7 := { stood := { row := arenaTellsRow, standIns := [], harness := (true, "bbff44d403d39c3ed3f723734f858d1c74eb89ce23a60b09fad5726dd6eace97"), looks := true }, kinds := [], alts := [], laidByText := true, laidKinds := [.data, .handle, .pinned], laidTests := true, laidLooks := .later }
def ArenaTellsCardSaid : Prop := Claim7.holds Tryz.pinned (.plain (OpenSpec.ofChange arenaTellsSpec)) arenaTellsCard

/-- THE TIED CARD OF 'sigillarylaw08.ReachTells'. -/
def reachTellsCard : Claim7 := { stood := { row := reachTellsRow, standIns := [], harness := (true, "bbff44d403d39c3ed3f723734f858d1c74eb89ce23a60b09fad5726dd6eace97"), looks := true }, kinds := [], alts := [], laidByText := true, laidKinds := [.data, .handle, .pinned], laidTests := true, laidLooks := .later }
def ReachTellsCardSaid : Prop := Claim7.holds Tryz.pinned (.plain (OpenSpec.ofChange reachTellsSpec)) reachTellsCard

/-- THE TIED CARD OF 'sigillarylaw09.IsoTells'. -/
def isoTellsCard : Claim7 := { stood := { row := isoTellsRow, standIns := [], harness := (true, "bbff44d403d39c3ed3f723734f858d1c74eb89ce23a60b09fad5726dd6eace97"), looks := true }, kinds := [], alts := [], laidByText := true, laidKinds := [.data, .handle, .sentinel, .pinned], laidTests := true, laidLooks := .later }
def IsoTellsCardSaid : Prop := Claim7.holds Tryz.pinned (.plain (OpenSpec.ofChange isoTellsSpec)) isoTellsCard

/-- THE TIED CARD OF 'sigillarylaw12.WalkTells'. -/
def walkTellsCard : Claim7 := { stood := { row := walkTellsRow, standIns := [], harness := (true, "bbff44d403d39c3ed3f723734f858d1c74eb89ce23a60b09fad5726dd6eace97"), looks := true }, kinds := [], alts := [], laidByText := true, laidKinds := [.data, .handle, .pinned], laidTests := true, laidLooks := .later }
def WalkTellsCardSaid : Prop := Claim7.holds Tryz.pinned (.plain (OpenSpec.ofChange walkTellsSpec)) walkTellsCard

/-- THE TIED CARD OF 'sigillarylaw10.RefineTells'. -/
def refineTellsCard : Claim7 := { stood := { row := refineTellsRow, standIns := [], harness := (true, "bbff44d403d39c3ed3f723734f858d1c74eb89ce23a60b09fad5726dd6eace97"), looks := true }, kinds := [], alts := [], laidByText := true, laidKinds := [.data, .data, .data, .data, .handle, .pinned], laidTests := true, laidLooks := .later }
def RefineTellsCardSaid : Prop := Claim7.holds Tryz.pinned (.plain (OpenSpec.ofChange refineTellsSpec)) refineTellsCard

/-- THE TIED CARD OF 'sigillarylaw10.RefineStable'. -/
def refineStableCard : Claim7 := { stood := { row := refineStableRow, standIns := [], harness := (true, "bbff44d403d39c3ed3f723734f858d1c74eb89ce23a60b09fad5726dd6eace97"), looks := true }, kinds := [], alts := [], laidByText := true, laidKinds := [.data, .data, .data, .data, .handle, .pinned], laidTests := true, laidLooks := .later }
def RefineStableCardSaid : Prop := Claim7.holds Tryz.pinned (.plain (OpenSpec.ofChange refineStableSpec)) refineStableCard

/-- THE TIED CARD OF 'sigillarylaw10.RefineSwaps'. -/
def refineSwapsCard : Claim7 := { stood := { row := refineSwapsRow, standIns := [], harness := (true, "bbff44d403d39c3ed3f723734f858d1c74eb89ce23a60b09fad5726dd6eace97"), looks := true }, kinds := [], alts := [], laidByText := true, laidKinds := [.data, .data, .data, .data, .handle, .pinned], laidTests := true, laidLooks := .later }
def RefineSwapsCardSaid : Prop := Claim7.holds Tryz.pinned (.plain (OpenSpec.ofChange refineSwapsSpec)) refineSwapsCard

/-- THE TIED CARD OF 'sigillarylaw10.RefineApart'. -/
def refineApartCard : Claim7 := { stood := { row := refineApartRow, standIns := [], harness := (true, "bbff44d403d39c3ed3f723734f858d1c74eb89ce23a60b09fad5726dd6eace97"), looks := true }, kinds := [], alts := [], laidByText := true, laidKinds := [.data, .data, .data, .data, .handle, .pinned], laidTests := true, laidLooks := .later }
def RefineApartCardSaid : Prop := Claim7.holds Tryz.pinned (.plain (OpenSpec.ofChange refineApartSpec)) refineApartCard

/-- THE TIED CARD OF 'sigillarylaw10.RefinePaths'. -/
def refinePathsCard : Claim7 := { stood := { row := refinePathsRow, standIns := [], harness := (true, "bbff44d403d39c3ed3f723734f858d1c74eb89ce23a60b09fad5726dd6eace97"), looks := true }, kinds := [], alts := [], laidByText := true, laidKinds := [.data, .data, .data, .data, .handle, .pinned], laidTests := true, laidLooks := .later }
def RefinePathsCardSaid : Prop := Claim7.holds Tryz.pinned (.plain (OpenSpec.ofChange refinePathsSpec)) refinePathsCard

/-- THE TIED CARD OF 'sigillarylaw10.RefineSubs'. -/
def refineSubsCard : Claim7 := { stood := { row := refineSubsRow, standIns := [], harness := (true, "bbff44d403d39c3ed3f723734f858d1c74eb89ce23a60b09fad5726dd6eace97"), looks := true }, kinds := [], alts := [], laidByText := true, laidKinds := [.data, .data, .data, .data, .handle, .pinned], laidTests := true, laidLooks := .later }
def RefineSubsCardSaid : Prop := Claim7.holds Tryz.pinned (.plain (OpenSpec.ofChange refineSubsSpec)) refineSubsCard

/-- THE SECOND FORM's CARD OF 'sigillarylaw07.ArenaTells'. -/
def arenaTellsUptoCard : Claim7 := { stood := { row := arenaTellsUptoRow, standIns := [], harness := (true, "bbff44d403d39c3ed3f723734f858d1c74eb89ce23a60b09fad5726dd6eace97"), looks := true }, kinds := [], alts := [], laidByText := true, laidKinds := [.data, .handle, .pinned], laidTests := true, laidLooks := .later }
def ArenaTellsUptoCardSaid : Prop := Claim7.holds Tryz.pinned (.plain (OpenSpec.upto arenaTellsSpec)) arenaTellsUptoCard

/-- THE SECOND FORM's CARD OF 'sigillarylaw08.ReachTells'. -/
def reachTellsUptoCard : Claim7 := { stood := { row := reachTellsUptoRow, standIns := [], harness := (true, "bbff44d403d39c3ed3f723734f858d1c74eb89ce23a60b09fad5726dd6eace97"), looks := true }, kinds := [], alts := [], laidByText := true, laidKinds := [.data, .handle, .pinned], laidTests := true, laidLooks := .later }
def ReachTellsUptoCardSaid : Prop := Claim7.holds Tryz.pinned (.plain (OpenSpec.upto reachTellsSpec)) reachTellsUptoCard

/-- THE SECOND FORM's CARD OF 'sigillarylaw09.IsoTells'. -/
def isoTellsUptoCard : Claim7 := { stood := { row := isoTellsUptoRow, standIns := [], harness := (true, "bbff44d403d39c3ed3f723734f858d1c74eb89ce23a60b09fad5726dd6eace97"), looks := true }, kinds := [], alts := [], laidByText := true, laidKinds := [.data, .handle, .sentinel, .pinned], laidTests := true, laidLooks := .later }
def IsoTellsUptoCardSaid : Prop := Claim7.holds Tryz.pinned (.plain (OpenSpec.upto isoTellsSpec)) isoTellsUptoCard

/-- THE SECOND FORM's CARD OF 'sigillarylaw12.WalkTells'. -/
def walkTellsUptoCard : Claim7 := { stood := { row := walkTellsUptoRow, standIns := [], harness := (true, "bbff44d403d39c3ed3f723734f858d1c74eb89ce23a60b09fad5726dd6eace97"), looks := true }, kinds := [], alts := [], laidByText := true, laidKinds := [.data, .handle, .pinned], laidTests := true, laidLooks := .later }
def WalkTellsUptoCardSaid : Prop := Claim7.holds Tryz.pinned (.plain (OpenSpec.upto walkTellsSpec)) walkTellsUptoCard

/-- THE SECOND FORM's CARD OF 'sigillarylaw10.RefineTells'. -/
def refineTellsUptoCard : Claim7 := { stood := { row := refineTellsUptoRow, standIns := [], harness := (true, "bbff44d403d39c3ed3f723734f858d1c74eb89ce23a60b09fad5726dd6eace97"), looks := true }, kinds := [], alts := [], laidByText := true, laidKinds := [.data, .data, .data, .data, .handle, .pinned], laidTests := true, laidLooks := .later }
def RefineTellsUptoCardSaid : Prop := Claim7.holds Tryz.pinned (.plain (OpenSpec.upto refineTellsSpec)) refineTellsUptoCard

/-- THE SECOND FORM's CARD OF 'sigillarylaw10.RefineStable'. -/
def refineStableUptoCard : Claim7 := { stood := { row := refineStableUptoRow, standIns := [], harness := (true, "bbff44d403d39c3ed3f723734f858d1c74eb89ce23a60b09fad5726dd6eace97"), looks := true }, kinds := [], alts := [], laidByText := true, laidKinds := [.data, .data, .data, .data, .handle, .pinned], laidTests := true, laidLooks := .later }
def RefineStableUptoCardSaid : Prop := Claim7.holds Tryz.pinned (.plain (OpenSpec.upto refineStableSpec)) refineStableUptoCard

/-- THE SECOND FORM's CARD OF 'sigillarylaw10.RefineSwaps'. -/
def refineSwapsUptoCard : Claim7 := { stood := { row := refineSwapsUptoRow, standIns := [], harness := (true, "bbff44d403d39c3ed3f723734f858d1c74eb89ce23a60b09fad5726dd6eace97"), looks := true }, kinds := [], alts := [], laidByText := true, laidKinds := [.data, .data, .data, .data, .handle, .pinned], laidTests := true, laidLooks := .later }
def RefineSwapsUptoCardSaid : Prop := Claim7.holds Tryz.pinned (.plain (OpenSpec.upto refineSwapsSpec)) refineSwapsUptoCard

/-- THE SECOND FORM's CARD OF 'sigillarylaw10.RefineApart'. -/
def refineApartUptoCard : Claim7 := { stood := { row := refineApartUptoRow, standIns := [], harness := (true, "bbff44d403d39c3ed3f723734f858d1c74eb89ce23a60b09fad5726dd6eace97"), looks := true }, kinds := [], alts := [], laidByText := true, laidKinds := [.data, .data, .data, .data, .handle, .pinned], laidTests := true, laidLooks := .later }
def RefineApartUptoCardSaid : Prop := Claim7.holds Tryz.pinned (.plain (OpenSpec.upto refineApartSpec)) refineApartUptoCard

/-- THE SECOND FORM's CARD OF 'sigillarylaw10.RefinePaths'. -/
def refinePathsUptoCard : Claim7 := { stood := { row := refinePathsUptoRow, standIns := [], harness := (true, "bbff44d403d39c3ed3f723734f858d1c74eb89ce23a60b09fad5726dd6eace97"), looks := true }, kinds := [], alts := [], laidByText := true, laidKinds := [.data, .data, .data, .data, .handle, .pinned], laidTests := true, laidLooks := .later }
def RefinePathsUptoCardSaid : Prop := Claim7.holds Tryz.pinned (.plain (OpenSpec.upto refinePathsSpec)) refinePathsUptoCard

/-- THE SECOND FORM's CARD OF 'sigillarylaw10.RefineSubs'. -/
def refineSubsUptoCard : Claim7 := { stood := { row := refineSubsUptoRow, standIns := [], harness := (true, "bbff44d403d39c3ed3f723734f858d1c74eb89ce23a60b09fad5726dd6eace97"), looks := true }, kinds := [], alts := [], laidByText := true, laidKinds := [.data, .data, .data, .data, .handle, .pinned], laidTests := true, laidLooks := .later }
def RefineSubsUptoCardSaid : Prop := Claim7.holds Tryz.pinned (.plain (OpenSpec.upto refineSubsSpec)) refineSubsUptoCard
end Rows
end Go.Proofs.YtldjkoidjigjpaaGreatDoor
