/-
  DERIVED. GIVEN WITH THE SEED: THE CARDS: each row of YtejnfjophhnaeaaGreatDoorRows.lean that lists a variable, with what it lists TIED to the program's text (the seventh form; the later family's looks); each row that meets fmt, with fmt's text TOLD by the authors' own Lean function (tested against real Go, not proved from fmt's source: count such statements apart). THE CARD IS WHAT COUNTS. Prove the row's statement (the work); the ties are given (YtejnfjophhnaeaaGreatDoorTie.lean); close each card by the builder's one call (the guide's Derived/Test/ToyasCard.lean, 'card_holds'). Laid BY PROGRAM, IN A SANDBOX (cutbox-door.mjs). By AI agents, Wed Nov 11 2026. No macro, syntax, notation, axiom, sorry.
-/
import Derived.Test.YtejnfjophhnaeaaGreatDoorRows
import GoSem.ClaimSeven
namespace Go.Proofs.YtejnfjophhnaeaaGreatDoor
namespace Rows

/-- THE TIED CARD OF 'sigillarylaw10.RefineTells'. -/
def refineTellsCard : Claim7 := { stood := { row := refineTellsRow, standIns := [], harness := (true, "7bd249e18b9d743fecea52a34bc839739c8c263c5b0347d7a86076bf787a6603"), looks := true }, kinds := [], alts := [], laidByText := true, laidKinds := [.data, .data, .data, .data, .handle, .pinned], laidTests := true, laidLooks := .later }
def RefineTellsCardSaid : Prop := Claim7.holds Tryz.pinned (.plain (OpenSpec.ofChange refineTellsSpec)) refineTellsCard

/-- THE TIED CARD OF 'sigillarylaw10.RefineStable'. -/
def refineStableCard : Claim7 := { stood := { row := refineStableRow, standIns := [], harness := (true, "7bd249e18b9d743fecea52a34bc839739c8c263c5b0347d7a86076bf787a6603"), looks := true }, kinds := [], alts := [], laidByText := true, laidKinds := [.data, .data, .data, .data, .handle, .pinned], laidTests := true, laidLooks := .later }
def RefineStableCardSaid : Prop := Claim7.holds Tryz.pinned (.plain (OpenSpec.ofChange refineStableSpec)) refineStableCard

/-- THE TIED CARD OF 'sigillarylaw10.RefineSwaps'. -/
def refineSwapsCard : Claim7 := { stood := { row := refineSwapsRow, standIns := [], harness := (true, "7bd249e18b9d743fecea52a34bc839739c8c263c5b0347d7a86076bf787a6603"), looks := true }, kinds := [], alts := [], laidByText := true, laidKinds := [.data, .data, .data, .data, .handle, .pinned], laidTests := true, laidLooks := .later }
def RefineSwapsCardSaid : Prop := Claim7.holds Tryz.pinned (.plain (OpenSpec.ofChange refineSwapsSpec)) refineSwapsCard

/-- THE TIED CARD OF 'sigillarylaw10.RefineApart'. -/
def refineApartCard : Claim7 := { stood := { row := refineApartRow, standIns := [], harness := (true, "7bd249e18b9d743fecea52a34bc839739c8c263c5b0347d7a86076bf787a6603"), looks := true }, kinds := [], alts := [], laidByText := true, laidKinds := [.data, .data, .data, .data, .handle, .pinned], laidTests := true, laidLooks := .later }
def RefineApartCardSaid : Prop := Claim7.holds Tryz.pinned (.plain (OpenSpec.ofChange refineApartSpec)) refineApartCard

/-- THE TIED CARD OF 'sigillarylaw10.RefinePaths'. -/
def refinePathsCard : Claim7 := { stood := { row := refinePathsRow, standIns := [], harness := (true, "7bd249e18b9d743fecea52a34bc839739c8c263c5b0347d7a86076bf787a6603"), looks := true }, kinds := [], alts := [], laidByText := true, laidKinds := [.data, .data, .data, .data, .handle, .pinned], laidTests := true, laidLooks := .later }
def RefinePathsCardSaid : Prop := Claim7.holds Tryz.pinned (.plain (OpenSpec.ofChange refinePathsSpec)) refinePathsCard

/-- THE TIED CARD OF 'sigillarylaw10.RefineSubs'. -/
def refineSubsCard : Claim7 := { stood := { row := refineSubsRow, standIns := [], harness := (true, "7bd249e18b9d743fecea52a34bc839739c8c263c5b0347d7a86076bf787a6603"), looks := true }, kinds := [], alts := [], laidByText := true, laidKinds := [.data, .data, .data, .data, .handle, .pinned], laidTests := true, laidLooks := .later }
def RefineSubsCardSaid : Prop := Claim7.holds Tryz.pinned (.plain (OpenSpec.ofChange refineSubsSpec)) refineSubsCard

/-- THE TIED CARD OF 'sigillarylaw11.QuotTells'. -/
def quotTellsCard : Claim7 := { stood := { row := quotTellsRow, standIns := [], harness := (true, "7bd249e18b9d743fecea52a34bc839739c8c263c5b0347d7a86076bf787a6603"), looks := true }, kinds := [], alts := [], laidByText := true, laidKinds := [.data, .data, .data, .data, .handle, .pinned], laidTests := true, laidLooks := .later }
def QuotTellsCardSaid : Prop := Claim7.holds Tryz.pinned (.plain (OpenSpec.ofChange quotTellsSpec)) quotTellsCard

/-- THE TIED CARD OF 'sigillarylaw11.QuotPlaces'. -/
def quotPlacesCard : Claim7 := { stood := { row := quotPlacesRow, standIns := [], harness := (true, "7bd249e18b9d743fecea52a34bc839739c8c263c5b0347d7a86076bf787a6603"), looks := true }, kinds := [], alts := [], laidByText := true, laidKinds := [.data, .data, .data, .data, .handle, .pinned], laidTests := true, laidLooks := .later }
def QuotPlacesCardSaid : Prop := Claim7.holds Tryz.pinned (.plain (OpenSpec.ofChange quotPlacesSpec)) quotPlacesCard

/-- THE TIED CARD OF 'sigillarylaw10.RefineAlike'. -/
def refineAlikeCard : Claim7 := { stood := { row := refineAlikeRow, standIns := [], harness := (true, "7bd249e18b9d743fecea52a34bc839739c8c263c5b0347d7a86076bf787a6603"), looks := true }, kinds := [], alts := [], laidByText := true, laidKinds := [.data, .data, .data, .data, .handle, .sentinel, .pinned], laidTests := true, laidLooks := .later }
def RefineAlikeCardSaid : Prop := Claim7.holds Tryz.pinned (.plain (OpenSpec.ofChange refineAlikeSpec)) refineAlikeCard

/-- THE SECOND FORM's CARD OF 'sigillarylaw10.RefineTells'. -/
def refineTellsUptoCard : Claim7 := { stood := { row := refineTellsUptoRow, standIns := [], harness := (true, "7bd249e18b9d743fecea52a34bc839739c8c263c5b0347d7a86076bf787a6603"), looks := true }, kinds := [], alts := [], laidByText := true, laidKinds := [.data, .data, .data, .data, .handle, .pinned], laidTests := true, laidLooks := .later }
def RefineTellsUptoCardSaid : Prop := Claim7.holds Tryz.pinned (.plain (OpenSpec.upto refineTellsSpec)) refineTellsUptoCard

/-- THE SECOND FORM's CARD OF 'sigillarylaw10.RefineStable'. -/
def refineStableUptoCard : Claim7 := { stood := { row := refineStableUptoRow, standIns := [], harness := (true, "7bd249e18b9d743fecea52a34bc839739c8c263c5b0347d7a86076bf787a6603"), looks := true }, kinds := [], alts := [], laidByText := true, laidKinds := [.data, .data, .data, .data, .handle, .pinned], laidTests := true, laidLooks := .later }
def RefineStableUptoCardSaid : Prop := Claim7.holds Tryz.pinned (.plain (OpenSpec.upto refineStableSpec)) refineStableUptoCard

/-- THE SECOND FORM's CARD OF 'sigillarylaw10.RefineSwaps'. -/
def refineSwapsUptoCard : Claim7 := { stood := { row := refineSwapsUptoRow, standIns := [], harness := (true, "7bd249e18b9d743fecea52a34bc839739c8c263c5b0347d7a86076bf787a6603"), looks := true }, kinds := [], alts := [], laidByText := true, laidKinds := [.data, .data, .data, .data, .handle, .pinned], laidTests := true, laidLooks := .later }
def RefineSwapsUptoCardSaid : Prop := Claim7.holds Tryz.pinned (.plain (OpenSpec.upto refineSwapsSpec)) refineSwapsUptoCard

/-- THE SECOND FORM's CARD OF 'sigillarylaw10.RefineApart'. -/
def refineApartUptoCard : Claim7 := { stood := { row := refineApartUptoRow, standIns := [], harness := (true, "7bd249e18b9d743fecea52a34bc839739c8c263c5b0347d7a86076bf787a6603"), looks := true }, kinds := [], alts := [], laidByText := true, laidKinds := [.data, .data, .data, .data, .handle, .pinned], laidTests := true, laidLooks := .later }
def RefineApartUptoCardSaid : Prop := Claim7.holds Tryz.pinned (.plain (OpenSpec.upto refineApartSpec)) refineApartUptoCard

/-- THE SECOND FORM's CARD OF 'sigillarylaw10.RefinePaths'. -/
def refinePathsUptoCard : Claim7 := { stood := { row := refinePathsUptoRow, standIns := [], harness := (true, "7bd249e18b9d743fecea52a34bc839739c8c263c5b0347d7a86076bf787a6603"), looks := true }, kinds := [], alts := [], laidByText := true, laidKinds := [.data, .data, .data, .data, .handle, .pinned], laidTests := true, laidLooks := .later }
def RefinePathsUptoCardSaid : Prop := Claim7.holds Tryz.pinned (.plain (OpenSpec.upto refinePathsSpec)) refinePathsUptoCard

/-- THE SECOND FORM's CARD OF 'sigillarylaw10.RefineSubs'. -/
def refineSubsUptoCard : Claim7 := { stood := { row := refineSubsUptoRow, standIns := [], harness := (true, "7bd249e18b9d743fecea52a34bc839739c8c263c5b0347d7a86076bf787a6603"), looks := true }, kinds := [], alts := [], laidByText := true, laidKinds := [.data, .data, .data, .data, .handle, .pinned], laidTests := true, laidLooks := .later }
def RefineSubsUptoCardSaid : Prop := Claim7.holds Tryz.pinned (.plain (OpenSpec.upto refineSubsSpec)) refineSubsUptoCard

/-- THE SECOND FORM's CARD OF 'sigillarylaw11.QuotTells'. -/
def quotTellsUptoCard : Claim7 := { stood := { row := quotTellsUptoRow, standIns := [], harness := (true, "7bd249e18b9d743fecea52a34bc839739c8c263c5b0347d7a86076bf787a6603"), looks := true }, kinds := [], alts := [], laidByText := true, laidKinds := [.data, .data, .data, .data, .handle, .pinned], laidTests := true, laidLooks := .later }
def QuotTellsUptoCardSaid : Prop := Claim7.holds Tryz.pinned (.plain (OpenSpec.upto quotTellsSpec)) quotTellsUptoCard

/-- THE SECOND FORM's CARD OF 'sigillarylaw11.QuotPlaces'. -/
def quotPlacesUptoCard : Claim7 := { stood := { row := quotPlacesUptoRow, standIns := [], harness := (true, "7bd249e18b9d743fecea52a34bc839739c8c263c5b0347d7a86076bf787a6603"), looks := true }, kinds := [], alts := [], laidByText := true, laidKinds := [.data, .data, .data, .data, .handle, .pinned], laidTests := true, laidLooks := .later }
def QuotPlacesUptoCardSaid : Prop := Claim7.holds Tryz.pinned (.plain (OpenSpec.upto quotPlacesSpec)) quotPlacesUptoCard

/-- THE SECOND FORM's CARD OF 'sigillarylaw10.RefineAlike'. -/
def refineAlikeUptoCard : Claim7 := { stood := { row := refineAlikeUptoRow, standIns := [], harness := (true, "7bd249e18b9d743fecea52a34bc839739c8c263c5b0347d7a86076bf787a6603"), looks := true }, kinds := [], alts := [], laidByText := true, laidKinds := [.data, .data, .data, .data, .handle, .sentinel, .pinned], laidTests := true, laidLooks := .later }
def RefineAlikeUptoCardSaid : Prop := Claim7.holds Tryz.pinned (.plain (OpenSpec.upto refineAlikeSpec)) refineAlikeUptoCard
end Rows
end Go.Proofs.YtejnfjophhnaeaaGreatDoor
