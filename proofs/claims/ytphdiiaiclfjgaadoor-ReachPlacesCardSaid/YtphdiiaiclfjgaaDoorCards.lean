/-
  DERIVED. GIVEN WITH THE SEED: THE CARDS: each row of YtphdiiaiclfjgaaDoorRows.lean that lists a variable, with what it lists TIED to the program's text (the seventh form; the later family's looks); each row that meets fmt, with fmt's text TOLD by the authors' own Lean function (tested against real Go, not proved from fmt's source: count such statements apart). THE CARD IS WHAT COUNTS. Prove the row's statement (the work); the ties are given (YtphdiiaiclfjgaaDoorTie.lean); close each card by the builder's one call (the guide's Derived/Test/ToyasCard.lean, 'card_holds'). Laid BY PROGRAM, IN A SANDBOX (cutbox-door.mjs). By AI agents, Wed Nov 11 2026. No macro, syntax, notation, axiom, sorry.
-/
import Derived.Test.YtphdiiaiclfjgaaDoorRows
import GoSem.ClaimSeven
namespace Go.Proofs.YtphdiiaiclfjgaaDoor
namespace Rows

/-- THE TIED CARD OF 'sigillarylaw08.ReachTidy'. -/
def reachTidyCard : Claim7 := { stood := { row := reachTidyRow, standIns := [], harness := (true, "0d2b3013323f69983f636d118edeb0b0074e936690629fc84aa30c0e47bbb422"), looks := true }, kinds := [], alts := [], laidByText := true, laidKinds := [.data, .handle, .pinned], laidTests := true, laidLooks := .later }
def ReachTidyCardSaid : Prop := Claim7.holds Tryd.pinned (.plain (OpenSpec.ofChange reachTidySpec)) reachTidyCard

/-- THE TIED CARD OF 'sigillarylaw08.ReachPaths'. -/
def reachPathsCard : Claim7 := { stood := { row := reachPathsRow, standIns := [], harness := (true, "0d2b3013323f69983f636d118edeb0b0074e936690629fc84aa30c0e47bbb422"), looks := true }, kinds := [], alts := [], laidByText := true, laidKinds := [.data, .handle, .pinned], laidTests := true, laidLooks := .later }
def ReachPathsCardSaid : Prop := Claim7.holds Tryd.pinned (.plain (OpenSpec.ofChange reachPathsSpec)) reachPathsCard

/-- THE TIED CARD OF 'sigillarylaw08.ReachWalk'. -/
def reachWalkCard : Claim7 := { stood := { row := reachWalkRow, standIns := [], harness := (true, "0d2b3013323f69983f636d118edeb0b0074e936690629fc84aa30c0e47bbb422"), looks := true }, kinds := [], alts := [], laidByText := true, laidKinds := [.data, .handle, .pinned], laidTests := true, laidLooks := .later }
def ReachWalkCardSaid : Prop := Claim7.holds Tryd.pinned (.plain (OpenSpec.ofChange reachWalkSpec)) reachWalkCard

/-- THE TIED CARD OF 'sigillarylaw08.ReachPlaces'. -/
def reachPlacesCard : Claim7 := { stood := { row := reachPlacesRow, standIns := [], harness := (true, "0d2b3013323f69983f636d118edeb0b0074e936690629fc84aa30c0e47bbb422"), looks := true }, kinds := [], alts := [], laidByText := true, laidKinds := [.data, .handle, .pinned], laidTests := true, laidLooks := .later }
def ReachPlacesCardSaid : Prop := Claim7.holds Tryd.pinned (.plain (OpenSpec.ofChange reachPlacesSpec)) reachPlacesCard

/-- THE TIED CARD OF 'sigillarylaw08.ReachSteps'. -/
def reachStepsCard : Claim7 := { stood := { row := reachStepsRow, standIns := [], harness := (true, "0d2b3013323f69983f636d118edeb0b0074e936690629fc84aa30c0e47bbb422"), looks := true }, kinds := [], alts := [], laidByText := true, laidKinds := [.data, .handle, .pinned], laidTests := true, laidLooks := .later }
def ReachStepsCardSaid : Prop := Claim7.holds Tryd.pinned (.plain (OpenSpec.ofChange reachStepsSpec)) reachStepsCard

/-- THE TIED CARD OF 'sigillarylaw08.ReachLess'. -/
def reachLessCard : Claim7 := { stood := { row := reachLessRow, standIns := [], harness := (true, "0d2b3013323f69983f636d118edeb0b0074e936690629fc84aa30c0e47bbb422"), looks := true }, kinds := [], alts := [], laidByText := true, laidKinds := [.data, .handle, .pinned], laidTests := true, laidLooks := .later }
def ReachLessCardSaid : Prop := Claim7.holds Tryd.pinned (.plain (OpenSpec.ofChange reachLessSpec)) reachLessCard

/-- THE SECOND FORM's CARD OF 'sigillarylaw08.ReachTidy'. -/
def reachTidyUptoCard : Claim7 := { stood := { row := reachTidyUptoRow, standIns := [], harness := (true, "0d2b3013323f69983f636d118edeb0b0074e936690629fc84aa30c0e47bbb422"), looks := true }, kinds := [], alts := [], laidByText := true, laidKinds := [.data, .handle, .pinned], laidTests := true, laidLooks := .later }
def ReachTidyUptoCardSaid : Prop := Claim7.holds Tryd.pinned (.plain (OpenSpec.upto reachTidySpec)) reachTidyUptoCard

/-- THE SECOND FORM's CARD OF 'sigillarylaw08.ReachPaths'. -/
def reachPathsUptoCard : Claim7 := { stood := { row := reachPathsUptoRow, standIns := [], harness := (true, "0d2b3013323f69983f636d118edeb0b0074e936690629fc84aa30c0e47bbb422"), looks := true }, kinds := [], alts := [], laidByText := true, laidKinds := [.data, .handle, .pinned], laidTests := true, laidLooks := .later }
def ReachPathsUptoCardSaid : Prop := Claim7.holds Tryd.pinned (.plain (OpenSpec.upto reachPathsSpec)) reachPathsUptoCard

/-- THE SECOND FORM's CARD OF 'sigillarylaw08.ReachWalk'. -/
def reachWalkUptoCard : Claim7 := { stood := { row := reachWalkUptoRow, standIns := [], harness := (true, "0d2b3013323f69983f636d118edeb0b0074e936690629fc84aa30c0e47bbb422"), looks := true }, kinds := [], alts := [], laidByText := true, laidKinds := [.data, .handle, .pinned], laidTests := true, laidLooks := .later }
def ReachWalkUptoCardSaid : Prop := Claim7.holds Tryd.pinned (.plain (OpenSpec.upto reachWalkSpec)) reachWalkUptoCard

/-- THE SECOND FORM's CARD OF 'sigillarylaw08.ReachPlaces'. -/
def reachPlacesUptoCard : Claim7 := { stood := { row := reachPlacesUptoRow, standIns := [], harness := (true, "0d2b3013323f69983f636d118edeb0b0074e936690629fc84aa30c0e47bbb422"), looks := true }, kinds := [], alts := [], laidByText := true, laidKinds := [.data, .handle, .pinned], laidTests := true, laidLooks := .later }
def ReachPlacesUptoCardSaid : Prop := Claim7.holds Tryd.pinned (.plain (OpenSpec.upto reachPlacesSpec)) reachPlacesUptoCard

/-- THE SECOND FORM's CARD OF 'sigillarylaw08.ReachSteps'. -/
def reachStepsUptoCard : Claim7 := { stood := { row := reachStepsUptoRow, standIns := [], harness := (true, "0d2b3013323f69983f636d118edeb0b0074e936690629fc84aa30c0e47bbb422"), looks := true }, kinds := [], alts := [], laidByText := true, laidKinds := [.data, .handle, .pinned], laidTests := true, laidLooks := .later }
def ReachStepsUptoCardSaid : Prop := Claim7.holds Tryd.pinned (.plain (OpenSpec.upto reachStepsSpec)) reachStepsUptoCard

/-- THE SECOND FORM's CARD OF 'sigillarylaw08.ReachLess'. -/
def reachLessUptoCard : Claim7 := { stood := { row := reachLessUptoRow, standIns := [], harness := (true, "0d2b3013323f69983f636d118edeb0b0074e936690629fc84aa30c0e47bbb422"), looks := true }, kinds := [], alts := [], laidByText := true, laidKinds := [.data, .handle, .pinned], laidTests := true, laidLooks := .later }
def ReachLessUptoCardSaid : Prop := Claim7.holds Tryd.pinned (.plain (OpenSpec.upto reachLessSpec)) reachLessUptoCard
end Rows
end Go.Proofs.YtphdiiaiclfjgaaDoor
