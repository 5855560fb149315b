/-
  DERIVED. GIVEN WITH THE SEED: THE CARDS: each row of YtnampnnphgedhaaDoorRows.lean that lists a variable, with what it lists TIED to the program's text (the seventh form; the later family's looks); each row that meets fmt, with fmt's text TOLD by the authors' own Lean function (tested against real Go, not proved from fmt's source: count such statements apart). THE CARD IS WHAT COUNTS. Prove the row's statement (the work); the ties are given (YtnampnnphgedhaaDoorTie.lean); close each card by the builder's one call (the guide's Derived/Test/ToyasCard.lean, 'card_holds'). Laid BY PROGRAM, IN A SANDBOX (cutbox-door.mjs). By AI agents, Wed Nov 11 2026. No macro, syntax, notation, axiom, sorry.
-/
import Derived.Test.YtnampnnphgedhaaDoorRows
import GoSem.ClaimSeven
namespace Go.Proofs.YtnampnnphgedhaaDoor
namespace Rows

/-- THE TIED CARD OF 'sigillarylaw07.ArenaKids'. -/
def arenaKidsCard : Claim7 := { stood := { row := arenaKidsRow, standIns := [], harness := (true, "dab96d328511564ffb0caba8d9050ab7f236cbc00f935298051003d745ddeeda"), looks := true }, kinds := [], alts := [], laidByText := true, laidKinds := [.data, .handle, .pinned], laidTests := true, laidLooks := .later }
def ArenaKidsCardSaid : Prop := Claim7.holds Tryd.pinned (.plain (OpenSpec.ofChange arenaKidsSpec)) arenaKidsCard

/-- THE TIED CARD OF 'sigillarylaw07.ArenaLess'. -/
def arenaLessCard : Claim7 := { stood := { row := arenaLessRow, standIns := [], harness := (true, "dab96d328511564ffb0caba8d9050ab7f236cbc00f935298051003d745ddeeda"), looks := true }, kinds := [], alts := [], laidByText := true, laidKinds := [.data, .handle, .pinned], laidTests := true, laidLooks := .later }
def ArenaLessCardSaid : Prop := Claim7.holds Tryd.pinned (.plain (OpenSpec.ofChange arenaLessSpec)) arenaLessCard

/-- THE TIED CARD OF 'sigillarylaw07.ArenaSwaps'. -/
def arenaSwapsCard : Claim7 := { stood := { row := arenaSwapsRow, standIns := [], harness := (true, "dab96d328511564ffb0caba8d9050ab7f236cbc00f935298051003d745ddeeda"), looks := true }, kinds := [], alts := [], laidByText := true, laidKinds := [.data, .handle, .pinned], laidTests := true, laidLooks := .later }
def ArenaSwapsCardSaid : Prop := Claim7.holds Tryd.pinned (.plain (OpenSpec.ofChange arenaSwapsSpec)) arenaSwapsCard

/-- THE TIED CARD OF 'sigillarylaw07.ArenaFinds'. -/
def arenaFindsCard : Claim7 := { stood := { row := arenaFindsRow, standIns := [], harness := (true, "dab96d328511564ffb0caba8d9050ab7f236cbc00f935298051003d745ddeeda"), looks := true }, kinds := [], alts := [], laidByText := true, laidKinds := [.data, .handle, .pinned], laidTests := true, laidLooks := .later }
def ArenaFindsCardSaid : Prop := Claim7.holds Tryd.pinned (.plain (OpenSpec.ofChange arenaFindsSpec)) arenaFindsCard

/-- THE TIED CARD OF 'sigillarylaw07.ArenaRoots'. -/
def arenaRootsCard : Claim7 := { stood := { row := arenaRootsRow, standIns := [], harness := (true, "dab96d328511564ffb0caba8d9050ab7f236cbc00f935298051003d745ddeeda"), looks := true }, kinds := [], alts := [], laidByText := true, laidKinds := [.data, .handle, .pinned], laidTests := true, laidLooks := .later }
def ArenaRootsCardSaid : Prop := Claim7.holds Tryd.pinned (.plain (OpenSpec.ofChange arenaRootsSpec)) arenaRootsCard

/-- THE SECOND FORM's CARD OF 'sigillarylaw07.ArenaKids'. -/
def arenaKidsUptoCard : Claim7 := { stood := { row := arenaKidsUptoRow, standIns := [], harness := (true, "dab96d328511564ffb0caba8d9050ab7f236cbc00f935298051003d745ddeeda"), looks := true }, kinds := [], alts := [], laidByText := true, laidKinds := [.data, .handle, .pinned], laidTests := true, laidLooks := .later }
def ArenaKidsUptoCardSaid : Prop := Claim7.holds Tryd.pinned (.plain (OpenSpec.upto arenaKidsSpec)) arenaKidsUptoCard

/-- THE SECOND FORM's CARD OF 'sigillarylaw07.ArenaLess'. -/
def arenaLessUptoCard : Claim7 := { stood := { row := arenaLessUptoRow, standIns := [], harness := (true, "dab96d328511564ffb0caba8d9050ab7f236cbc00f935298051003d745ddeeda"), looks := true }, kinds := [], alts := [], laidByText := true, laidKinds := [.data, .handle, .pinned], laidTests := true, laidLooks := .later }
def ArenaLessUptoCardSaid : Prop := Claim7.holds Tryd.pinned (.plain (OpenSpec.upto arenaLessSpec)) arenaLessUptoCard

/-- THE SECOND FORM's CARD OF 'sigillarylaw07.ArenaSwaps'. -/
def arenaSwapsUptoCard : Claim7 := { stood := { row := arenaSwapsUptoRow, standIns := [], harness := (true, "dab96d328511564ffb0caba8d9050ab7f236cbc00f935298051003d745ddeeda"), looks := true }, kinds := [], alts := [], laidByText := true, laidKinds := [.data, .handle, .pinned], laidTests := true, laidLooks := .later }
def ArenaSwapsUptoCardSaid : Prop := Claim7.holds Tryd.pinned (.plain (OpenSpec.upto arenaSwapsSpec)) arenaSwapsUptoCard

/-- THE SECOND FORM's CARD OF 'sigillarylaw07.ArenaFinds'. -/
def arenaFindsUptoCard : Claim7 := { stood := { row := arenaFindsUptoRow, standIns := [], harness := (true, "dab96d328511564ffb0caba8d9050ab7f236cbc00f935298051003d745ddeeda"), looks := true }, kinds := [], alts := [], laidByText := true, laidKinds := [.data, .handle, .pinned], laidTests := true, laidLooks := .later }
def ArenaFindsUptoCardSaid : Prop := Claim7.holds Tryd.pinned (.plain (OpenSpec.upto arenaFindsSpec)) arenaFindsUptoCard

/-- THE SECOND FORM's CARD OF 'sigillarylaw07.ArenaRoots'. -/
def arenaRootsUptoCard : Claim7 := { stood := { row := arenaRootsUptoRow, standIns := [], harness := (true, "dab96d328511564ffb0caba8d9050ab7f236cbc00f935298051003d745ddeeda"), looks := true }, kinds := [], alts := [], laidByText := true, laidKinds := [.data, .handle, .pinned], laidTests := true, laidLooks := .later }
def ArenaRootsUptoCardSaid : Prop := Claim7.holds Tryd.pinned (.plain (OpenSpec.upto arenaRootsSpec)) arenaRootsUptoCard
end Rows
end Go.Proofs.YtnampnnphgedhaaDoor
