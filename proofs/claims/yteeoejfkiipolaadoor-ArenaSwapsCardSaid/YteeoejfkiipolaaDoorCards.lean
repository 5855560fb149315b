/-
  DERIVED. GIVEN WITH THE SEED: THE CARDS: each row of YteeoejfkiipolaaDoorRows.lean that lists a variable, with what it lists TIED to the program's text (the seventh form; the later family's looks); each row that meets fmt, with fmt's text TOLD by the authors' own Lean function (tested against real Go, not proved from fmt's source: count such statements apart). THE CARD IS WHAT COUNTS. Prove the row's statement (the work); the ties are given (YteeoejfkiipolaaDoorTie.lean); close each card by the builder's one call (the guide's Derived/Test/ToyasCard.lean, 'card_holds'). Laid BY PROGRAM, IN A SANDBOX (cutbox-door.mjs). By AI agents, Wed Nov 11 2026. No macro, syntax, notation, axiom, sorry.
-/
import Derived.Test.YteeoejfkiipolaaDoorRows
import GoSem.ClaimSeven
namespace Go.Proofs.YteeoejfkiipolaaDoor
namespace Rows

/-- THE TIED CARD OF 'sigillarylaw07.ArenaSwaps'. -/
def arenaSwapsCard : Claim7 := { stood := { row := arenaSwapsRow, standIns := [], harness := (true, "4ed1e356b9a319b669a2570c276f5fddcbec52e2988daa85a99890d5c129a716"), looks := true }, kinds := [], alts := [], laidByText := true, laidKinds := [.data, .handle, .pinned], laidTests := true, laidLooks := .later }
def ArenaSwapsCardSaid : Prop := Claim7.holds Tryd.pinned (.plain (OpenSpec.ofChange arenaSwapsSpec)) arenaSwapsCard

/-- THE SECOND FORM's CARD OF 'sigillarylaw07.ArenaSwaps'. -/
def arenaSwapsUptoCard : Claim7 := { stood := { row := arenaSwapsUptoRow, standIns := [], harness := (true, "4ed1e356b9a319b669a2570c276f5fddcbec52e2988daa85a99890d5c129a716"), looks := true }, kinds := [], alts := [], laidByText := true, laidKinds := [.data, .handle, .pinned], laidTests := true, laidLooks := .later }
def ArenaSwapsUptoCardSaid : Prop := Claim7.holds Tryd.pinned (.plain (OpenSpec.upto arenaSwapsSpec)) arenaSwapsUptoCard
end Rows
end Go.Proofs.YteeoejfkiipolaaDoor
