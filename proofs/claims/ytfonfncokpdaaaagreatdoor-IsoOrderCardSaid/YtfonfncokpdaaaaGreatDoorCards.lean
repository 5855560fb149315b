/-
  DERIVED. GIVEN WITH THE SEED: THE CARDS: each row of YtfonfncokpdaaaaGreatDoorRows.lean that lists a variable, with what it lists TIED to the program's text (the seventh form; the later family's looks); each row that meets fmt, with fmt's text TOLD by the authors' own Lean function (tested against real Go, not proved from fmt's source: count such statements apart). THE CARD IS WHAT COUNTS. Prove the row's statement (the work); the ties are given (YtfonfncokpdaaaaGreatDoorTie.lean); close each card by the builder's one call (the guide's Derived/Test/ToyasCard.lean, 'card_holds'). Laid BY PROGRAM, IN A SANDBOX (cutbox-door.mjs). By AI agents, Wed Nov 11 2026. No macro, syntax, notation, axiom, sorry.
-/
import Derived.Test.YtfonfncokpdaaaaGreatDoorRows
import GoSem.ClaimSeven
namespace Go.Proofs.YtfonfncokpdaaaaGreatDoor
namespace Rows

/-- THE TIED CARD OF 'sigillarylaw12.WalkSums'. -/
def walkSumsCard : Claim7 := { stood := { row := walkSumsRow, standIns := [], harness := (true, "c8af7979541c7ea443e8a2531a22371bed3e92d3dbd8ff7f84861642c7073a6c"), looks := true }, kinds := [], alts := [], laidByText := true, laidKinds := [.data, .handle, .pinned], laidTests := true, laidLooks := .later }
def WalkSumsCardSaid : Prop := Claim7.holds Tryz.pinned (.plain (OpenSpec.ofChange walkSumsSpec)) walkSumsCard

/-- THE TIED CARD OF 'sigillarylaw12.WalkAnchors'. -/
def walkAnchorsCard : Claim7 := { stood := { row := walkAnchorsRow, standIns := [], harness := (true, "c8af7979541c7ea443e8a2531a22371bed3e92d3dbd8ff7f84861642c7073a6c"), looks := true }, kinds := [], alts := [], laidByText := true, laidKinds := [.data, .handle, .pinned], laidTests := true, laidLooks := .later }
def WalkAnchorsCardSaid : Prop := Claim7.holds Tryz.pinned (.plain (OpenSpec.ofChange walkAnchorsSpec)) walkAnchorsCard

/-- THE TIED CARD OF 'sigillarylaw12.WalkDepths'. -/
def walkDepthsCard : Claim7 := { stood := { row := walkDepthsRow, standIns := [], harness := (true, "c8af7979541c7ea443e8a2531a22371bed3e92d3dbd8ff7f84861642c7073a6c"), looks := true }, kinds := [], alts := [], laidByText := true, laidKinds := [.data, .handle, .pinned], laidTests := true, laidLooks := .later }
def WalkDepthsCardSaid : Prop := Claim7.holds Tryz.pinned (.plain (OpenSpec.ofChange walkDepthsSpec)) walkDepthsCard

/-- THE TIED CARD OF 'sigillarylaw12.WalkTrees'. -/
def walkTreesCard : Claim7 := { stood := { row := walkTreesRow, standIns := [], harness := (true, "c8af7979541c7ea443e8a2531a22371bed3e92d3dbd8ff7f84861642c7073a6c"), looks := true }, kinds := [], alts := [], laidByText := true, laidKinds := [.data, .handle, .pinned], laidTests := true, laidLooks := .later }
def WalkTreesCardSaid : Prop := Claim7.holds Tryz.pinned (.plain (OpenSpec.ofChange walkTreesSpec)) walkTreesCard

/-- THE TIED CARD OF 'sigillarylaw09.IsoPaths'. -/
def isoPathsCard : Claim7 := { stood := { row := isoPathsRow, standIns := [], harness := (true, "c8af7979541c7ea443e8a2531a22371bed3e92d3dbd8ff7f84861642c7073a6c"), looks := true }, kinds := [], alts := [], laidByText := true, laidKinds := [.data, .handle, .sentinel, .pinned], laidTests := true, laidLooks := .later }
def IsoPathsCardSaid : Prop := Claim7.holds Tryz.pinned (.plain (OpenSpec.ofChange isoPathsSpec)) isoPathsCard

/-- THE TIED CARD OF 'sigillarylaw09.IsoOrder'. -/
def isoOrderCard : Claim7 := { stood := { row := isoOrderRow, standIns := [], harness := (true, "c8af7979541c7ea443e8a2531a22371bed3e92d3dbd8ff7f84861642c7073a6c"), looks := true }, kinds := [], alts := [], laidByText := true, laidKinds := [.data, .handle, .sentinel, .pinned], laidTests := true, laidLooks := .later }
def IsoOrderCardSaid : Prop := Claim7.holds Tryz.pinned (.plain (OpenSpec.ofChange isoOrderSpec)) isoOrderCard

/-- THE TIED CARD OF 'sigillarylaw09.IsoTidy'. -/
def isoTidyCard : Claim7 := { stood := { row := isoTidyRow, standIns := [], harness := (true, "c8af7979541c7ea443e8a2531a22371bed3e92d3dbd8ff7f84861642c7073a6c"), looks := true }, kinds := [], alts := [], laidByText := true, laidKinds := [.data, .handle, .sentinel, .pinned], laidTests := true, laidLooks := .later }
def IsoTidyCardSaid : Prop := Claim7.holds Tryz.pinned (.plain (OpenSpec.ofChange isoTidySpec)) isoTidyCard

/-- THE SECOND FORM's CARD OF 'sigillarylaw12.WalkSums'. -/
def walkSumsUptoCard : Claim7 := { stood := { row := walkSumsUptoRow, standIns := [], harness := (true, "c8af7979541c7ea443e8a2531a22371bed3e92d3dbd8ff7f84861642c7073a6c"), looks := true }, kinds := [], alts := [], laidByText := true, laidKinds := [.data, .handle, .pinned], laidTests := true, laidLooks := .later }
def WalkSumsUptoCardSaid : Prop := Claim7.holds Tryz.pinned (.plain (OpenSpec.upto walkSumsSpec)) walkSumsUptoCard

/-- THE SECOND FORM's CARD OF 'sigillarylaw12.WalkAnchors'. -/
def walkAnchorsUptoCard : Claim7 := { stood := { row := walkAnchorsUptoRow, standIns := [], harness := (true, "c8af7979541c7ea443e8a2531a22371bed3e92d3dbd8ff7f84861642c7073a6c"), looks := true }, kinds := [], alts := [], laidByText := true, laidKinds := [.data, .handle, .pinned], laidTests := true, laidLooks := .later }
def WalkAnchorsUptoCardSaid : Prop := Claim7.holds Tryz.pinned (.plain (OpenSpec.upto walkAnchorsSpec)) walkAnchorsUptoCard

/-- THE SECOND FORM's CARD OF 'sigillarylaw12.WalkDepths'. -/
def walkDepthsUptoCard : Claim7 := { stood := { row := walkDepthsUptoRow, standIns := [], harness := (true, "c8af7979541c7ea443e8a2531a22371bed3e92d3dbd8ff7f84861642c7073a6c"), looks := true }, kinds := [], alts := [], laidByText := true, laidKinds := [.data, .handle, .pinned], laidTests := true, laidLooks := .later }
def WalkDepthsUptoCardSaid : Prop := Claim7.holds Tryz.pinned (.plain (OpenSpec.upto walkDepthsSpec)) walkDepthsUptoCard

/-- THE SECOND FORM's CARD OF 'sigillarylaw12.WalkTrees'. -/
def walkTreesUptoCard : Claim7 := { stood := { row := walkTreesUptoRow, standIns := [], harness := (true, "c8af7979541c7ea443e8a2531a22371bed3e92d3dbd8ff7f84861642c7073a6c"), looks := true }, kinds := [], alts := [], laidByText := true, laidKinds := [.data, .handle, .pinned], laidTests := true, laidLooks := .later }
def WalkTreesUptoCardSaid : Prop := Claim7.holds Tryz.pinned (.plain (OpenSpec.upto walkTreesSpec)) walkTreesUptoCard

/-- THE SECOND FORM's CARD OF 'sigillarylaw09.IsoPaths'. -/
def isoPathsUptoCard : Claim7 := { stood := { row := isoPathsUptoRow, standIns := [], harness := (true, "c8af7979541c7ea443e8a2531a22371bed3e92d3dbd8ff7f84861642c7073a6c"), looks := true }, kinds := [], alts := [], laidByText := true, laidKinds := [.data, .handle, .sentinel, .pinned], laidTests := true, laidLooks := .later }
def IsoPathsUptoCardSaid : Prop := Claim7.holds Tryz.pinned (.plain (OpenSpec.upto isoPathsSpec)) isoPathsUptoCard

/-- THE SECOND FORM's CARD OF 'sigillarylaw09.IsoOrder'. -/
def isoOrderUptoCard : Claim7 := { stood := { row := isoOrderUptoRow, standIns := [], harness := (true, "c8af7979541c7ea443e8a2531a22371bed3e92d3dbd8ff7f84861642c7073a6c"), looks := true }, kinds := [], alts := [], laidByText := true, laidKinds := [.data, .handle, .sentinel, .pinned], laidTests := true, laidLooks := .later }
def IsoOrderUptoCardSaid : Prop := Claim7.holds Tryz.pinned (.plain (OpenSpec.upto isoOrderSpec)) isoOrderUptoCard

/-- THE SECOND FORM's CARD OF 'sigillarylaw09.IsoTidy'. -/
def isoTidyUptoCard : Claim7 := { stood := { row := isoTidyUptoRow, standIns := [], harness := (true, "c8af7979541c7ea443e8a2531a22371bed3e92d3dbd8ff7f84861642c7073a6c"), looks := true }, kinds := [], alts := [], laidByText := true, laidKinds := [.data, .handle, .sentinel, .pinned], laidTests := true, laidLooks := .later }
def IsoTidyUptoCardSaid : Prop := Claim7.holds Tryz.pinned (.plain (OpenSpec.upto isoTidySpec)) isoTidyUptoCard
end Rows
end Go.Proofs.YtfonfncokpdaaaaGreatDoor
