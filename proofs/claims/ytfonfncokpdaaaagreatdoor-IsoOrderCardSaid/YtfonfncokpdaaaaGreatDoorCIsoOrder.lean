/- The card of IsoOrder: whatever arguments of its parameters' types it is called with, the law returns true, and its arguments read as they did; no condition beside the card's own. -/
import Derived.Test.YtfonfncokpdaaaaGreatDoorSIsoOrder
import Derived.Test.YtfonfncokpdaaaaGreatDoorCards
import Derived.Test.YtfonfncokpdaaaaGreatDoorTie
import Derived.SevenTiedAt
set_option linter.all false
namespace Go.Proofs.YtfonfncokpdaaaaGreatDoor
open Go
theorem isoOrder_card : Rows.IsoOrderCardSaid :=
  Claim7.holds_tied_plain_at .later [] [.data, .handle, .sentinel, .pinned] true (true, "c8af7979541c7ea443e8a2531a22371bed3e92d3dbd8ff7f84861642c7073a6c") true
    Go.Fw.L07.isoOrder_holds (fun _ h => by cases h) (by kernel_rfl) (fun _ h => by cases h) isoOrder_row_tie rfl ⟨rfl, rfl⟩ (by kernel_rfl) rfl
    (fun f fn hf hfn => by
      obtain rfl : f = 8 := Option.some.inj ((show Tryz.prog.funcNamed "sigillary/sigillarylaw09.IsoOrder" = some 8 by kernel_rfl).symm.trans hf) |>.symm
      obtain rfl : fn = Tryz.f8 := (Option.some.inj (Tryz.func8.symm.trans hfn)).symm
      exact ⟨by kernel_rfl, fun j t ht => by
        have ht' : ([24, 24, 24] : List TypeId)[j]? = some t := by
          have e : Tryz.f8.params.toList = [24, 24, 24] := by kernel_rfl
          rw [← e]; simpa using ht
        have hall : ([24, 24, 24].all fun t => !(Tryz.prog.wantsStandIn t)) = true := by kernel_rfl
        have := List.all_eq_true.1 hall t (List.mem_of_getElem? ht')
        have e2 : Tryz.prog.wantsStandIn t = false := by simpa using this
        exact e2⟩)
    (by kernel_rfl)
end Go.Proofs.YtfonfncokpdaaaaGreatDoor
