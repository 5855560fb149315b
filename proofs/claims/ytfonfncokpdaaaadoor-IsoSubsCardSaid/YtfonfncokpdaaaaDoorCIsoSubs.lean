/- The card of IsoSubs: whatever arguments of its parameters' types it is called with, the law returns true, and its arguments read as they did; no condition beside the card's own. -/
import Derived.Test.YtfonfncokpdaaaaDoorSIsoSubs
import Derived.Test.YtfonfncokpdaaaaDoorCards
import Derived.Test.YtfonfncokpdaaaaDoorTie
import Derived.SevenTiedAt
set_option linter.all false
namespace Go.Proofs.YtfonfncokpdaaaaDoor
open Go
theorem isoSubs_card : Rows.IsoSubsCardSaid :=
  Claim7.holds_tied_plain_at .later [] [.data, .handle, .sentinel, .pinned] true (true, "8d50f822162d867592f7f83c6e926530a6e2343790c9f02b67c6e4717d2315ae") true
    Go.Fw.L07.isoSubs_holds (fun _ h => by cases h) (by kernel_rfl) (fun _ h => by cases h) isoSubs_row_tie rfl ⟨rfl, rfl⟩ (by kernel_rfl) rfl
    (fun f fn hf hfn => by
      obtain rfl : f = 6 := Option.some.inj ((show Tryd.prog.funcNamed "sigillary/sigillarylaw09.IsoSubs" = some 6 by kernel_rfl).symm.trans hf) |>.symm
      obtain rfl : fn = Tryd.f6 := (Option.some.inj (Tryd.func6.symm.trans hfn)).symm
      exact ⟨by kernel_rfl, fun j t ht => by
        have ht' : ([24, 24, 30] : List TypeId)[j]? = some t := by
          have e : Tryd.f6.params.toList = [24, 24, 30] := by kernel_rfl
          rw [← e]; simpa using ht
        have hall : ([24, 24, 30].all fun t => !(Tryd.prog.wantsStandIn t)) = true := by kernel_rfl
        have := List.all_eq_true.1 hall t (List.mem_of_getElem? ht')
        have e2 : Tryd.prog.wantsStandIn t = false := by simpa using this
        exact e2⟩)
    (by kernel_rfl)
end Go.Proofs.YtfonfncokpdaaaaDoor
