/- The card of WalkTells: whatever arguments of its parameters' types it is called with,the law returns true,and its arguments read as they did; no condition beside the card's own. -/
import Derived.Test.YtldjkoidjigjpaaGreatDoorSWalkTells
import Derived.Test.YtldjkoidjigjpaaGreatDoorCards
import Derived.Test.YtldjkoidjigjpaaGreatDoorTie
import Derived.SevenTiedAt
set_option linter.all false
namespace Go.Proofs.YtldjkoidjigjpaaGreatDoor
open Go
theorem walkTells_card : Rows.WalkTellsCardSaid :=
 Claim7.holds_tied_plain_at .later [] [.data, .handle, .pinned] true (true, "bbff44d403d39c3ed3f723734f858d1c74eb89ce23a60b09fad5726dd6eace97") true
  Go.Fw.L07.walkTells_holds (fun _ h => by cases h) (by kernel_rfl) (fun _ h => by cases h) walkTells_row_tie rfl ⟨rfl,rfl⟩ (by kernel_rfl) rfl
  (fun f fn hf hfn => by
   obtain rfl : f = 6 := Option.some.inj ((show Tryz.prog.funcNamed "sigillary/sigillarylaw12.WalkTells" = some 6 by kernel_rfl).symm.trans hf) |>.symm
   obtain rfl : fn = Tryz.f6 := (Option.some.inj (Tryz.func6.symm.trans hfn)).symm
   exact ⟨by kernel_rfl,fun j t ht => by
    have ht' : ([24,4] : List TypeId)[j]? = some t := by
     have e : Tryz.f6.params.toList = [24,4] := by kernel_rfl
     rw [<- e]; simpa using ht
    have hall : ([24,4].all fun t => !(Tryz.prog.wantsStandIn t)) = true := by kernel_rfl
    have := List.all_eq_true.1 hall t (List.mem_of_getElem? ht')
    have e2 : Tryz.prog.wantsStandIn t = false := by simpa using this
    exact e2⟩)
  (by kernel_rfl)
end Go.Proofs.YtldjkoidjigjpaaGreatDoor
