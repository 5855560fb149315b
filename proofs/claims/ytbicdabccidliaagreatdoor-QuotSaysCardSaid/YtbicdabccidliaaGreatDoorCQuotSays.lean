/- The card of QuotSays: whatever arguments of its parameters' types it is called with,the law returns true,and its arguments read as they did; no condition beside the card's own. -/
import Derived.Test.YtbicdabccidliaaGreatDoorSQuotSays
import Derived.Test.YtbicdabccidliaaGreatDoorCards
import Derived.Test.YtbicdabccidliaaGreatDoorTie
import Derived.SevenTiedAt
set_option linter.all false
namespace Go.Proofs.YtbicdabccidliaaGreatDoor
open Go
theorem quotSays_card : Rows.QuotSaysCardSaid :=
 Claim7.holds_tied_plain_at .later [] [.data, .data, .data, .data, .handle, .pinned] true (true, "ec9cc5003a3f20daa99823733f16643943dfb5d0659e0690b288fef07db62e4d") true
  Go.Fw.L07.quotSays_holds (fun _ h => by cases h) (by kernel_rfl) (fun _ h => by cases h) quotSays_row_tie rfl ⟨rfl,rfl⟩ (by kernel_rfl) rfl
  (fun f fn hf hfn => by
   obtain rfl : f = 12 := Option.some.inj ((show Tryz.prog.funcNamed "sigillary/sigillarylaw11.QuotSays" = some 12 by kernel_rfl).symm.trans hf) |>.symm
   obtain rfl : fn = Tryz.f12 := (Option.some.inj (Tryz.func12.symm.trans hfn)).symm
   exact ⟨by kernel_rfl,fun j t ht => by
    have ht' : ([24] : List TypeId)[j]? = some t := by
     have e : Tryz.f12.params.toList = [24] := by kernel_rfl
     rw [<- e]; simpa using ht
    have hall : ([24].all fun t => !(Tryz.prog.wantsStandIn t)) = true := by kernel_rfl
    have := List.all_eq_true.1 hall t (List.mem_of_getElem? ht')
    have e2 : Tryz.prog.wantsStandIn t = false := by simpa using this
    exact e2⟩)
  (by kernel_rfl)
end Go.Proofs.YtbicdabccidliaaGreatDoor
