/- The card of ArenaSwaps: whatever arguments of its parameters' types it is called with,the law returns true,and its arguments read as they did; no condition beside the card's own. -/
import Derived.Test.YteeoejfkiipolaaDoorSArenaSwaps
import Derived.Test.YteeoejfkiipolaaDoorCards
import Derived.Test.YteeoejfkiipolaaDoorTie
import Derived.SevenTiedAt
set_option linter.all false
namespace Go.Proofs.YteeoejfkiipolaaDoor
open Go
theorem arenaSwaps_card : Rows.ArenaSwapsCardSaid :=
 Claim7.holds_tied_plain_at .later [] [.data, .handle, .pinned] true (true, "4ed1e356b9a319b669a2570c276f5fddcbec52e2988daa85a99890d5c129a716") true
  Go.Fw.L07.arenaSwaps_holds (fun _ h => by cases h) (by kernel_rfl) (fun _ h => by cases h) arenaSwaps_row_tie rfl ⟨rfl,rfl⟩ (by kernel_rfl) rfl
  (fun f fn hf hfn => by
   obtain rfl : f = 3 := Option.some.inj ((show Tryd.prog.funcNamed "sigillary/sigillarylaw07.ArenaSwaps" = some 3 by kernel_rfl).symm.trans hf) |>.symm
   obtain rfl : fn = Tryd.f3 := (Option.some.inj (Tryd.func3.symm.trans hfn)).symm
   exact ⟨by kernel_rfl,fun j t ht => by
    have ht' : ([24,3] : List TypeId)[j]? = some t := by
     have e : Tryd.f3.params.toList = [24,3] := by kernel_rfl
     rw [<- e]; simpa using ht
    have hall : ([24,3].all fun t => !(Tryd.prog.wantsStandIn t)) = true := by kernel_rfl
    have := List.all_eq_true.1 hall t (List.mem_of_getElem? ht')
    have e2 : Tryd.prog.wantsStandIn t = false := by simpa using this
    exact e2⟩)
  (by kernel_rfl)
end Go.Proofs.YteeoejfkiipolaaDoor
