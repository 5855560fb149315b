/- The card of ArenaLess: whatever arguments of its parameters' types it is called with, the law returns true, and its arguments read as they did; no condition beside the card's own. -/
import Derived.Test.YtnampnnphgedhaaDoorSArenaLess
import Derived.Test.YtnampnnphgedhaaDoorCards
import Derived.Test.YtnampnnphgedhaaDoorTie
import Derived.SevenTiedAt
set_option linter.all false
namespace Go.Proofs.YtnampnnphgedhaaDoor
open Go

theorem arenaLess_card : Rows.ArenaLessCardSaid :=
  Claim7.holds_tied_plain_at .later [] [.data, .handle, .pinned] true (true, "dab96d328511564ffb0caba8d9050ab7f236cbc00f935298051003d745ddeeda") true
    Go.Fw.L07.arenaLess_holds (fun _ h => by cases h) (by kernel_rfl) (fun _ h => by cases h) arenaLess_row_tie rfl ⟨rfl, rfl⟩ (by kernel_rfl) rfl
    (fun f fn hf hfn => by
      obtain rfl : f = 4 := Option.some.inj ((show Tryd.prog.funcNamed "sigillary/sigillarylaw07.ArenaLess" = some 4 by kernel_rfl).symm.trans hf) |>.symm
      obtain rfl : fn = Tryd.f4 := (Option.some.inj (Tryd.func4.symm.trans hfn)).symm
      exact ⟨by kernel_rfl, fun j t ht => by
        have ht' : ([24] : List TypeId)[j]? = some t := by
          have e : Tryd.f4.params.toList = [24] := by kernel_rfl
          rw [← e]; simpa using ht
        have hall : ([24].all fun t => !(Tryd.prog.wantsStandIn t)) = true := by kernel_rfl
        have := List.all_eq_true.1 hall t (List.mem_of_getElem? ht')
        have e2 : Tryd.prog.wantsStandIn t = false := by simpa using this
        exact e2⟩)
    (by kernel_rfl)
end Go.Proofs.YtnampnnphgedhaaDoor
