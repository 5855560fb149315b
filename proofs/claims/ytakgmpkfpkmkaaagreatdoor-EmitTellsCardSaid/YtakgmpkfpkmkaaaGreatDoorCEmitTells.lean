/- The card of EmitTells: whatever arguments of its parameters' types it is called with,the law returns true,and its arguments read as they did; no condition beside the card's own. -/
import Derived.Test.YtakgmpkfpkmkaaaGreatDoorSEmitTells
import Derived.Test.YtakgmpkfpkmkaaaGreatDoorCards
import Derived.Test.YtakgmpkfpkmkaaaGreatDoorTie
import Derived.SevenTiedAt
set_option linter.all false
namespace Go.Proofs.YtakgmpkfpkmkaaaGreatDoor
open Go
theorem emitTells_card:Rows.EmitTellsCardSaid :=
 Claim7.holds_tied_plain_at .later [] [.data, .data, .data, .data, .handle, .pinned] true (true, "c00f1d3f213d7c2a8943e706f218079287ecbb0ab0d15d0fab049e9d81d63326") true
  Go.Fw.L07.emitTells_holds (fun _ h=>by cases h) (by kernel_rfl) (fun _ h=>by cases h) emitTells_row_tie rfl ⟨rfl,rfl⟩ (by kernel_rfl) rfl
  (fun f fn hf hfn=>by
   obtain rfl : f = 3 := Option.some.inj ((show Tryz.prog.funcNamed "sigillary/sigillarylaw13.EmitTells" = some 3 by kernel_rfl).symm.trans hf) |>.symm
   obtain rfl:fn=Tryz.f3:=(Option.some.inj (Tryz.func3.symm.trans hfn)).symm
   exact⟨by kernel_rfl,fun j t ht=>by
    have ht':([24,4]:List TypeId)[j]?=some t:=by
     have e:Tryz.f3.params.toList=[24,4]:=by kernel_rfl
     rw[<- e];simpa using ht
    have hall:([24,4].all fun t=>!(Tryz.prog.wantsStandIn t))=true:=by kernel_rfl
    have:=List.all_eq_true.1 hall t (List.mem_of_getElem? ht')
    have e2:Tryz.prog.wantsStandIn t=false:=by simpa using this
    exact e2⟩)
  (by kernel_rfl)
end Go.Proofs.YtakgmpkfpkmkaaaGreatDoor
