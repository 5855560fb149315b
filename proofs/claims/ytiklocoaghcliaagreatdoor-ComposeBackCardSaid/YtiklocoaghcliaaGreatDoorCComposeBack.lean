/- The card of ComposeBack: whatever arguments of its parameters' types it is called with,the law returns true,and its arguments read as they did; no condition beside the card's own. -/
import Derived.Test.YtiklocoaghcliaaGreatDoorSComposeBack
import Derived.Test.YtiklocoaghcliaaGreatDoorCards
import Derived.Test.YtiklocoaghcliaaGreatDoorTie
import Derived.SevenTiedAt
set_option linter.all false
namespace Go.Proofs.YtiklocoaghcliaaGreatDoor
open Go
theorem composeBack_card:Rows.ComposeBackCardSaid :=
 Claim7.holds_tied_plain_at .later [] [.data, .data, .data, .data, .handle, .sentinel, .pinned] true (true, "52be0757eede980cc65cb1e63201a83bec6db2b4969c706cdb70f2318f51f9c1") true
  Go.Fw.L07.composeBack_holds (fun _ h=>by cases h) (by kernel_rfl) (fun _ h=>by cases h) composeBack_row_tie rfl ⟨rfl,rfl⟩ (by kernel_rfl) rfl
  (fun f fn hf hfn=>by
   obtain rfl : f = 8 := Option.some.inj ((show Tryz.prog.funcNamed "sigillary/sigillarylaw18.ComposeBack" = some 8 by kernel_rfl).symm.trans hf) |>.symm
   obtain rfl:fn=Tryz.f8:=(Option.some.inj (Tryz.func8.symm.trans hfn)).symm
   exact⟨by kernel_rfl,fun j t ht=>by
    have ht':([24]:List TypeId)[j]?=some t:=by
     have e:Tryz.f8.params.toList=[24]:=by kernel_rfl
     rw[<- e];simpa using ht
    have hall:([24].all fun t=>!(Tryz.prog.wantsStandIn t))=true:=by kernel_rfl
    have:=List.all_eq_true.1 hall t (List.mem_of_getElem? ht')
    have e2:Tryz.prog.wantsStandIn t=false:=by simpa using this
    exact e2⟩)
  (by kernel_rfl)
end Go.Proofs.YtiklocoaghcliaaGreatDoor
