/- The row of ComposeBack. -/
import Derived.Test.YtiklocoaghcliaaGreatDoorL07RW18
import Derived.Test.YtiklocoaghcliaaGreatDoorL07RBack18
import Derived.Test.YtiklocoaghcliaaGreatDoorFe
import Derived.Stop.Joined
set_option linter.all false
namespace Go.Fw.L07
open Go Go.Fw Go.Proofs Go.RowKit Go.Proofs.YtiklocoaghcliaaGreatDoor
set_option maxRecDepth 4000
set_option maxRecDepth 100000 in
theorem Xjg (os:Os) (started:os.Started) (H:Type) (enc:TypeId × Value->H) :
  ReturnsInHanded {} Tryz.checked os 8 .any (fun w args=>(Rows.composeBackSpec.pre enc Tryz.prog Tryz.f8 [] false w args/\laidMetH Tryz.prog Xj6 w)/\sizedMet enc Tryz.prog Tryz.f8 (OpenSpec.ofChange Rows.composeBackSpec) false w args)
   (Rows.composeBackSpec.post enc Tryz.prog Tryz.f8 false true false false):=by
 refine Ymm (C:=Tryz.checked) (tb:=4) (X:=fun w=>laidMetH Tryz.prog Xj6 w) 8 (fun _ _ hh h=>laidMetH.of_heap hh h) own started (by kernel_rfl) Tryz.func8
  (ChangeSpec.witness_at (enc:=enc) (C:=Tryz.checked) (os:=os) (X:=fun w _=>laidMetH Tryz.prog Xj6 w) false (Xf7 os) #[.agg #[.int .i64 0,.slice none 0 0]] 8 (Xnn os) (by kernel_rfl) (by kernel_rfl) (by kernel_rfl) (by kernel_rfl) (by kernel_rfl) (Xm4 os _))
  Y9q rfl (by kernel_rfl) Ymq (by kernel_rfl) (by kernel_rfl) (fun ds h=>?_) (fun W dss hL hsh=>?_)
 ·match ds,h with
  | [_],_=>rfl
 ·have hsh':Xan (Xdd Tryz.prog 9) [24] dss:=hsh
  obtain⟨d1,rfl,h1⟩:=Ymn hsh'
  obtain⟨x1,rfl⟩:=W0a h1
  obtain⟨ua,h18⟩:=Xqg hL
  exact Yih h18 x1
theorem Xnp:(Rows.composeBackRow.inPlace==Tryz.prog.inPlace 8)=true:=by kernel_rfl
theorem Xnq:(Rows.composeBackRow.unfollowed==Tryz.prog.unfollowed 8)=true:=by kernel_rfl
theorem Xnr:(Rows.composeBackRow.recurses==Tryz.prog.recurses 8)=true:=by kernel_rfl
theorem Xns:(Rows.composeBackRow.named==Tryz.prog.varsNamed 8)=true:=by kernel_rfl
set_option maxRecDepth 100000 in
theorem Xj8:joinedFacts Tryz.prog 8 Tryz.f8 Rows.composeBackSpec Rows.composeBackRow=true:=by
 unfold joinedFacts
 simp only[Xnp,Xnq,Xnr,Xns,Wf3,Bool.true_and,Bool.and_true]
 kernel_rfl
theorem composeBack_holds:Rows.ComposeBackSaid :=
 OpenClaim.holds_of_wide 8 Tryz.f8 rfl rfl rfl rfl rfl rfl rfl ⟨rfl,rfl,rfl,rfl,rfl⟩ rfl rfl rfl rfl rfl (by kernel_rfl) Tryz.func8 Xj8
  (of_decide_eq_true (by kernel_rfl)) (by unfold Func.isWrapper;rw[if_neg (of_decide_eq_false (by kernel_rfl))];exact⟨rfl,rfl⟩)
  (fun os started H enc _=>Xjg os started H enc)
end Go.Fw.L07
