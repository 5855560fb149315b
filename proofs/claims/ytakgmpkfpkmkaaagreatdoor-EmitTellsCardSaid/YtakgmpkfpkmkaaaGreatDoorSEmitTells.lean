/- The row of EmitTells. -/
import Derived.Test.YtakgmpkfpkmkaaaGreatDoorNe
import Derived.Test.YtakgmpkfpkmkaaaGreatDoorFe
import Derived.Stop.Joined
set_option linter.all false
namespace Go.Fw.L07
open Go Go.Fw Go.Proofs Go.RowKit Go.Proofs.YtakgmpkfpkmkaaaGreatDoor
set_option maxRecDepth 4000
set_option maxRecDepth 100000 in
theorem Xjt (os:Os) (started:os.Started) (H:Type) (enc:TypeId × Value->H) :
  ReturnsInHanded {} Tryz.checked os 3 .any (fun w args=>(Rows.emitTellsSpec.pre enc Tryz.prog Tryz.f3 [] false w args/\laidMetH Tryz.prog Xi5 w)/\sizedMet enc Tryz.prog Tryz.f3 (OpenSpec.ofChange Rows.emitTellsSpec) false w args)
   (Rows.emitTellsSpec.post enc Tryz.prog Tryz.f3 false true false false):=by
 refine Yut (C:=Tryz.checked) (tb:=4) (X:=fun w=>laidMetH Tryz.prog Xi5 w) 8 (fun _ _ hh h=>laidMetH.of_heap hh h) own started (by kernel_rfl) Tryz.func3
  (ChangeSpec.witness_at (enc:=enc) (C:=Tryz.checked) (os:=os) (X:=fun w _=>laidMetH Tryz.prog Xi5 w) false (Xfu os) #[.agg #[.int .i64 0,.slice none 0 0],.bool false] 8 (Xmt os) (by kernel_rfl) (by kernel_rfl) (by kernel_rfl) (by kernel_rfl) (by kernel_rfl) (Xmj os _))
  Wob rfl (by kernel_rfl) Yuw (by kernel_rfl) (by kernel_rfl) (fun ds h=>?_) (fun W dss hL hsh=>?_)
 ·match ds,h with
  | [_,_],_=>rfl
 ·have hsh':Xal (Xcg Tryz.prog 9) [24,4] dss:=hsh
  obtain⟨d1,d2,rfl,h1,h2⟩:=Yuu hsh'
  obtain⟨x1,rfl⟩:=Jgz h1
  obtain⟨x2,rfl⟩:=Wod h2
  exact X3a (Xpq hL) x1 x2
theorem Xsj:(Rows.emitTellsRow.inPlace==Tryz.prog.inPlace 3)=true:=by kernel_rfl
theorem Xsk:(Rows.emitTellsRow.unfollowed==Tryz.prog.unfollowed 3)=true:=by kernel_rfl
theorem Xsl:(Rows.emitTellsRow.recurses==Tryz.prog.recurses 3)=true:=by kernel_rfl
theorem Xsm:(Rows.emitTellsRow.named==Tryz.prog.varsNamed 3)=true:=by kernel_rfl
set_option maxRecDepth 100000 in
theorem Xmm:joinedFacts Tryz.prog 3 Tryz.f3 Rows.emitTellsSpec Rows.emitTellsRow=true:=by
 unfold joinedFacts
 simp only[Xsj,Xsk,Xsl,Xsm,Www,Bool.true_and,Bool.and_true]
 kernel_rfl
theorem emitTells_holds:Rows.EmitTellsSaid :=
 OpenClaim.holds_of_wide 3 Tryz.f3 rfl rfl rfl rfl rfl rfl rfl ⟨rfl,rfl,rfl,rfl,rfl⟩ rfl rfl rfl rfl rfl (by kernel_rfl) Tryz.func3 Xmm
  (of_decide_eq_true (by kernel_rfl)) (by unfold Func.isWrapper;rw[if_neg (of_decide_eq_false (by kernel_rfl))];exact⟨rfl,rfl⟩)
  (fun os started H enc _=>Xjt os started H enc)
end Go.Fw.L07
