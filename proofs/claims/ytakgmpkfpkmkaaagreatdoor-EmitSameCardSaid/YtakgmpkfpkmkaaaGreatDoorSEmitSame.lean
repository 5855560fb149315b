/- The row of EmitSame. -/
import Derived.Test.YtakgmpkfpkmkaaaGreatDoorNf
import Derived.Test.YtakgmpkfpkmkaaaGreatDoorFe
import Derived.Stop.Joined
set_option linter.all false
namespace Go.Fw.L07
open Go Go.Fw Go.Proofs Go.RowKit Go.Proofs.YtakgmpkfpkmkaaaGreatDoor
set_option maxRecDepth 4000
set_option maxRecDepth 100000 in
theorem Xnb (os:Os) (started:os.Started) (H:Type) (enc:TypeId × Value->H) :
  ReturnsInHanded {} Tryz.checked os 8 .any (fun w args=>(Rows.emitSameSpec.pre enc Tryz.prog Tryz.f8 [] false w args/\laidMetH Tryz.prog Xj2 w)/\sizedMet enc Tryz.prog Tryz.f8 (OpenSpec.ofChange Rows.emitSameSpec) false w args)
   (Rows.emitSameSpec.post enc Tryz.prog Tryz.f8 false true false false):=by
 refine Yne (C:=Tryz.checked) (tb:=4) (X:=fun w=>laidMetH Tryz.prog Xj2 w) 8 (fun _ _ hh h=>laidMetH.of_heap hh h) own started (by kernel_rfl) Tryz.func8
  (ChangeSpec.witness_at (enc:=enc) (C:=Tryz.checked) (os:=os) (X:=fun w _=>laidMetH Tryz.prog Xj2 w) false (Xfe os) #[.agg #[.int .i64 0,.slice none 0 0],.agg #[.int .i64 0,.slice none 0 0]] 8 (Xnh os) (by kernel_rfl) (by kernel_rfl) (by kernel_rfl) (by kernel_rfl) (by kernel_rfl) (Xm3 os _))
  Wad rfl (by kernel_rfl) Ynh (by kernel_rfl) (by kernel_rfl) (fun ds h=>?_) (fun W dss hL hsh=>?_)
 ·match ds,h with
  | [_,_],_=>rfl
 ·have hsh':Xam (Xc5 Tryz.prog 9) [24,24] dss:=hsh
  obtain⟨d1,d2,rfl,h1,h2⟩:=Ynf hsh'
  obtain⟨x1,rfl⟩:=Wpe h1
  obtain⟨x2,rfl⟩:=Wpe h2
  exact Yi4 (Xp8 hL) x1 x2
theorem Xux:(Rows.emitSameRow.inPlace==Tryz.prog.inPlace 8)=true:=by kernel_rfl
theorem Xuy:(Rows.emitSameRow.unfollowed==Tryz.prog.unfollowed 8)=true:=by kernel_rfl
theorem Xuz:(Rows.emitSameRow.recurses==Tryz.prog.recurses 8)=true:=by kernel_rfl
theorem Xu0:(Rows.emitSameRow.named==Tryz.prog.varsNamed 8)=true:=by kernel_rfl
set_option maxRecDepth 100000 in
theorem Xni:joinedFacts Tryz.prog 8 Tryz.f8 Rows.emitSameSpec Rows.emitSameRow=true:=by
 unfold joinedFacts
 simp only[Xux,Xuy,Xuz,Xu0,Wg9,Bool.true_and,Bool.and_true]
 kernel_rfl
theorem emitSame_holds:Rows.EmitSameSaid :=
 OpenClaim.holds_of_wide 8 Tryz.f8 rfl rfl rfl rfl rfl rfl rfl ⟨rfl,rfl,rfl,rfl,rfl⟩ rfl rfl rfl rfl rfl (by kernel_rfl) Tryz.func8 Xni
  (of_decide_eq_true (by kernel_rfl)) (by unfold Func.isWrapper;rw[if_neg (of_decide_eq_false (by kernel_rfl))];exact⟨rfl,rfl⟩)
  (fun os started H enc _=>Xnb os started H enc)
end Go.Fw.L07
