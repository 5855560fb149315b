/- The row of RefineTells. -/
import Derived.Test.YtejnfjophhnaeaaGreatDoorL07RW10
import Derived.Test.YtejnfjophhnaeaaGreatDoorL07RTells10
import Derived.Test.YtejnfjophhnaeaaGreatDoorFe
import Derived.Stop.Joined
set_option linter.all false
namespace Go.Fw.L07
open Go Go.Fw Go.Proofs Go.RowKit Go.Proofs.YtejnfjophhnaeaaGreatDoor
set_option maxRecDepth 4000
set_option maxRecDepth 100000 in
theorem Xji (os:Os) (started:os.Started) (H:Type) (enc:TypeId × Value->H) :
  ReturnsInHanded {} Tryz.checked os 3 .any (fun w args=>(Rows.refineTellsSpec.pre enc Tryz.prog Tryz.f3 [] false w args/\laidMetH Tryz.prog Xj5 w)/\sizedMet enc Tryz.prog Tryz.f3 (OpenSpec.ofChange Rows.refineTellsSpec) false w args)
   (Rows.refineTellsSpec.post enc Tryz.prog Tryz.f3 false true false false):=by
 refine Ylq (C:=Tryz.checked) (tb:=4) (X:=fun w=>laidMetH Tryz.prog Xj5 w) 8 (fun _ _ hh h=>laidMetH.of_heap hh h) own started (by kernel_rfl) Tryz.func3
  (ChangeSpec.witness_at (enc:=enc) (C:=Tryz.checked) (os:=os) (X:=fun w _=>laidMetH Tryz.prog Xj5 w) false (Xf7 os) #[.agg #[.int .i64 0,.slice none 0 0],.agg #[.int .i64 0,.slice none 0 0],.int .i64 0,.int .i64 0] 8 (Xm8 os) (by kernel_rfl) (by kernel_rfl) (by kernel_rfl) (by kernel_rfl) (by kernel_rfl) (Xmw os _))
  Y5l rfl (by kernel_rfl) Yls (by kernel_rfl) (by kernel_rfl) (fun ds h=>?_) (fun W dss hL hsh=>?_)
 ·match ds,h with
  | [_,_,_,_],_=>rfl
 ·have hsh':Xaq (Xdm Tryz.prog 9) [24,24,3,3] dss:=hsh
  obtain⟨d1,d2,d3,d4,rfl,h1,h2,h3,h4⟩:=X85 hsh'
  obtain⟨x1,rfl⟩:=Wlu h1
  obtain⟨x2,rfl⟩:=Wlu h2
  obtain⟨x3,rfl⟩:=Yr6 h3
  obtain⟨x4,rfl⟩:=Yr6 h4
  exact Xr3 (Xpt hL) x1 x2 x3 x4
theorem Xm9:(Rows.refineTellsRow.inPlace==Tryz.prog.inPlace 3)=true:=by kernel_rfl
theorem Xna:(Rows.refineTellsRow.unfollowed==Tryz.prog.unfollowed 3)=true:=by kernel_rfl
theorem Xnb:(Rows.refineTellsRow.recurses==Tryz.prog.recurses 3)=true:=by kernel_rfl
theorem Xnc:(Rows.refineTellsRow.named==Tryz.prog.varsNamed 3)=true:=by kernel_rfl
set_option maxRecDepth 100000 in
theorem Xj9:joinedFacts Tryz.prog 3 Tryz.f3 Rows.refineTellsSpec Rows.refineTellsRow=true:=by
 unfold joinedFacts
 simp only[Xm9,Xna,Xnb,Xnc,Weo,Bool.true_and,Bool.and_true]
 kernel_rfl
theorem refineTells_holds:Rows.RefineTellsSaid :=
 OpenClaim.holds_of_wide 3 Tryz.f3 rfl rfl rfl rfl rfl rfl rfl ⟨rfl,rfl,rfl,rfl,rfl⟩ rfl rfl rfl rfl rfl (by kernel_rfl) Tryz.func3 Xj9
  (of_decide_eq_true (by kernel_rfl)) (by unfold Func.isWrapper;rw[if_neg (of_decide_eq_false (by kernel_rfl))];exact⟨rfl,rfl⟩)
  (fun os started H enc _=>Xji os started H enc)
end Go.Fw.L07
