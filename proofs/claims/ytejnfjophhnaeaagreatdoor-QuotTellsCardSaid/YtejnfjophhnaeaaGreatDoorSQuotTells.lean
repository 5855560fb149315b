/- The row of QuotTells. -/
import Derived.Test.YtejnfjophhnaeaaGreatDoorL07RW10
import Derived.Test.YtejnfjophhnaeaaGreatDoorL07RTells11
import Derived.Test.YtejnfjophhnaeaaGreatDoorFe
import Derived.Stop.Joined
set_option linter.all false
namespace Go.Fw.L07
open Go Go.Fw Go.Proofs Go.RowKit Go.Proofs.YtejnfjophhnaeaaGreatDoor
set_option maxRecDepth 4000
set_option maxRecDepth 100000 in
theorem Xky (os:Os) (started:os.Started) (H:Type) (enc:TypeId × Value->H) :
  ReturnsInHanded {} Tryz.checked os 9 .any (fun w args=>(Rows.quotTellsSpec.pre enc Tryz.prog Tryz.f9 [] false w args/\laidMetH Tryz.prog Xkg w)/\sizedMet enc Tryz.prog Tryz.f9 (OpenSpec.ofChange Rows.quotTellsSpec) false w args)
   (Rows.quotTellsSpec.post enc Tryz.prog Tryz.f9 false true false false):=by
 refine Yoj (C:=Tryz.checked) (tb:=4) (X:=fun w=>laidMetH Tryz.prog Xkg w) 8 (fun _ _ hh h=>laidMetH.of_heap hh h) own started (by kernel_rfl) Tryz.func9
  (ChangeSpec.witness_at (enc:=enc) (C:=Tryz.checked) (os:=os) (X:=fun w _=>laidMetH Tryz.prog Xkg w) false (Xgf os) #[.agg #[.int .i64 0,.slice none 0 0]] 8 (Xns os) (by kernel_rfl) (by kernel_rfl) (by kernel_rfl) (by kernel_rfl) (by kernel_rfl) (Xnf os _))
  Wcj rfl (by kernel_rfl) Yom (by kernel_rfl) (by kernel_rfl) (fun ds h=>?_) (fun W dss hL hsh=>?_)
 ·match ds,h with
  | [_],_=>rfl
 ·have hsh':Xap (Xd9 Tryz.prog 9) [24] dss:=hsh
  obtain⟨d1,rfl,h1⟩:=Yok hsh'
  obtain⟨x1,rfl⟩:=W5h h1
  exact X1k (Xqb hL) x1
theorem Xsl:(Rows.quotTellsRow.inPlace==Tryz.prog.inPlace 9)=true:=by kernel_rfl
theorem Xsm:(Rows.quotTellsRow.unfollowed==Tryz.prog.unfollowed 9)=true:=by kernel_rfl
theorem Xsn:(Rows.quotTellsRow.recurses==Tryz.prog.recurses 9)=true:=by kernel_rfl
theorem Xso:(Rows.quotTellsRow.named==Tryz.prog.varsNamed 9)=true:=by kernel_rfl
set_option maxRecDepth 100000 in
theorem Xnl:joinedFacts Tryz.prog 9 Tryz.f9 Rows.quotTellsSpec Rows.quotTellsRow=true:=by
 unfold joinedFacts
 simp only[Xsl,Xsm,Xsn,Xso,Wle,Bool.true_and,Bool.and_true]
 kernel_rfl
theorem quotTells_holds:Rows.QuotTellsSaid :=
 OpenClaim.holds_of_wide 9 Tryz.f9 rfl rfl rfl rfl rfl rfl rfl ⟨rfl,rfl,rfl,rfl,rfl⟩ rfl rfl rfl rfl rfl (by kernel_rfl) Tryz.func9 Xnl
  (of_decide_eq_true (by kernel_rfl)) (by unfold Func.isWrapper;rw[if_neg (of_decide_eq_false (by kernel_rfl))];exact⟨rfl,rfl⟩)
  (fun os started H enc _=>Xky os started H enc)
end Go.Fw.L07
