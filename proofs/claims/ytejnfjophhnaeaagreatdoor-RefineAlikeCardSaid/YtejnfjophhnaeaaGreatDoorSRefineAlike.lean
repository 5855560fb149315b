/- The row of RefineAlike. -/
import Derived.Test.YtejnfjophhnaeaaGreatDoorL07RWA10
import Derived.Test.YtejnfjophhnaeaaGreatDoorL07RAlike10
import Derived.Test.YtejnfjophhnaeaaGreatDoorFe
import Derived.Stop.Joined
set_option linter.all false
namespace Go.Fw.L07
open Go Go.Fw Go.Proofs Go.RowKit Go.Proofs.YtejnfjophhnaeaaGreatDoor
set_option maxRecDepth 4000
set_option maxRecDepth 100000 in
theorem Xh7 (os : Os) (started : os.Started) (H : Type) (enc : TypeId × Value -> H) :
  ReturnsInHanded {} Tryz.checked os 11 .any (fun w args => (Rows.refineAlikeSpec.pre enc Tryz.prog Tryz.f11 [] false w args /\ laidMetH Tryz.prog Xmm w) /\ sizedMet enc Tryz.prog Tryz.f11 (OpenSpec.ofChange Rows.refineAlikeSpec) false w args)
   (Rows.refineAlikeSpec.post enc Tryz.prog Tryz.f11 false true false false) := by
 refine Yfq (C := Tryz.checked) (tb := 4) (X := fun w => laidMetH Tryz.prog Xmm w) 8 (fun _ _ hh h => laidMetH.of_heap hh h) own started (by kernel_rfl) Tryz.func11
  (ChangeSpec.witness_at (enc := enc) (C := Tryz.checked) (os := os) (X := fun w _ => laidMetH Tryz.prog Xmm w) false (Xgc os) #[.agg #[.int .i64 0,.slice none 0 0],.agg #[.int .i64 0,.slice none 0 0],.agg #[.int .i64 0,.slice none 0 0]] 8 (Xn2 os) (by kernel_rfl) (by kernel_rfl) (by kernel_rfl) (by kernel_rfl) (by kernel_rfl) (Xlp os _))
  Ywh rfl (by kernel_rfl) Yfs (by kernel_rfl) (by kernel_rfl) (fun ds h => ?_) (fun W dss hL hsh => ?_)
 ·match ds,h with
  | [_,_,_],_ => rfl
 ·have hsh' : All2 (Xc5 Tryz.prog 9) [24,24,24] dss := hsh
  obtain ⟨d1,d2,d3,rfl,h1,h2,h3⟩ := Xxm hsh'
  obtain ⟨x1,rfl⟩ := Ywj h1
  obtain ⟨x2,rfl⟩ := Ywj h2
  obtain ⟨x3,rfl⟩ := Ywj h3
  obtain ⟨ua,h9,hP⟩ := Xp9 hL
  exact Xqc h9 hP x1 x2 x3
theorem Xlr : (Rows.refineAlikeRow.inPlace == Tryz.prog.inPlace 11) = true := by kernel_rfl
theorem Xls : (Rows.refineAlikeRow.unfollowed == Tryz.prog.unfollowed 11) = true := by kernel_rfl
theorem Xlt : (Rows.refineAlikeRow.recurses == Tryz.prog.recurses 11) = true := by kernel_rfl
theorem Xlu : (Rows.refineAlikeRow.named == Tryz.prog.varsNamed 11) = true := by kernel_rfl
set_option maxRecDepth 100000 in
theorem Xi2 : joinedFacts Tryz.prog 11 Tryz.f11 Rows.refineAlikeSpec Rows.refineAlikeRow = true := by
 unfold joinedFacts
 simp only [Xlr,Xls,Xlt,Xlu,Y4y,Bool.true_and,Bool.and_true]
 kernel_rfl
theorem refineAlike_holds : Rows.RefineAlikeSaid :=
 OpenClaim.holds_of_wide 11 Tryz.f11 rfl rfl rfl rfl rfl rfl rfl ⟨rfl,rfl,rfl,rfl,rfl⟩ rfl rfl rfl rfl rfl (by kernel_rfl) Tryz.func11 Xi2
  (of_decide_eq_true (by kernel_rfl)) (by unfold Func.isWrapper; rw [if_neg (of_decide_eq_false (by kernel_rfl))]; exact ⟨rfl,rfl⟩)
  (fun os started H enc _ => Xh7 os started H enc)
end Go.Fw.L07
