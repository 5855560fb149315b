/- The row of ComposeTrees. -/
import Derived.Test.YtiklocoaghcliaaGreatDoorL07RW18
import Derived.Test.YtiklocoaghcliaaGreatDoorL07RTrees18
import Derived.Test.YtiklocoaghcliaaGreatDoorFe
import Derived.Stop.Joined
set_option linter.all false
namespace Go.Fw.L07
open Go Go.Fw Go.Proofs Go.RowKit Go.Proofs.YtiklocoaghcliaaGreatDoor
set_option maxRecDepth 4000
set_option maxRecDepth 100000 in
theorem composeTrees_lifted (os : Os) (started : os.Started) (H : Type) (enc : TypeId × Value -> H) :
  ReturnsInHanded {} Tryz.checked os 3 .any (fun w args => (Rows.composeTreesSpec.pre enc Tryz.prog Tryz.f3 [] false w args /\ laidMetH Tryz.prog laidL18 w) /\ sizedMet enc Tryz.prog Tryz.f3 (OpenSpec.ofChange Rows.composeTreesSpec) false w args)
   (Rows.composeTreesSpec.post enc Tryz.prog Tryz.f3 false true false false) := by
 refine row_true (C := Tryz.checked) (tb := 4) (X := fun w => laidMetH Tryz.prog laidL18 w) 8 (fun _ _ hh h => laidMetH.of_heap hh h) own started (by kernel_rfl) Tryz.func3
  (ChangeSpec.witness_at (enc := enc) (C := Tryz.checked) (os := os) (X := fun w _ => laidMetH Tryz.prog laidL18 w) false (laidWorld18 os) #[.agg #[.int .i64 0,.slice none 0 0]] 8 (laidWorld18_os os) (by kernel_rfl) (by kernel_rfl) (by kernel_rfl) (by kernel_rfl) (by kernel_rfl) (laidWorld18_met os _))
  laidOut rfl (by kernel_rfl) bool_row (by kernel_rfl) (by kernel_rfl) (fun ds h => ?_) (fun W dss hL hsh => ?_)
 ·match ds,h with
  | [_],_ => rfl
 ·have hsh' : All2 (Shape Tryz.prog 9) [24] dss := hsh
  obtain ⟨d1,rfl,h1⟩ := all2_one hsh'
  obtain ⟨x1,rfl⟩ := gr_of h1
  obtain ⟨ua,h18⟩ := env18_of_laid hL
  exact trees18_ok h18 x1
theorem composeTrees_j0 : (Rows.composeTreesRow.inPlace == Tryz.prog.inPlace 3) = true := by kernel_rfl
theorem composeTrees_j1 : (Rows.composeTreesRow.unfollowed == Tryz.prog.unfollowed 3) = true := by kernel_rfl
theorem composeTrees_j2 : (Rows.composeTreesRow.recurses == Tryz.prog.recurses 3) = true := by kernel_rfl
theorem composeTrees_j3 : (Rows.composeTreesRow.named == Tryz.prog.varsNamed 3) = true := by kernel_rfl
set_option maxRecDepth 100000 in
theorem composeTrees_facts : joinedFacts Tryz.prog 3 Tryz.f3 Rows.composeTreesSpec Rows.composeTreesRow = true := by
 unfold joinedFacts
 simp only [composeTrees_j0,composeTrees_j1,composeTrees_j2,composeTrees_j3,enter18,Bool.true_and,Bool.and_true]
 kernel_rfl
theorem composeTrees_holds : Rows.ComposeTreesSaid :=
 OpenClaim.holds_of_wide 3 Tryz.f3 rfl rfl rfl rfl rfl rfl rfl ⟨rfl,rfl,rfl,rfl,rfl⟩ rfl rfl rfl rfl rfl (by kernel_rfl) Tryz.func3 composeTrees_facts
  (of_decide_eq_true (by kernel_rfl)) (by unfold Func.isWrapper; rw [if_neg (of_decide_eq_false (by kernel_rfl))]; exact ⟨rfl,rfl⟩)
  (fun os started H enc _ => composeTrees_lifted os started H enc)
end Go.Fw.L07
