/- The row of RefinePaths. -/
import Derived.Test.YtejnfjophhnaeaaGreatDoorL07RW10
import Derived.Test.YtejnfjophhnaeaaGreatDoorL07RPaths10
import Derived.Test.YtejnfjophhnaeaaGreatDoorFe
import Derived.Stop.Joined
set_option linter.all false
namespace Go.Fw.L07
open Go Go.Fw Go.Proofs Go.RowKit Go.Proofs.YtejnfjophhnaeaaGreatDoor
set_option maxRecDepth 4000
set_option maxRecDepth 100000 in
theorem refinePaths_lifted (os : Os) (started : os.Started) (H : Type) (enc : TypeId × Value -> H) :
  ReturnsInHanded {} Tryz.checked os 7 .any (fun w args => (Rows.refinePathsSpec.pre enc Tryz.prog Tryz.f7 [] false w args /\ laidMetH Tryz.prog laidL10 w) /\ sizedMet enc Tryz.prog Tryz.f7 (OpenSpec.ofChange Rows.refinePathsSpec) false w args)
   (Rows.refinePathsSpec.post enc Tryz.prog Tryz.f7 false true false false) := by
 refine row_true (C := Tryz.checked) (tb := 4) (X := fun w => laidMetH Tryz.prog laidL10 w) 8 (fun _ _ hh h => laidMetH.of_heap hh h) own started (by kernel_rfl) Tryz.func7
  (ChangeSpec.witness_at (enc := enc) (C := Tryz.checked) (os := os) (X := fun w _ => laidMetH Tryz.prog laidL10 w) false (laidWorld10 os) #[.agg #[.int .i64 0,.slice none 0 0],.agg #[.int .i64 0,.slice none 0 0],.slice none 0 0] 8 (laidWorld10_os os) (by kernel_rfl) (by kernel_rfl) (by kernel_rfl) (by kernel_rfl) (by kernel_rfl) (laidWorld10_met os _))
  laidOut rfl (by kernel_rfl) bool_row (by kernel_rfl) (by kernel_rfl) (fun ds h => ?_) (fun W dss hL hsh => ?_)
 ·match ds,h with
  | [_,_,_],_ => rfl
 ·have hsh' : All2 (Shape Tryz.prog 9) [24,24,27] dss := hsh
  obtain ⟨d1,d2,d3,rfl,h1,h2,h3⟩ := all2_three hsh'
  obtain ⟨x1,rfl⟩ := gr_of h1
  obtain ⟨x2,rfl⟩ := gr_of h2
  obtain ⟨x3,rfl⟩ := ints_of h3
  exact refine_paths (env10_of_laid hL) x1 x2 x3
theorem refinePaths_j0 : (Rows.refinePathsRow.inPlace == Tryz.prog.inPlace 7) = true := by kernel_rfl
theorem refinePaths_j1 : (Rows.refinePathsRow.unfollowed == Tryz.prog.unfollowed 7) = true := by kernel_rfl
theorem refinePaths_j2 : (Rows.refinePathsRow.recurses == Tryz.prog.recurses 7) = true := by kernel_rfl
theorem refinePaths_j3 : (Rows.refinePathsRow.named == Tryz.prog.varsNamed 7) = true := by kernel_rfl
set_option maxRecDepth 100000 in
theorem refinePaths_facts : joinedFacts Tryz.prog 7 Tryz.f7 Rows.refinePathsSpec Rows.refinePathsRow = true := by
 unfold joinedFacts
 simp only [refinePaths_j0,refinePaths_j1,refinePaths_j2,refinePaths_j3,enter10,Bool.true_and,Bool.and_true]
 kernel_rfl
theorem refinePaths_holds : Rows.RefinePathsSaid :=
 OpenClaim.holds_of_wide 7 Tryz.f7 rfl rfl rfl rfl rfl rfl rfl ⟨rfl,rfl,rfl,rfl,rfl⟩ rfl rfl rfl rfl rfl (by kernel_rfl) Tryz.func7 refinePaths_facts
  (of_decide_eq_true (by kernel_rfl)) (by unfold Func.isWrapper; rw [if_neg (of_decide_eq_false (by kernel_rfl))]; exact ⟨rfl,rfl⟩)
  (fun os started H enc _ => refinePaths_lifted os started H enc)
end Go.Fw.L07
