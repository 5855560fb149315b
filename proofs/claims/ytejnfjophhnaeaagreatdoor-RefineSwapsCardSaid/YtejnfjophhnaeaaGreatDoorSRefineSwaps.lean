/- The row of RefineSwaps. -/
import Derived.Test.YtejnfjophhnaeaaGreatDoorL07RW10
import Derived.Test.YtejnfjophhnaeaaGreatDoorL07RSwp10
import Derived.Test.YtejnfjophhnaeaaGreatDoorFe
import Derived.Stop.Joined
set_option linter.all false
namespace Go.Fw.L07
open Go Go.Fw Go.Proofs Go.RowKit Go.Proofs.YtejnfjophhnaeaaGreatDoor
set_option maxRecDepth 4000
set_option maxRecDepth 100000 in
theorem refineSwaps_lifted (os : Os) (started : os.Started) (H : Type) (enc : TypeId × Value -> H) :
  ReturnsInHanded {} Tryz.checked os 5 .any (fun w args => (Rows.refineSwapsSpec.pre enc Tryz.prog Tryz.f5 [] false w args /\ laidMetH Tryz.prog laidL10 w) /\ sizedMet enc Tryz.prog Tryz.f5 (OpenSpec.ofChange Rows.refineSwapsSpec) false w args)
   (Rows.refineSwapsSpec.post enc Tryz.prog Tryz.f5 false true false false) := by
 refine row_true (C := Tryz.checked) (tb := 4) (X := fun w => laidMetH Tryz.prog laidL10 w) 8 (fun _ _ hh h => laidMetH.of_heap hh h) own started (by kernel_rfl) Tryz.func5
  (ChangeSpec.witness_at (enc := enc) (C := Tryz.checked) (os := os) (X := fun w _ => laidMetH Tryz.prog laidL10 w) false (laidWorld10 os) #[.agg #[.int .i64 0,.slice none 0 0],.int .i64 0,.int .i64 0,.int .i64 0] 8 (laidWorld10_os os) (by kernel_rfl) (by kernel_rfl) (by kernel_rfl) (by kernel_rfl) (by kernel_rfl) (laidWorld10_met os _))
  laidOut rfl (by kernel_rfl) bool_row (by kernel_rfl) (by kernel_rfl) (fun ds h => ?_) (fun W dss hL hsh => ?_)
 ·match ds,h with
  | [_,_,_,_],_ => rfl
 ·have hsh' : All2 (Shape Tryz.prog 9) [24,3,3,3] dss := hsh
  obtain ⟨d1,d2,d3,d4,rfl,h1,h2,h3,h4⟩ := all2_four hsh'
  obtain ⟨x1,rfl⟩ := gr_of h1
  obtain ⟨x2,rfl⟩ := int_of h2
  obtain ⟨x3,rfl⟩ := int_of h3
  obtain ⟨x4,rfl⟩ := int_of h4
  exact refine_swaps (env10_of_laid hL) x1 x2 x3 x4
theorem refineSwaps_j0 : (Rows.refineSwapsRow.inPlace == Tryz.prog.inPlace 5) = true := by kernel_rfl
theorem refineSwaps_j1 : (Rows.refineSwapsRow.unfollowed == Tryz.prog.unfollowed 5) = true := by kernel_rfl
theorem refineSwaps_j2 : (Rows.refineSwapsRow.recurses == Tryz.prog.recurses 5) = true := by kernel_rfl
theorem refineSwaps_j3 : (Rows.refineSwapsRow.named == Tryz.prog.varsNamed 5) = true := by kernel_rfl
set_option maxRecDepth 100000 in
theorem refineSwaps_facts : joinedFacts Tryz.prog 5 Tryz.f5 Rows.refineSwapsSpec Rows.refineSwapsRow = true := by
 unfold joinedFacts
 simp only [refineSwaps_j0,refineSwaps_j1,refineSwaps_j2,refineSwaps_j3,enter10,Bool.true_and,Bool.and_true]
 kernel_rfl
theorem refineSwaps_holds : Rows.RefineSwapsSaid :=
 OpenClaim.holds_of_wide 5 Tryz.f5 rfl rfl rfl rfl rfl rfl rfl ⟨rfl,rfl,rfl,rfl,rfl⟩ rfl rfl rfl rfl rfl (by kernel_rfl) Tryz.func5 refineSwaps_facts
  (of_decide_eq_true (by kernel_rfl)) (by unfold Func.isWrapper; rw [if_neg (of_decide_eq_false (by kernel_rfl))]; exact ⟨rfl,rfl⟩)
  (fun os started H enc _ => refineSwaps_lifted os started H enc)
end Go.Fw.L07
