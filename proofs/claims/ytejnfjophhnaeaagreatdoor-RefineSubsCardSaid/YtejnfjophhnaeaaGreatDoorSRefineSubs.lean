/- The row of RefineSubs. -/
import Derived.Test.YtejnfjophhnaeaaGreatDoorL07RW10
import Derived.Test.YtejnfjophhnaeaaGreatDoorL07RSubs10
import Derived.Test.YtejnfjophhnaeaaGreatDoorFe
import Derived.Stop.Joined
set_option linter.all false
namespace Go.Fw.L07
open Go Go.Fw Go.Proofs Go.RowKit Go.Proofs.YtejnfjophhnaeaaGreatDoor
set_option maxRecDepth 4000
set_option maxRecDepth 100000 in
theorem refineSubs_lifted (os : Os) (started : os.Started) (H : Type) (enc : TypeId × Value -> H) :
  ReturnsInHanded {} Tryz.checked os 8 .any (fun w args => (Rows.refineSubsSpec.pre enc Tryz.prog Tryz.f8 [] false w args /\ laidMetH Tryz.prog laidL10 w) /\ sizedMet enc Tryz.prog Tryz.f8 (OpenSpec.ofChange Rows.refineSubsSpec) false w args)
   (Rows.refineSubsSpec.post enc Tryz.prog Tryz.f8 false true false false) := by
 refine row_true (C := Tryz.checked) (tb := 4) (X := fun w => laidMetH Tryz.prog laidL10 w) 8 (fun _ _ hh h => laidMetH.of_heap hh h) own started (by kernel_rfl) Tryz.func8
  (ChangeSpec.witness_at (enc := enc) (C := Tryz.checked) (os := os) (X := fun w _ => laidMetH Tryz.prog laidL10 w) false (laidWorld10 os) #[.agg #[.int .i64 0,.slice none 0 0],.agg #[.int .i64 0,.slice none 0 0],.slice none 0 0] 8 (laidWorld10_os os) (by kernel_rfl) (by kernel_rfl) (by kernel_rfl) (by kernel_rfl) (by kernel_rfl) (laidWorld10_met os _))
  laidOut rfl (by kernel_rfl) bool_row (by kernel_rfl) (by kernel_rfl) (fun ds h => ?_) (fun W dss hL hsh => ?_)
 ·match ds,h with
  | [_,_,_],_ => rfl
 ·have hsh' : All2 (Shape Tryz.prog 9) [24,24,27] dss := hsh
  obtain ⟨d1,d2,d3,rfl,h1,h2,h3⟩ := all2_three hsh'
  obtain ⟨x1,rfl⟩ := gr_of h1
  obtain ⟨x2,rfl⟩ := gr_of h2
  obtain ⟨x3,rfl⟩ := ints_of h3
  exact refine_subs (env10_of_laid hL) x1 x2 x3
theorem refineSubs_j0 : (Rows.refineSubsRow.inPlace == Tryz.prog.inPlace 8) = true := by kernel_rfl
theorem refineSubs_j1 : (Rows.refineSubsRow.unfollowed == Tryz.prog.unfollowed 8) = true := by kernel_rfl
theorem refineSubs_j2 : (Rows.refineSubsRow.recurses == Tryz.prog.recurses 8) = true := by kernel_rfl
theorem refineSubs_j3 : (Rows.refineSubsRow.named == Tryz.prog.varsNamed 8) = true := by kernel_rfl
set_option maxRecDepth 100000 in
theorem refineSubs_facts : joinedFacts Tryz.prog 8 Tryz.f8 Rows.refineSubsSpec Rows.refineSubsRow = true := by
 unfold joinedFacts
 simp only [refineSubs_j0,refineSubs_j1,refineSubs_j2,refineSubs_j3,enter10,Bool.true_and,Bool.and_true]
 kernel_rfl
theorem refineSubs_holds : Rows.RefineSubsSaid :=
 OpenClaim.holds_of_wide 8 Tryz.f8 rfl rfl rfl rfl rfl rfl rfl ⟨rfl,rfl,rfl,rfl,rfl⟩ rfl rfl rfl rfl rfl (by kernel_rfl) Tryz.func8 refineSubs_facts
  (of_decide_eq_true (by kernel_rfl)) (by unfold Func.isWrapper; rw [if_neg (of_decide_eq_false (by kernel_rfl))]; exact ⟨rfl,rfl⟩)
  (fun os started H enc _ => refineSubs_lifted os started H enc)
end Go.Fw.L07
