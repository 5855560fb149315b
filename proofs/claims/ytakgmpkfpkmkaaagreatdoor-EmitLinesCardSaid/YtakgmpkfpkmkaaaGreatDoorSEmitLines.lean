/- The row of EmitLines. -/
import Derived.Test.YtakgmpkfpkmkaaaGreatDoorL07RW13
import Derived.Test.YtakgmpkfpkmkaaaGreatDoorL07REmitLines
import Derived.Test.YtakgmpkfpkmkaaaGreatDoorFe
import Derived.Stop.Joined
set_option linter.all false
namespace Go.Fw.L07
open Go Go.Fw Go.Proofs Go.RowKit Go.Proofs.YtakgmpkfpkmkaaaGreatDoor
set_option maxRecDepth 4000
set_option maxRecDepth 100000 in
theorem emitLines_lifted (os : Os) (started : os.Started) (H : Type) (enc : TypeId × Value -> H) :
  ReturnsInHanded {} Tryz.checked os 4 .any (fun w args => (Rows.emitLinesSpec.pre enc Tryz.prog Tryz.f4 [] false w args /\ laidMetH Tryz.prog laidL10 w) /\ sizedMet enc Tryz.prog Tryz.f4 (OpenSpec.ofChange Rows.emitLinesSpec) false w args)
   (Rows.emitLinesSpec.post enc Tryz.prog Tryz.f4 false true false false) := by
 refine row_true (C := Tryz.checked) (tb := 4) (X := fun w => laidMetH Tryz.prog laidL10 w) 8 (fun _ _ hh h => laidMetH.of_heap hh h) own started (by kernel_rfl) Tryz.func4
  (ChangeSpec.witness_at (enc := enc) (C := Tryz.checked) (os := os) (X := fun w _ => laidMetH Tryz.prog laidL10 w) false (laidWorld10 os) #[.agg #[.int .i64 0,.slice none 0 0]] 8 (laidWorld10_os os) (by kernel_rfl) (by kernel_rfl) (by kernel_rfl) (by kernel_rfl) (by kernel_rfl) (laidWorld10_met os _))
  laidOut rfl (by kernel_rfl) bool_row (by kernel_rfl) (by kernel_rfl) (fun ds h => ?_) (fun W dss hL hsh => ?_)
 ·match ds,h with
  | [_],_ => rfl
 ·have hsh' : All2 (Shape Tryz.prog 9) [24] dss := hsh
  obtain ⟨d1,rfl,h1⟩ := all2_one hsh'
  obtain ⟨x1,rfl⟩ := gr_of h1
  exact emit_lines (env10_of_laid hL) x1
theorem emitLines_j0 : (Rows.emitLinesRow.inPlace == Tryz.prog.inPlace 4) = true := by kernel_rfl
theorem emitLines_j1 : (Rows.emitLinesRow.unfollowed == Tryz.prog.unfollowed 4) = true := by kernel_rfl
theorem emitLines_j2 : (Rows.emitLinesRow.recurses == Tryz.prog.recurses 4) = true := by kernel_rfl
theorem emitLines_j3 : (Rows.emitLinesRow.named == Tryz.prog.varsNamed 4) = true := by kernel_rfl
set_option maxRecDepth 100000 in
theorem emitLines_facts : joinedFacts Tryz.prog 4 Tryz.f4 Rows.emitLinesSpec Rows.emitLinesRow = true := by
 unfold joinedFacts
 simp only [emitLines_j0,emitLines_j1,emitLines_j2,emitLines_j3,enter10,Bool.true_and,Bool.and_true]
 kernel_rfl
theorem emitLines_holds : Rows.EmitLinesSaid :=
 OpenClaim.holds_of_wide 4 Tryz.f4 rfl rfl rfl rfl rfl rfl rfl ⟨rfl,rfl,rfl,rfl,rfl⟩ rfl rfl rfl rfl rfl (by kernel_rfl) Tryz.func4 emitLines_facts
  (of_decide_eq_true (by kernel_rfl)) (by unfold Func.isWrapper; rw [if_neg (of_decide_eq_false (by kernel_rfl))]; exact ⟨rfl,rfl⟩)
  (fun os started H enc _ => emitLines_lifted os started H enc)
end Go.Fw.L07
