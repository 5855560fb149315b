/- The row of EmitScalars. -/
import Derived.Test.YtakgmpkfpkmkaaaGreatDoorL07RW13
import Derived.Test.YtakgmpkfpkmkaaaGreatDoorL07REmitScalars
import Derived.Test.YtakgmpkfpkmkaaaGreatDoorFe
import Derived.Stop.Joined
set_option linter.all false
namespace Go.Fw.L07
open Go Go.Fw Go.Proofs Go.RowKit Go.Proofs.YtakgmpkfpkmkaaaGreatDoor
set_option maxRecDepth 4000
set_option maxRecDepth 100000 in
theorem emitScalars_lifted (os : Os) (started : os.Started) (H : Type) (enc : TypeId × Value -> H) :
  ReturnsInHanded {} Tryz.checked os 6 .any (fun w args => (Rows.emitScalarsSpec.pre enc Tryz.prog Tryz.f6 [] false w args /\ laidMetH Tryz.prog laidL10 w) /\ sizedMet enc Tryz.prog Tryz.f6 (OpenSpec.ofChange Rows.emitScalarsSpec) false w args)
   (Rows.emitScalarsSpec.post enc Tryz.prog Tryz.f6 false true false false) := by
 refine row_true (C := Tryz.checked) (tb := 4) (X := fun w => laidMetH Tryz.prog laidL10 w) 8 (fun _ _ hh h => laidMetH.of_heap hh h) own started (by kernel_rfl) Tryz.func6
  (ChangeSpec.witness_at (enc := enc) (C := Tryz.checked) (os := os) (X := fun w _ => laidMetH Tryz.prog laidL10 w) false (laidWorld10 os) #[.agg #[.int .i64 0,.int .i64 0,.string ⟨#[]⟩],.int .i64 0] 8 (laidWorld10_os os) (by kernel_rfl) (by kernel_rfl) (by kernel_rfl) (by kernel_rfl) (by kernel_rfl) (laidWorld10_met os _))
  laidOut rfl (by kernel_rfl) bool_row (by kernel_rfl) (by kernel_rfl) (fun ds h => ?_) (fun W dss hL hsh => ?_)
 ·match ds,h with
  | [_,_],_ => rfl
 ·have hsh' : All2 (Shape Tryz.prog 9) [39,3] dss := hsh
  obtain ⟨d1,d2,rfl,h1,h2⟩ := all2_two hsh'
  obtain ⟨x1,rfl⟩ := sc_of h1
  obtain ⟨x2,rfl⟩ := int_of h2
  exact emit_scalars (env10_of_laid hL) x1 x2
theorem emitScalars_j0 : (Rows.emitScalarsRow.inPlace == Tryz.prog.inPlace 6) = true := by kernel_rfl
theorem emitScalars_j1 : (Rows.emitScalarsRow.unfollowed == Tryz.prog.unfollowed 6) = true := by kernel_rfl
theorem emitScalars_j2 : (Rows.emitScalarsRow.recurses == Tryz.prog.recurses 6) = true := by kernel_rfl
theorem emitScalars_j3 : (Rows.emitScalarsRow.named == Tryz.prog.varsNamed 6) = true := by kernel_rfl
set_option maxRecDepth 100000 in
theorem emitScalars_facts : joinedFacts Tryz.prog 6 Tryz.f6 Rows.emitScalarsSpec Rows.emitScalarsRow = true := by
 unfold joinedFacts
 simp only [emitScalars_j0,emitScalars_j1,emitScalars_j2,emitScalars_j3,enter10,Bool.true_and,Bool.and_true]
 kernel_rfl
theorem emitScalars_holds : Rows.EmitScalarsSaid :=
 OpenClaim.holds_of_wide 6 Tryz.f6 rfl rfl rfl rfl rfl rfl rfl ⟨rfl,rfl,rfl,rfl,rfl⟩ rfl rfl rfl rfl rfl (by kernel_rfl) Tryz.func6 emitScalars_facts
  (of_decide_eq_true (by kernel_rfl)) (by unfold Func.isWrapper; rw [if_neg (of_decide_eq_false (by kernel_rfl))]; exact ⟨rfl,rfl⟩)
  (fun os started H enc _ => emitScalars_lifted os started H enc)
end Go.Fw.L07
