/- The row of EmitNames. -/
import Derived.Test.YtakgmpkfpkmkaaaGreatDoorL07RW13
import Derived.Test.YtakgmpkfpkmkaaaGreatDoorL07REmitNames
import Derived.Test.YtakgmpkfpkmkaaaGreatDoorFe
import Derived.Stop.Joined
set_option linter.all false
namespace Go.Fw.L07
open Go Go.Fw Go.Proofs Go.RowKit Go.Proofs.YtakgmpkfpkmkaaaGreatDoor
set_option maxRecDepth 4000
set_option maxRecDepth 100000 in
theorem emitNames_lifted (os : Os) (started : os.Started) (H : Type) (enc : TypeId × Value -> H) :
  ReturnsInHanded {} Tryz.checked os 7 .any (fun w args => (Rows.emitNamesSpec.pre enc Tryz.prog Tryz.f7 [] false w args /\ laidMetH Tryz.prog laidL10 w) /\ sizedMet enc Tryz.prog Tryz.f7 (OpenSpec.ofChange Rows.emitNamesSpec) false w args)
   (Rows.emitNamesSpec.post enc Tryz.prog Tryz.f7 false true false false) := by
 refine row_true (C := Tryz.checked) (tb := 4) (X := fun w => laidMetH Tryz.prog laidL10 w) 8 (fun _ _ hh h => laidMetH.of_heap hh h) own started (by kernel_rfl) Tryz.func7
  (ChangeSpec.witness_at (enc := enc) (C := Tryz.checked) (os := os) (X := fun w _ => laidMetH Tryz.prog laidL10 w) false (laidWorld10 os) #[.agg #[.int .i64 0,.slice none 0 0]] 8 (laidWorld10_os os) (by kernel_rfl) (by kernel_rfl) (by kernel_rfl) (by kernel_rfl) (by kernel_rfl) (laidWorld10_met os _))
  laidOut rfl (by kernel_rfl) bool_row (by kernel_rfl) (by kernel_rfl) (fun ds h => ?_) (fun W dss hL hsh => ?_)
 ·match ds,h with
  | [_],_ => rfl
 ·have hsh' : All2 (Shape Tryz.prog 9) [24] dss := hsh
  obtain ⟨d1,rfl,h1⟩ := all2_one hsh'
  obtain ⟨x1,rfl⟩ := gr_of h1
  exact emit_names (env10_of_laid hL) x1
theorem emitNames_j0 : (Rows.emitNamesRow.inPlace == Tryz.prog.inPlace 7) = true := by kernel_rfl
theorem emitNames_j1 : (Rows.emitNamesRow.unfollowed == Tryz.prog.unfollowed 7) = true := by kernel_rfl
theorem emitNames_j2 : (Rows.emitNamesRow.recurses == Tryz.prog.recurses 7) = true := by kernel_rfl
theorem emitNames_j3 : (Rows.emitNamesRow.named == Tryz.prog.varsNamed 7) = true := by kernel_rfl
set_option maxRecDepth 100000 in
theorem emitNames_facts : joinedFacts Tryz.prog 7 Tryz.f7 Rows.emitNamesSpec Rows.emitNamesRow = true := by
 unfold joinedFacts
 simp only [emitNames_j0,emitNames_j1,emitNames_j2,emitNames_j3,enter10,Bool.true_and,Bool.and_true]
 kernel_rfl
theorem emitNames_holds : Rows.EmitNamesSaid :=
 OpenClaim.holds_of_wide 7 Tryz.f7 rfl rfl rfl rfl rfl rfl rfl ⟨rfl,rfl,rfl,rfl,rfl⟩ rfl rfl rfl rfl rfl (by kernel_rfl) Tryz.func7 emitNames_facts
  (of_decide_eq_true (by kernel_rfl)) (by unfold Func.isWrapper; rw [if_neg (of_decide_eq_false (by kernel_rfl))]; exact ⟨rfl,rfl⟩)
  (fun os started H enc _ => emitNames_lifted os started H enc)
end Go.Fw.L07
