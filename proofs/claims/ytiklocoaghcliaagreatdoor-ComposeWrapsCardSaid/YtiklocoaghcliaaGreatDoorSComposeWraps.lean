/- The row of ComposeWraps. -/
import Derived.Test.YtiklocoaghcliaaGreatDoorL07RW18
import Derived.Test.YtiklocoaghcliaaGreatDoorL07RWraps18
import Derived.Test.YtiklocoaghcliaaGreatDoorFe
import Derived.Stop.Joined
set_option linter.all false
namespace Go.Fw.L07
open Go Go.Fw Go.Proofs Go.RowKit Go.Proofs.YtiklocoaghcliaaGreatDoor
set_option maxRecDepth 4000
set_option maxRecDepth 100000 in
theorem composeWraps_lifted (os : Os) (started : os.Started) (H : Type) (enc : TypeId × Value -> H) :
  ReturnsInHanded {} Tryz.checked os 5 .any (fun w args => (Rows.composeWrapsSpec.pre enc Tryz.prog Tryz.f5 [] false w args /\ laidMetH Tryz.prog laidL18 w) /\ sizedMet enc Tryz.prog Tryz.f5 (OpenSpec.ofChange Rows.composeWrapsSpec) false w args)
   (Rows.composeWrapsSpec.post enc Tryz.prog Tryz.f5 false true false false) := by
 refine row_trueR (C := Tryz.checked) (tb := 4) (X := fun w => laidMetH Tryz.prog laidL18 w) treeTs treeTs_plain (fun _ _ hh h => laidMetH.of_heap hh h) own started (by kernel_rfl) Tryz.func5
  (ChangeSpec.witness_at (enc := enc) (C := Tryz.checked) (os := os) (X := fun w _ => laidMetH Tryz.prog laidL18 w) false (laidWorld18 os) #[.agg #[.int .i64 0,.string ⟨#[]⟩,.int .i64 0,.int .i64 0,.string ⟨#[]⟩,.slice none 0 0,.slice none 0 0]] 8 (laidWorld18_os os) (by kernel_rfl) (by kernel_rfl) (by kernel_rfl) (by kernel_rfl) (by kernel_rfl) (laidWorld18_met os _))
  laidOut rfl (by kernel_rfl) bool_row (by kernel_rfl) (by kernel_rfl) (fun ds h => ?_) (fun W dss hL hsh => ?_)
 ·match ds,h with
  | [_],_ => rfl
 ·have hsh' : All2 (fun t ds => ∃ n,Shape Tryz.prog (n + 1) t ds) [32] dss := hsh
  obtain ⟨d1,rfl,h1⟩ := all2_one hsh'
  obtain ⟨x1,rfl⟩ := tr_ofE h1
  obtain ⟨ua,h18⟩ := env18_of_laid hL
  exact wraps18_ok h18 x1
theorem composeWraps_j0 : (Rows.composeWrapsRow.inPlace == Tryz.prog.inPlace 5) = true := by kernel_rfl
theorem composeWraps_j1 : (Rows.composeWrapsRow.unfollowed == Tryz.prog.unfollowed 5) = true := by kernel_rfl
theorem composeWraps_j2 : (Rows.composeWrapsRow.recurses == Tryz.prog.recurses 5) = true := by kernel_rfl
theorem composeWraps_j3 : (Rows.composeWrapsRow.named == Tryz.prog.varsNamed 5) = true := by kernel_rfl
set_option maxRecDepth 100000 in
theorem composeWraps_facts : joinedFacts Tryz.prog 5 Tryz.f5 Rows.composeWrapsSpec Rows.composeWrapsRow = true := by
 unfold joinedFacts
 simp only [composeWraps_j0,composeWraps_j1,composeWraps_j2,composeWraps_j3,enter18,Bool.true_and,Bool.and_true]
 kernel_rfl
theorem composeWraps_holds : Rows.ComposeWrapsSaid :=
 OpenClaim.holds_of_wide 5 Tryz.f5 rfl rfl rfl rfl rfl rfl rfl ⟨rfl,rfl,rfl,rfl,rfl⟩ rfl rfl rfl rfl rfl (by kernel_rfl) Tryz.func5 composeWraps_facts
  (of_decide_eq_true (by kernel_rfl)) (by unfold Func.isWrapper; rw [if_neg (of_decide_eq_false (by kernel_rfl))]; exact ⟨rfl,rfl⟩)
  (fun os started H enc _ => composeWraps_lifted os started H enc)
end Go.Fw.L07
