/- The row of ComposeTwice. -/
import Derived.Test.YtiklocoaghcliaaGreatDoorL07RW18
import Derived.Test.YtiklocoaghcliaaGreatDoorL07RTwice18
import Derived.Test.YtiklocoaghcliaaGreatDoorFe
import Derived.Stop.Joined
set_option linter.all false
namespace Go.Fw.L07
open Go Go.Fw Go.Proofs Go.RowKit Go.Proofs.YtiklocoaghcliaaGreatDoor
set_option maxRecDepth 4000
set_option maxRecDepth 100000 in
theorem composeTwice_lifted (os : Os) (started : os.Started) (H : Type) (enc : TypeId × Value -> H) :
  ReturnsInHanded {} Tryz.checked os 6 .any (fun w args => (Rows.composeTwiceSpec.pre enc Tryz.prog Tryz.f6 [] false w args /\ laidMetH Tryz.prog laidL18 w) /\ sizedMet enc Tryz.prog Tryz.f6 (OpenSpec.ofChange Rows.composeTwiceSpec) false w args)
   (Rows.composeTwiceSpec.post enc Tryz.prog Tryz.f6 false true false false) := by
 refine row_trueR (C := Tryz.checked) (tb := 4) (X := fun w => laidMetH Tryz.prog laidL18 w) treeTs treeTs_plain (fun _ _ hh h => laidMetH.of_heap hh h) own started (by kernel_rfl) Tryz.func6
  (ChangeSpec.witness_at (enc := enc) (C := Tryz.checked) (os := os) (X := fun w _ => laidMetH Tryz.prog laidL18 w) false (laidWorld18 os) #[.agg #[.int .i64 0,.string ⟨#[]⟩,.int .i64 0,.int .i64 0,.string ⟨#[]⟩,.slice none 0 0,.slice none 0 0],.agg #[.int .i64 0,.int .i64 0,.string ⟨#[]⟩],.agg #[.int .i64 0,.int .i64 0,.string ⟨#[]⟩]] 8 (laidWorld18_os os) (by kernel_rfl) (by kernel_rfl) (by kernel_rfl) (by kernel_rfl) (by kernel_rfl) (laidWorld18_met os _))
  laidOut rfl (by kernel_rfl) bool_row (by kernel_rfl) (by kernel_rfl) (fun ds h => ?_) (fun W dss hL hsh => ?_)
 ·match ds,h with
  | [_,_,_],_ => rfl
 ·have hsh' : All2 (fun t ds => ∃ n,Shape Tryz.prog (n + 1) t ds) [32,28,28] dss := hsh
  obtain ⟨d1,d2,d3,rfl,h1,h2,h3⟩ := all2_three hsh'
  obtain ⟨x1,rfl⟩ := tr_ofE h1
  obtain ⟨x2,rfl⟩ := sc_ofE h2
  obtain ⟨x3,rfl⟩ := sc_ofE h3
  obtain ⟨ua,h18⟩ := env18_of_laid hL
  exact twice18_ok h18 x1 x2 x3
theorem composeTwice_j0 : (Rows.composeTwiceRow.inPlace == Tryz.prog.inPlace 6) = true := by kernel_rfl
theorem composeTwice_j1 : (Rows.composeTwiceRow.unfollowed == Tryz.prog.unfollowed 6) = true := by kernel_rfl
theorem composeTwice_j2 : (Rows.composeTwiceRow.recurses == Tryz.prog.recurses 6) = true := by kernel_rfl
theorem composeTwice_j3 : (Rows.composeTwiceRow.named == Tryz.prog.varsNamed 6) = true := by kernel_rfl
set_option maxRecDepth 100000 in
theorem composeTwice_facts : joinedFacts Tryz.prog 6 Tryz.f6 Rows.composeTwiceSpec Rows.composeTwiceRow = true := by
 unfold joinedFacts
 simp only [composeTwice_j0,composeTwice_j1,composeTwice_j2,composeTwice_j3,enter18,Bool.true_and,Bool.and_true]
 kernel_rfl
theorem composeTwice_holds : Rows.ComposeTwiceSaid :=
 OpenClaim.holds_of_wide 6 Tryz.f6 rfl rfl rfl rfl rfl rfl rfl ⟨rfl,rfl,rfl,rfl,rfl⟩ rfl rfl rfl rfl rfl (by kernel_rfl) Tryz.func6 composeTwice_facts
  (of_decide_eq_true (by kernel_rfl)) (by unfold Func.isWrapper; rw [if_neg (of_decide_eq_false (by kernel_rfl))]; exact ⟨rfl,rfl⟩)
  (fun os started H enc _ => composeTwice_lifted os started H enc)
end Go.Fw.L07
