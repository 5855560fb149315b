/- The row of QuotPaths. -/
import Derived.Test.YtbicdabccidliaaGreatDoorL07RW10
import Derived.Test.YtbicdabccidliaaGreatDoorL07RPath11
import Derived.Test.YtbicdabccidliaaGreatDoorFe
import Derived.Stop.Joined
set_option linter.all false
namespace Go.Fw.L07
open Go Go.Fw Go.Proofs Go.RowKit Go.Proofs.YtbicdabccidliaaGreatDoor
open Nat renaming reduceAdd -> Qa,reduceSub -> Qb,reduceMul -> Qc,reduceLeDiff -> Qd,reduceLT -> Qe,reduceEqDiff -> Qf
open Int renaming reduceToNat -> Qg,reduceLT -> Qh,reduceLE -> Qi,reduceGT -> Qj,reduceGE -> Qk,reduceEq -> Ql,reduceNe -> Qm,reduceBEq -> Qn,reduceBNe -> Qo,reduceAdd -> Qp,reduceSub -> Qq,reduceNeg -> Qr
open Go.Fw.V.one renaming injEq -> Qs
open Go.Fw.V.agg renaming injEq -> Qt
open Go.Fw.V.tup renaming injEq -> Qu
open Go.Fw.A.d renaming injEq -> Qv
open Go.Fw.D.bool renaming injEq -> Qw
open Go.Fw.D.int renaming injEq -> Qx
open Go.Fw.D.str renaming injEq -> Qy
open Go.Fw.D.sl renaming injEq -> Qz
open List.cons renaming injEq -> Za
set_option maxRecDepth 4000
set_option maxRecDepth 100000 in
theorem quotPaths_lifted (os : Os) (started : os.Started) (H : Type) (enc : TypeId × Value -> H) :
  ReturnsInHanded {} Tryz.checked os 11 .any (fun w args => (Rows.quotPathsSpec.pre enc Tryz.prog Tryz.f11 [] false w args /\ laidMetH Tryz.prog laidL10 w) /\ sizedMet enc Tryz.prog Tryz.f11 (OpenSpec.ofChange Rows.quotPathsSpec) false w args)
   (Rows.quotPathsSpec.post enc Tryz.prog Tryz.f11 false true false false) := by
 refine row_true (C := Tryz.checked) (tb := 4) (X := fun w => laidMetH Tryz.prog laidL10 w) 8 (fun _ _ hh h => laidMetH.of_heap hh h) own started (by kernel_rfl) Tryz.func11
  (ChangeSpec.witness_at (enc := enc) (C := Tryz.checked) (os := os) (X := fun w _ => laidMetH Tryz.prog laidL10 w) false (laidWorld10 os) #[.agg #[.int .i64 0,.slice none 0 0],.slice none 0 0] 8 (laidWorld10_os os) (by kernel_rfl) (by kernel_rfl) (by kernel_rfl) (by kernel_rfl) (by kernel_rfl) (laidWorld10_met os _))
  laidOut rfl (by kernel_rfl) bool_row (by kernel_rfl) (by kernel_rfl) (fun ds h => ?_) (fun W dss hL hsh => ?_)
 ·match ds,h with
  | [_,_],_ => rfl
 ·have hsh' : All2 (Shape Tryz.prog 9) [24,27] dss := hsh
  obtain ⟨d1,d2,rfl,h1,h2⟩ := all2_two hsh'
  obtain ⟨x1,rfl⟩ := gr_of h1
  obtain ⟨x2,rfl⟩ := ints_of h2
  exact quot_paths (env10_of_laid hL) x1 x2
theorem quotPaths_j0 : (Rows.quotPathsRow.inPlace == Tryz.prog.inPlace 11) = true := by kernel_rfl
theorem quotPaths_j1 : (Rows.quotPathsRow.unfollowed == Tryz.prog.unfollowed 11) = true := by kernel_rfl
theorem quotPaths_j2 : (Rows.quotPathsRow.recurses == Tryz.prog.recurses 11) = true := by kernel_rfl
theorem quotPaths_j3 : (Rows.quotPathsRow.named == Tryz.prog.varsNamed 11) = true := by kernel_rfl
set_option maxRecDepth 100000 in
theorem quotPaths_facts : joinedFacts Tryz.prog 11 Tryz.f11 Rows.quotPathsSpec Rows.quotPathsRow = true := by
 unfold joinedFacts
 simp only [quotPaths_j0,quotPaths_j1,quotPaths_j2,quotPaths_j3,enter10,Bool.true_and,Bool.and_true]
 kernel_rfl
theorem quotPaths_holds : Rows.QuotPathsSaid :=
 OpenClaim.holds_of_wide 11 Tryz.f11 rfl rfl rfl rfl rfl rfl rfl ⟨rfl,rfl,rfl,rfl,rfl⟩ rfl rfl rfl rfl rfl (by kernel_rfl) Tryz.func11 quotPaths_facts
  (of_decide_eq_true (by kernel_rfl)) (by unfold Func.isWrapper; rw [if_neg (of_decide_eq_false (by kernel_rfl))]; exact ⟨rfl,rfl⟩)
  (fun os started H enc _ => quotPaths_lifted os started H enc)
end Go.Fw.L07
