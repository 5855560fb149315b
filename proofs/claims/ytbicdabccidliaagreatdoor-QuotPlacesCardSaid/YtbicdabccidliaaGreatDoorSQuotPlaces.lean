/- The row of QuotPlaces. -/
import Derived.Test.YtbicdabccidliaaGreatDoorL07RW10
import Derived.Test.YtbicdabccidliaaGreatDoorL07RPlc11
import Derived.Test.YtbicdabccidliaaGreatDoorFe
import Derived.Stop.Joined
set_option linter.all false
namespace Go.Fw.L07
open Go Go.Fw Go.Proofs Go.RowKit Go.Proofs.YtbicdabccidliaaGreatDoor
open Nat renaming reduceAdd -> Qa,reduceSub -> Qb,reduceMul -> Qc,reduceLeDiff -> Qd,reduceLT -> Qe,reduceEqDiff -> Qf
open Int renaming reduceToNat -> Qg,reduceLT -> Qh,reduceLE -> Qi,reduceGT -> Qj,reduceGE -> Qk,reduceEq -> Ql,reduceNe -> Qm,reduceBEq -> Qn,reduceBNe -> Qo,reduceAdd -> Qp,reduceSub -> Qq,reduceNeg -> Qr
open Go.Fw.V.one renaming injEq -> Qs
open Go.Fw.V.agg renaming injEq -> Qt
open Go.Fw.V.tup renaming injEq -> Qu
open Go.Fw.A.d renaming injEq -> Qv
open Go.Fw.D.bool renaming injEq -> Qw
open Go.Fw.D.int renaming injEq -> Qx
open Go.Fw.D.str renaming injEq -> Qy
open Go.Fw.D.sl renaming injEq -> Qz
open List.cons renaming injEq -> Za
set_option maxRecDepth 4000
set_option maxRecDepth 100000 in
theorem quotPlaces_lifted (os : Os) (started : os.Started) (H : Type) (enc : TypeId × Value -> H) :
  ReturnsInHanded {} Tryz.checked os 14 .any (fun w args => (Rows.quotPlacesSpec.pre enc Tryz.prog Tryz.f14 [] false w args /\ laidMetH Tryz.prog laidL10 w) /\ sizedMet enc Tryz.prog Tryz.f14 (OpenSpec.ofChange Rows.quotPlacesSpec) false w args)
   (Rows.quotPlacesSpec.post enc Tryz.prog Tryz.f14 false true false false) := by
 refine row_true (C := Tryz.checked) (tb := 4) (X := fun w => laidMetH Tryz.prog laidL10 w) 8 (fun _ _ hh h => laidMetH.of_heap hh h) own started (by kernel_rfl) Tryz.func14
  (ChangeSpec.witness_at (enc := enc) (C := Tryz.checked) (os := os) (X := fun w _ => laidMetH Tryz.prog laidL10 w) false (laidWorld10 os) #[.agg #[.int .i64 0,.slice none 0 0]] 8 (laidWorld10_os os) (by kernel_rfl) (by kernel_rfl) (by kernel_rfl) (by kernel_rfl) (by kernel_rfl) (laidWorld10_met os _))
  laidOut rfl (by kernel_rfl) bool_row (by kernel_rfl) (by kernel_rfl) (fun ds h => ?_) (fun W dss hL hsh => ?_)
 ·match ds,h with
  | [_],_ => rfl
 ·have hsh' : All2 (Shape Tryz.prog 9) [24] dss := hsh
  obtain ⟨d1,rfl,h1⟩ := all2_one hsh'
  obtain ⟨x1,rfl⟩ := gr_of h1
  exact quot_places (env10_of_laid hL) x1
theorem quotPlaces_j0 : (Rows.quotPlacesRow.inPlace == Tryz.prog.inPlace 14) = true := by kernel_rfl
theorem quotPlaces_j1 : (Rows.quotPlacesRow.unfollowed == Tryz.prog.unfollowed 14) = true := by kernel_rfl
theorem quotPlaces_j2 : (Rows.quotPlacesRow.recurses == Tryz.prog.recurses 14) = true := by kernel_rfl
theorem quotPlaces_j3 : (Rows.quotPlacesRow.named == Tryz.prog.varsNamed 14) = true := by kernel_rfl
set_option maxRecDepth 100000 in
theorem quotPlaces_facts : joinedFacts Tryz.prog 14 Tryz.f14 Rows.quotPlacesSpec Rows.quotPlacesRow = true := by
 unfold joinedFacts
 simp only [quotPlaces_j0,quotPlaces_j1,quotPlaces_j2,quotPlaces_j3,enter10,Bool.true_and,Bool.and_true]
 kernel_rfl
theorem quotPlaces_holds : Rows.QuotPlacesSaid :=
 OpenClaim.holds_of_wide 14 Tryz.f14 rfl rfl rfl rfl rfl rfl rfl ⟨rfl,rfl,rfl,rfl,rfl⟩ rfl rfl rfl rfl rfl (by kernel_rfl) Tryz.func14 quotPlaces_facts
  (of_decide_eq_true (by kernel_rfl)) (by unfold Func.isWrapper; rw [if_neg (of_decide_eq_false (by kernel_rfl))]; exact ⟨rfl,rfl⟩)
  (fun os started H enc _ => quotPlaces_lifted os started H enc)
end Go.Fw.L07
