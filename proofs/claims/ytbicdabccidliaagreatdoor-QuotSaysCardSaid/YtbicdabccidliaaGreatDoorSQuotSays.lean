/- The row of QuotSays. -/
import Derived.Test.YtbicdabccidliaaGreatDoorL07RW10
import Derived.Test.YtbicdabccidliaaGreatDoorL07RSays11
import Derived.Test.YtbicdabccidliaaGreatDoorFe
import Derived.Stop.Joined
set_option linter.all false
namespace Go.Fw.L07
open Go Go.Fw Go.Proofs Go.RowKit Go.Proofs.YtbicdabccidliaaGreatDoor
open Nat renaming reduceAdd -> Qa,reduceSub -> Qb,reduceMul -> Qc,reduceLeDiff -> Qd,reduceLT -> Qe,reduceEqDiff -> Qf
open Int renaming reduceToNat -> Qg,reduceLT -> Qh,reduceLE -> Qi,reduceGT -> Qj,reduceGE -> Qk,reduceEq -> Ql,reduceNe -> Qm,reduceBEq -> Qn,reduceBNe -> Qo,reduceAdd -> Qp,reduceSub -> Qq,reduceNeg -> Qr
open Go.Fw.V.one renaming injEq -> Qs
open Go.Fw.V.agg renaming injEq -> Qt
open Go.Fw.V.tup renaming injEq -> Qu
open Go.Fw.A.d renaming injEq -> Qv
open Go.Fw.D.bool renaming injEq -> Qw
open Go.Fw.D.int renaming injEq -> Qx
open Go.Fw.D.str renaming injEq -> Qy
open Go.Fw.D.sl renaming injEq -> Qz
open List.cons renaming injEq -> Za
set_option maxRecDepth 4000
set_option maxRecDepth 100000 in
theorem quotSays_lifted (os : Os) (started : os.Started) (H : Type) (enc : TypeId × Value -> H) :
  ReturnsInHanded {} Tryz.checked os 12 .any (fun w args => (Rows.quotSaysSpec.pre enc Tryz.prog Tryz.f12 [] false w args /\ laidMetH Tryz.prog laidL10 w) /\ sizedMet enc Tryz.prog Tryz.f12 (OpenSpec.ofChange Rows.quotSaysSpec) false w args)
   (Rows.quotSaysSpec.post enc Tryz.prog Tryz.f12 false true false false) := by
 refine row_true (C := Tryz.checked) (tb := 4) (X := fun w => laidMetH Tryz.prog laidL10 w) 8 (fun _ _ hh h => laidMetH.of_heap hh h) own started (by kernel_rfl) Tryz.func12
  (ChangeSpec.witness_at (enc := enc) (C := Tryz.checked) (os := os) (X := fun w _ => laidMetH Tryz.prog laidL10 w) false (laidWorld10 os) #[.agg #[.int .i64 0,.slice none 0 0]] 8 (laidWorld10_os os) (by kernel_rfl) (by kernel_rfl) (by kernel_rfl) (by kernel_rfl) (by kernel_rfl) (laidWorld10_met os _))
  laidOut rfl (by kernel_rfl) bool_row (by kernel_rfl) (by kernel_rfl) (fun ds h => ?_) (fun W dss hL hsh => ?_)
 ·match ds,h with
  | [_],_ => rfl
 ·have hsh' : All2 (Shape Tryz.prog 9) [24] dss := hsh
  obtain ⟨d1,rfl,h1⟩ := all2_one hsh'
  obtain ⟨x1,rfl⟩ := gr_of h1
  exact quot_says (env10_of_laid hL) x1
theorem quotSays_j0 : (Rows.quotSaysRow.inPlace == Tryz.prog.inPlace 12) = true := by kernel_rfl
theorem quotSays_j1 : (Rows.quotSaysRow.unfollowed == Tryz.prog.unfollowed 12) = true := by kernel_rfl
theorem quotSays_j2 : (Rows.quotSaysRow.recurses == Tryz.prog.recurses 12) = true := by kernel_rfl
theorem quotSays_j3 : (Rows.quotSaysRow.named == Tryz.prog.varsNamed 12) = true := by kernel_rfl
set_option maxRecDepth 100000 in
theorem quotSays_facts : joinedFacts Tryz.prog 12 Tryz.f12 Rows.quotSaysSpec Rows.quotSaysRow = true := by
 unfold joinedFacts
 simp only [quotSays_j0,quotSays_j1,quotSays_j2,quotSays_j3,enter10,Bool.true_and,Bool.and_true]
 kernel_rfl
theorem quotSays_holds : Rows.QuotSaysSaid :=
 OpenClaim.holds_of_wide 12 Tryz.f12 rfl rfl rfl rfl rfl rfl rfl ⟨rfl,rfl,rfl,rfl,rfl⟩ rfl rfl rfl rfl rfl (by kernel_rfl) Tryz.func12 quotSays_facts
  (of_decide_eq_true (by kernel_rfl)) (by unfold Func.isWrapper; rw [if_neg (of_decide_eq_false (by kernel_rfl))]; exact ⟨rfl,rfl⟩)
  (fun os started H enc _ => quotSays_lifted os started H enc)
end Go.Fw.L07
