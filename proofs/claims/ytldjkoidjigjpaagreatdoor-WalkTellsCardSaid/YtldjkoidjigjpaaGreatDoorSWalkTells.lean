/- The row of WalkTells. -/
import Derived.Test.YtldjkoidjigjpaaGreatDoorL07R
import Derived.Test.YtldjkoidjigjpaaGreatDoorL07RTells12
import Derived.Test.YtldjkoidjigjpaaGreatDoorFe
import Derived.Stop.Joined
set_option linter.all false
namespace Go.Fw.L07
open Go Go.Fw Go.Proofs Go.RowKit Go.Proofs.YtldjkoidjigjpaaGreatDoor
open Nat renaming reduceAdd -> Qa,reduceSub -> Qb,reduceMul -> Qc,reduceLeDiff -> Qd,reduceLT -> Qe,reduceEqDiff -> Qf
open Int renaming reduceToNat -> Qg,reduceLT -> Qh,reduceLE -> Qi,reduceGT -> Qj,reduceGE -> Qk,reduceEq -> Ql,reduceNe -> Qm,reduceBEq -> Qn,reduceBNe -> Qo,reduceAdd -> Qp,reduceSub -> Qq,reduceNeg -> Qr
open Go.Fw.V.one renaming injEq -> Qs
open Go.Fw.V.agg renaming injEq -> Qt
open Go.Fw.V.tup renaming injEq -> Qu
open Go.Fw.A.d renaming injEq -> Qv
open Go.Fw.D.bool renaming injEq -> Qw
open Go.Fw.D.int renaming injEq -> Qx
open Go.Fw.D.str renaming injEq -> Qy
open Go.Fw.D.sl renaming injEq -> Qz
open List.cons renaming injEq -> Za
set_option maxRecDepth 4000
set_option maxRecDepth 100000 in
theorem walkTells_lifted (os : Os) (started : os.Started) (H : Type) (enc : TypeId × Value -> H) :
  ReturnsInHanded {} Tryz.checked os 6 .any (fun w args => (Rows.walkTellsSpec.pre enc Tryz.prog Tryz.f6 [] false w args /\ laidMetH Tryz.prog laidL w) /\ sizedMet enc Tryz.prog Tryz.f6 (OpenSpec.ofChange Rows.walkTellsSpec) false w args)
   (Rows.walkTellsSpec.post enc Tryz.prog Tryz.f6 false true false false) := by
 refine row_true (C := Tryz.checked) (tb := 4) (X := fun w => laidMetH Tryz.prog laidL w) 8 (fun _ _ hh h => laidMetH.of_heap hh h) own started (by kernel_rfl) Tryz.func6
  (ChangeSpec.witness_at (enc := enc) (C := Tryz.checked) (os := os) (X := fun w _ => laidMetH Tryz.prog laidL w) false (laidWorld os) #[.agg #[.int .i64 0,.slice none 0 0],.bool false] 8 (laidWorld_os os) (by kernel_rfl) (by kernel_rfl) (by kernel_rfl) (by kernel_rfl) (by kernel_rfl) (laidWorld_met os _))
  laidOut rfl (by kernel_rfl) bool_row (by kernel_rfl) (by kernel_rfl) (fun ds h => ?_) (fun W dss hL hsh => ?_)
 ·match ds,h with
  | [_,_],_ => rfl
 ·have hsh' : All2 (Shape Tryz.prog 9) [24,4] dss := hsh
  obtain ⟨d1,d2,rfl,h1,h2⟩ := all2_two hsh'
  obtain ⟨x1,rfl⟩ := gr_of h1
  obtain ⟨x2,rfl⟩ := bool_of h2
  exact walk_tells (env_of_laid hL) x1 x2
theorem walkTells_holds : Rows.WalkTellsSaid :=
 OpenClaim.holds_of_wide 6 Tryz.f6 rfl rfl rfl rfl rfl rfl rfl ⟨rfl,rfl,rfl,rfl,rfl⟩ rfl rfl rfl rfl rfl (by kernel_rfl) Tryz.func6 (by kernel_rfl)
  (of_decide_eq_true (by kernel_rfl)) (by unfold Func.isWrapper; rw [if_neg (of_decide_eq_false (by kernel_rfl))]; exact ⟨rfl,rfl⟩)
  (fun os started H enc _ => walkTells_lifted os started H enc)
end Go.Fw.L07
