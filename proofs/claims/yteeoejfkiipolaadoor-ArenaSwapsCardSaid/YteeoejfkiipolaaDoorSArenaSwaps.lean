/- The row of ArenaSwaps. -/
import Derived.Test.YteeoejfkiipolaaDoorL07R
import Derived.Test.YteeoejfkiipolaaDoorL07RSwap
import Derived.Test.YteeoejfkiipolaaDoorFe
import Derived.Stop.Joined
set_option linter.all false
namespace Go.Fw.L07
open Go Go.Fw Go.Proofs Go.RowKit Go.Proofs.YteeoejfkiipolaaDoor
set_option maxRecDepth 4000
set_option maxRecDepth 100000 in
theorem arenaSwaps_lifted (os : Os) (started : os.Started) (H : Type) (enc : TypeId × Value -> H) :
  ReturnsInHanded {} Tryd.checked os 3 .any (fun w args => (Rows.arenaSwapsSpec.pre enc Tryd.prog Tryd.f3 [] false w args /\ laidMetH Tryd.prog laidL w) /\ sizedMet enc Tryd.prog Tryd.f3 (OpenSpec.ofChange Rows.arenaSwapsSpec) false w args)
   (Rows.arenaSwapsSpec.post enc Tryd.prog Tryd.f3 false true false false) := by
 refine row_true (C := Tryd.checked) (tb := 4) (X := fun w => laidMetH Tryd.prog laidL w) 8 (fun _ _ hh h => laidMetH.of_heap hh h) own started (by kernel_rfl) Tryd.func3
  (ChangeSpec.witness_at (enc := enc) (C := Tryd.checked) (os := os) (X := fun w _ => laidMetH Tryd.prog laidL w) false (laidWorld os) #[.agg #[.int .i64 0,.slice none 0 0],.int .i64 0] 8 (laidWorld_os os) (by kernel_rfl) (by kernel_rfl) (by kernel_rfl) (by kernel_rfl) (by kernel_rfl) (laidWorld_met os _))
  laidOut rfl (by kernel_rfl) bool_row (by kernel_rfl) (by kernel_rfl) (fun ds h => ?_) (fun W dss hL hsh => ?_)
 ·match ds,h with
  | [_,_],_ => rfl
 ·have hsh' : All2 (Shape Tryd.prog 9) [24,3] dss := hsh
  obtain ⟨d1,d2,rfl,h1,h2⟩ := all2_two hsh'
  obtain ⟨x1,rfl⟩ := gr_of h1
  obtain ⟨x2,rfl⟩ := int_of h2
  exact arena_swaps (env_of_laid hL) x1 x2
theorem arenaSwaps_holds : Rows.ArenaSwapsSaid :=
 OpenClaim.holds_of_wide 3 Tryd.f3 rfl rfl rfl rfl rfl rfl rfl ⟨rfl,rfl,rfl,rfl,rfl⟩ rfl rfl rfl rfl rfl (by kernel_rfl) Tryd.func3 (by kernel_rfl)
  (of_decide_eq_true (by kernel_rfl)) (by unfold Func.isWrapper; rw [if_neg (of_decide_eq_false (by kernel_rfl))]; exact ⟨rfl,rfl⟩)
  (fun os started H enc _ => arenaSwaps_lifted os started H enc)
end Go.Fw.L07
