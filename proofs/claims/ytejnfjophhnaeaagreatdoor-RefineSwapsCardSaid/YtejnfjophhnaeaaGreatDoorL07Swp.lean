/- Chapter 7,plain: a map's keys and kids turned about. -/
import Derived.Test.YtejnfjophhnaeaaGreatDoorL07Kids
set_option linter.all false
namespace Go.Fw.L07
open Go Go.Fw
set_option maxRecDepth 4000
variable {gp : Heap}
def revN (x : Nd) : Nd := ⟨x.k,x.x,x.keys.reverse,x.kids.reverse⟩
theorem set_small {q : Gr} (hs : Small q) {i : Nat} {y : Nd} (hy : y.keys.length <= 12 /\ y.kids.length <= 12) : Small ⟨q.root,q.l.set i y⟩ := by
 intro x hx
 rcases List.mem_or_eq_of_mem_set hx with hx | rfl
 ·exact hs x hx
 ·exact hy
end Go.Fw.L07
