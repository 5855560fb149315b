/- Chapter 11: texts of quotients are short. -/
import Derived.Test.YtejnfjophhnaeaaGreatDoorL07S11
import Derived.Test.YtejnfjophhnaeaaGreatDoorL07BS10
set_option linter.all false
namespace Go.Fw.L07
open Go Go.Fw
set_option maxRecDepth 4000
variable {gp : Heap}
theorem quot_short {g : Gr} (hg : Good g) (hst : ∀ x ∈ g.l,x.short) : ∀ x ∈ (quotG g).l,x.short := fun x hx => by
 have hsm := hg.quot.s x hx
 simp only [quotG,tidyG,List.mem_map] at hx
 obtain ⟨i,hi,rfl⟩ := hx
 have h1 : ndAt (wholeG g).l i ∈ (wholeG g).l := node_at (hg.whole.wIn i hi)
 generalize ndAt (wholeG g).l i = y at *
 simp only [wholeG,List.mem_map] at h1
 obtain ⟨a,ha,rfl⟩ := h1
 obtain ⟨j,hj⟩ := List.getElem?_of_mem ha
 have h2 := hst _ (node_at (fst_at hg.fine hj).1)
 refine ⟨hsm.1,hsm.2,h2.2.2.1,fun z hz => h2.2.2.2 z ?_⟩
 exact keys_mem z (keys_mem z hz)
end Go.Fw.L07
