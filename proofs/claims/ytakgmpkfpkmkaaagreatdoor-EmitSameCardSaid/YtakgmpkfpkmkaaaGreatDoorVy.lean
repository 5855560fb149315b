/- Chapter 7,by definition: kids,a key's kid; the law that tells all. -/
import Derived.Test.YtakgmpkfpkmkaaaGreatDoorVa
import Derived.Test.YtakgmpkfpkmkaaaGreatDoorIa
set_option linter.all false
namespace Go.Fw.L07
open Go Go.Fw
set_option maxRecDepth 4000
variable {gp:Heap}
def kdO (x:Nd) (k:Int):Int:=(x.kids[k.toNat]?).getD 0
theorem Xsl (s:ByteArray):(Wwa s).size<=100:=by
 unfold Wwa
 rw[ByteArray.size_extract]
 omega
theorem Yh1 (g:Gr):∀ x∈g.cut.l,x.short:=by
 intro x hx
 obtain⟨y,_,rfl⟩:=List.mem_map.1 hx
 refine⟨by simp[Nd.cut];omega,by simp[Nd.cut];omega,?_,fun z hz=>?_⟩
 ·exact Nat.le_trans (Xsl _) (by omega)
 ·obtain⟨u,_,rfl⟩:=List.mem_map.1 hz
  exact Nat.le_trans (Xsl _) (by omega)
end Go.Fw.L07
