/- Chapter 18,plain: trees' graphs are right; cut trees are small. -/
import Derived.Test.YtiklocoaghcliaaGreatDoorMd
import Derived.Lib.TrimUEq
set_option linter.all false
namespace Go.Fw.L07
open Go Go.Fw
set_option maxRecDepth 4000
def mq (nm : Nm) : Nm := nm.map fun p => (qN p.1,p.2)
def SameQ (a b : Lr) : Prop := b.e = 93 \/ b = ⟨a.is,a.e,a.new,mq a.nm⟩
def shI (i : Int) : Int := i + 1
def shN (x : Nd) : Nd := ⟨x.k,x.x,x.keys,x.kids.map shI⟩
def shM (nm : Nm) : Nm := nm.map fun p => (p.1,p.2 + 1)
mutual
def htT : Tr -> Nat
 | .mk _ _ _ _ kids => 1 + htL kids
def htL : List Tr -> Nat
 | [] => 0
 | t :: l => max (htT t) (htL l)
end
def SameW (n : Nat) (a b : Lr) : Prop := (b.e = a.e /\ (a.e = 0 -> b = ⟨a.is.map shI,0,a.new.map shN,shM a.nm⟩)) \/ (b.e = 71 /\ (a.e = 0 -> n + a.new.length = 200))
section
variable {R : ByteArray -> Bool}
end
end Go.Fw.L07
