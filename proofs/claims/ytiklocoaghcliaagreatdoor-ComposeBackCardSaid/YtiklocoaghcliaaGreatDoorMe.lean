/- Chapter 18,plain: trees' graphs are right; cut trees are small. -/
import Derived.Test.YtiklocoaghcliaaGreatDoorMd
import Derived.Lib.TrimUEq
set_option linter.all false
namespace Go.Fw.L07
open Go Go.Fw
set_option maxRecDepth 4000
theorem Yhx:∀ (n:Nat) (l:List Int),(∀ i:Nat,i < n->(i:Int)∈l)->n<=l.length
 | 0,_,_=>Nat.zero_le _
 | n+1,l,h=>by
  have h1:=Yhx n (l.erase (n:Int)) fun i hi=>(List.mem_erase_of_ne (by omega)).2 (h i (by omega))
  rw[List.length_erase_of_mem (h n (by omega))] at h1
  have h2:0 < l.length:=List.length_pos_of_mem (h n (by omega))
  omega
theorem Xs3 {R:ByteArray->Bool} {t:Tr} {n:Nat} (he:(Xch R t 1 n []).e=0):(Xch R t 1 n []).is=[(n:Int)]/\t.k≠3:=by
 rw[Xda] at he ⊢
 split at he
 ·rename_i h1;exact absurd he h1
 ·rename_i h1
  have hc:=Ymz (R:=R) (t:=t) (deep:=1) (n:=n) (nm:=[]) (by simpa using h1)
  have hk:t.k≠3:=fun hk=>hc.2.2.2.1 hk rfl
  rw[if_neg hk] at he
  rw[if_neg h1,if_neg hk]
  simp only at he
  rw[he]
  simp[hk]
theorem Ypm {t:Tr} (hs:smT t) (he:(Xch Xag t 1 0 []).e=0):Good ⟨0,(Xch Xag t 1 0 []).new⟩/\(Xbn ⟨0,(Xch Xag t 1 0 []).new⟩).length=(Xch Xag t 1 0 []).new.length/\(Xch Xag t 1 0 []).new.length=Wib t:=by
 have h1:=Wa9 t 1 0 [] (fun p hp=>by cases hp) he
 have h2:=Xx5 (R:=Xag) t 1 0 [] (by omega)
 have h3:=Wbb (R:=Xag) t hs 1 0 []
 have h4:=Ym2 t 1 0 [] he
 obtain⟨h5,h6⟩:=Xs3 he
 generalize Xch Xag t 1 0 []=r at *
 have h7:=h1.is 0 (by rw[h5];simp)
 have hg:Good ⟨0,r.new⟩:=⟨Xxx (by simpa using h2) (by simpa using h7) (fun x hx=>h1.node x hx _ (by simp)),h3⟩
 refine⟨hg,Nat.le_antisymm hg.wlen (Yhx _ _ fun i hi=>?_),h4⟩
 induction i using Nat.strongRecOn with
 | _ i ih =>
  rcases h1.par i hi with e|⟨p,x,hp,hx,hk⟩
  ·rw[h5] at e
   simp at e
   subst e
   exact hg.wroot
  ·rw[Nat.zero_add] at hk
   have hpl:p < r.new.length:=by omega
   have hnd:Xbc r.new (p:Int)=x:=by
    unfold Xbc
    rw[if_pos (by omega),Int.toNat_natCast,hx];rfl
   refine hg.wclosed p (ih p hp hpl) i ?_
   show (i:Int)∈Xak (Xbc r.new (p:Int))
   rw[hnd]
   exact (Xms (h1.node x (List.mem_of_getElem? hx) _ (Nat.le_refl _)) _).2 hk
theorem Xm8 (s:ByteArray):(Wh9 s).size<=100:=by
 unfold Wh9
 rw[ByteArray.size_extract];omega
def mq (nm:Nm):Nm:=nm.map fun p=>(qN p.1,p.2)
def W2j (a b:Lr):Prop:=b.e=93\/b=⟨a.is,a.e,a.new,mq a.nm⟩
def shI (i:Int):Int:=i+1
def shN (x:Nd):Nd:=⟨x.k,x.x,x.keys,x.kids.map shI⟩
def shM (nm:Nm):Nm:=nm.map fun p=>(p.1,p.2+1)
mutual
def htT:Tr->Nat
 | .mk _ _ _ _ kids=>1+htL kids
def htL:List Tr->Nat
 | []=>0
 | t::l=>max (htT t) (htL l)
end
def W2k (n:Nat) (a b:Lr):Prop:=(b.e=a.e/\(a.e=0->b=⟨a.is.map shI,0,a.new.map shN,shM a.nm⟩))\/(b.e=71/\(a.e=0->n+a.new.length=200))
section
variable {R:ByteArray->Bool}
end
end Go.Fw.L07
