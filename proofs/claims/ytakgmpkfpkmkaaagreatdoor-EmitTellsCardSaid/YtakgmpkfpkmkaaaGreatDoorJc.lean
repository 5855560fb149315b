/- Chapter 7: kids as own rows. -/
import Derived.Test.YtakgmpkfpkmkaaaGreatDoorL07R
import Derived.Test.YtakgmpkfpkmkaaaGreatDoorJb
import Derived.Test.YtakgmpkfpkmkaaaGreatDoorL07L10Mini
import Derived.Test.YtakgmpkfpkmkaaaGreatDoorJa
import Derived.Test.YtakgmpkfpkmkaaaGreatDoorEa
set_option linter.all false
namespace Go.Fw
open Go
section
variable {S:Sx} {Y:Dyn} {k:List MI} {s:St} {a:Act} {w w':World} {H:Heap} {an:Anc} {F:Nat->Nat->Prop} {ms:List Nat}
end
end Go.Fw
namespace Go.Fw.L07
open Go Go.Fw
set_option maxRecDepth 4000
variable {gp:Heap}
def Jkh (x:Nd):Nat:=if x.k=1 then 1 else (Xae x).length
abbrev pD (g:Gr) (c:List Int):V:=.one (.d (.bx [.int .i64 g.root,.sl (nds g.l),.sl (Xad c)]))
theorem Xty:∀ l:List Int,(l.flatMap pcR).length<=4*l.length
 | []=>Nat.le_refl _
 | r::l=>by
  have h1:=Ykw r
  have h2:=Xty l
  simp only[List.flatMap_cons,List.length_append,List.length_cons]
  omega
theorem Xtz (s:ByteArray):∀ (f p:Nat),(sgF s f p).length<=f
 | 0,p=>by simp[sgF]
 | f+1,p=>by
  have:=Xtz s f (p+(Utf8.decode s p).2)
  simp only[sgF]
  split <;> simp <;> omega
theorem Xt0 {x:Sc} (h:prR Xas x=true) (hs:x.short):(scB x).length<=1700000:=by
 have hk:=Xpg h
 unfold Xfw at hk
 unfold scB
 split
 ·simp
 ·split
  ·cases decide (x.n=1) <;> simp[X2q]
  ·split
   ·have:=Lib.itoa_length_le x.n (by omega) (by omega)
    omega
   ·unfold X2p sgS
    have h1:=Xg0 ((sgF x.s x.s.size 0).flatMap pcR)
    have h2:=Xty (sgF x.s x.s.size 0)
    have h3:=Xtz x.s x.s.size 0
    unfold Sc.short at hs
    simp only[List.length_cons,List.length_append,List.length_nil]
    omega
def Jdv (c:List Int) (i:Int):Int:=c[i.toNat]?.getD 0
structure SayT where
 k:Int
 x:Sc
 ks:List UInt8
 ns:List UInt8
 deriving DecidableEq
def Jj0 (c:List Int) (x:Nd):SayT:=⟨x.k,x.x,Jhv (Xaq x),Jht ((Xan x).map (Jdv c))⟩
abbrev Jj1 (s:SayT):V:=.agg [.d (.int .i64 s.k),.d (.int .i64 s.x.k),.d (.int .i64 s.x.n),.d (.str s.x.s),.d (.str (bT s.ks)),.d (.str (bT s.ns))]
def Jki (c l:List Int) (i:Nat):List Int:=(l.take i).map (Jdv c)++l.drop i
section
variable {α:Type} [DecidableEq α] {kag:Bool} {ks:List Leaf} {kv:α->V}
def Jj2 (kv:α->V) (k:Nat) (l:List α):List (V × V):=(l.zipIdx k).map fun p=>(kv p.1,vi (p.2:Int))
end
abbrev kS:List Leaf:=[.i,.i,.i,.s,.s,.s]
def Jkj (l:List SayT):List (V × V):=Jj2 Jj1 0 l
abbrev pC (g:Gr) (v:Nat):Ch:=.cells [.d (.int .i64 g.root),.d (.sl (nds g.l)),.own 1 v]
def Jj3 (l:List Nd) (c:List Int):List SayT:=l.map (Jj0 c)
structure Neat (g:Gr):Prop where
 f:Fine g.l
 s:∀ x∈g.l,x.short
 len:g.l.length<=1000
theorem Neat.small {g:Gr} (h:Neat g):Xc9 g:=h.f.small
theorem X2y {x:Nd} {n:Int} (h:Xa6 Xas x n=true):∀ y∈Xaq x,prR Xas y=true:=by
 by_cases hk:x.k=2
 ·have h1:=(Xhj h hk).1
  obtain⟨m1,_,_⟩:=Xgc h hk
  intro y hy
  unfold Xaq at hy
  rw[Xb3 hk m1] at hy
  have:=((Xdv (Xb5 x)).map Pr.key).mem_iff.1 hy
  rw[Xgu m1] at this
  exact (List.all_eq_true.1 h1) y this
 ·intro y hy
  unfold Xaq at hy
  rw[Xcr hk] at hy
  cases hy
theorem Yxz {x:Nd}:∀ y∈Xaq x,y∈x.keys:=by
 intro y hy
 by_cases hk:x.k=2/\x.keys.length=x.kids.length
 ·unfold Xaq at hy
  rw[Xb3 hk.1 hk.2] at hy
  have:=((Xdv (Xb5 x)).map Pr.key).mem_iff.1 hy
  rwa [Xgu hk.2] at this
 ·unfold Xaq Xae at hy
  rw[if_neg hk] at hy
  cases hy
theorem Neat.keys {g:Gr} (h:Neat g) {i:Int} (hi:inL g.l i):∀ y∈Xaq (Xbr g.l i),prR Xas y=true/\y.short:=fun y hy =>
 ⟨X2y (h.f.node _ (Xo3 hi)) y hy,(h.s _ (Xo3 hi)).2.2.2 y (Yxz y hy)⟩
structure ClsOK (l:List Nd) (c:List Int):Prop where
 len:c.length=l.length
 ok:∀ n∈c,okI n
theorem ClsOK.kid {g:Gr} {c:List Int} (h:ClsOK g.l c) (hf:Fine g.l) (i:Int):∀ j∈Xan (Xbr g.l i),0<=j/\∃ x,c[j.toNat]?=some x/\okI x:=fun j hj=>by
 have hi:=hf.kid i j hj
 unfold inL at hi
 obtain⟨x,hx⟩:=Xaf (l:=c) (i:=j.toNat) (by rw[h.len];omega)
 exact⟨hi.1,x,hx,h.ok x (List.mem_of_getElem? hx)⟩
def Jj4 (R:List Int) (n i:Nat):List Int:=R.take i++Wtr (n - i)
structure Env10 (gp:Heap):Prop where
 e:Env gp
 p:X2v gp
def cOf (g:Gr):List Int:=if chk g=none then Ww4 g.l else []
end Go.Fw.L07
