/- Trees,and what is told of a tidy graph's anchors: plain. -/
import Derived.Test.YtakgmpkfpkmkaaaGreatDoorEb
import Derived.Test.YtakgmpkfpkmkaaaGreatDoorJa
set_option linter.all false
namespace Go.Fw.L07
open Go Go.Fw
open List renaming getElem?_eq_some_iff->Kr
set_option maxRecDepth 4000
inductive Tr where
 | mk (k:Int) (name:ByteArray) (x:Sc) (keys:List Sc) (kids:List Tr)
def Tr.k:Tr->Int|.mk k _ _ _ _=>k
def Tr.name:Tr->ByteArray|.mk _ n _ _ _=>n
def Tr.x:Tr->Sc|.mk _ _ x _ _=>x
def Tr.keys:Tr->List Sc|.mk _ _ _ l _=>l
def Tr.kids:Tr->List Tr|.mk _ _ _ _ l=>l
mutual
def Tr.ds:Tr->List D
 | .mk k name x keys kids=>[.int .i64 k,.str name,.int .i64 x.k,.int .i64 x.n,.str x.s,.sl (scs keys),.sl (Ji3 kids)]
def Ji3:List Tr->List (List D)
 | []=>[]
 | t::l=>t.ds::Ji3 l
end
abbrev trs (l:List Tr):List (List D):=l.map Tr.ds
abbrev Tr.dd (t:Tr):List D:=[.int .i64 t.k,.str t.name,.int .i64 t.x.k,.int .i64 t.x.n,.str t.x.s,.sl (scs t.keys),.sl (trs t.kids)]
abbrev Tr.as (t:Tr):List A:=[.d (.int .i64 t.k),.d (.str t.name),.d (.int .i64 t.x.k),.d (.int .i64 t.x.n),.d (.str t.x.s),.d (.sl (scs t.keys)),.d (.sl (trs t.kids))]
abbrev Tr.v (t:Tr):V:=.agg t.as
mutual
def Xch:Tr->List Tr
 | .mk k n x keys kids=>.mk k n x keys kids::Yxs kids
def Yxs:List Tr->List Tr
 | []=>[]
 | t::l=>Xch t++Yxs l
end
theorem X1f:∀ l:List Tr,Yxs l=l.flatMap Xch
 | []=>rfl
 | t::l=>by rw[Yxs,X1f l];rfl
theorem Xbp (t:Tr):Xch t=t::t.kids.flatMap Xch:=by
 cases t with
 | mk k n x keys kids=>rw[Xch,X1f];rfl
theorem Xhk (l:List Tr):l.length<=(l.flatMap Xch).length:=by
 induction l with
 | nil=>simp
 | cons t l ih=>rw[List.flatMap_cons,Xbp];simp only[List.length_cons,List.cons_append,List.length_append];omega
def Xaj (n:Int):ByteArray:=if n > 0 then ⟨#[97]⟩++⟨(Lib.itoa n).toArray⟩ else ⟨#[]⟩
theorem X1g {n:Int} (h:n > 0):Xaj n≠⟨#[]⟩:=by
 unfold Xaj
 rw[if_pos h]
 intro e
 have:=congrArg ByteArray.size e
 rw[ByteArray.size_append] at this
 have e1:(⟨#[97]⟩:ByteArray).size=1:=rfl
 have e2:(⟨#[]⟩:ByteArray).size=0:=rfl
 omega
theorem Xe8 {n:Int} (h:¬ n > 0):Xaj n=⟨#[]⟩:=by unfold Xaj;rw[if_neg h]
theorem Ymz {g:Gr} {us:List Int}:∀ i,(Xc2 g us i).2<=i/\∀ n∈(Xc2 g us i).1,n<=(i:Int)
 | 0=>by simp[Xc2]
 | i+1=>by
  obtain⟨h1,h2⟩:=Ymz (g:=g) (us:=us) i
  simp only[Xc2]
  split
  ·split
   ·refine⟨by simp only;omega,fun n hn=>?_⟩
    rcases List.mem_append.1 hn with hn|hn
    ·have:=h2 n hn;omega
    ·simp at hn;subst hn;omega
   ·refine⟨by simp only;omega,fun n hn=>?_⟩
    rcases List.mem_append.1 hn with hn|hn
    ·have:=h2 n hn;omega
    ·simp at hn;subst hn;omega
  ·exact⟨by omega,fun n hn=>by have:=h2 n hn;omega⟩
theorem Xi4 {n:Int} (h:n > 0):(Xaj n).data.toList=97::Lib.itoa n:=by
 unfold Xaj
 rw[if_pos h,ByteArray.data_append];simp
def anc (g:Gr) (i:Nat):Int:=((Xel g)[i]?).getD 0
theorem Xma (g:Gr):(Xbi g).length=g.l.length:=by unfold Xbi;rw[Xdo]
theorem Xkd {g:Gr} {i:Nat} (h:i < g.l.length):(Xbi g)[i]?=some (((0::flat g).count (i:Int):Nat):Int):=Xns _ h
theorem Ym0 {g:Gr} {i:Nat} {x:Nd} (hx:g.l[i]?=some x):(Xel g)[i]?=some (if Xmn x (((0::flat g).count (i:Int):Nat):Int) then (((Xc2 g (Xbi g) i).2+1:Nat):Int) else 0) :=
 Wwa (Xma g) hx (Xkd (Kr.1 hx).1)
theorem Xfr {g:Gr} {i:Nat} (h:i < g.l.length):(Xel g)[i]?=some (anc g i):=by
 obtain⟨x,hx⟩:=Xaf h
 unfold anc
 rw[Ym0 hx];rfl
theorem Ym1 {g:Gr} {i:Nat} {x:Nd} (hx:g.l[i]?=some x):anc g i=if Xmn x (((0::flat g).count (i:Int):Nat):Int) then (((Xc2 g (Xbi g) i).2+1:Nat):Int) else 0:=by
 unfold anc;rw[Ym0 hx];rfl
theorem Xtx {g:Gr} {i:Nat} {x:Nd} (hx:g.l[i]?=some x):0 < anc g i↔x.kids≠[]/\1 < (0::flat g).count (i:Int):=by
 rw[Ym1 hx]
 unfold Xmn
 split
 ·rename_i h
  simp only[Bool.and_eq_true,decide_eq_true_eq] at h
  exact⟨fun _=>⟨h.1,by omega⟩,fun _=>by omega⟩
 ·rename_i h
  simp only[Bool.and_eq_true,decide_eq_true_eq] at h
  exact⟨fun h2=>by omega,fun h2=>absurd ⟨h2.1,by omega⟩ h⟩
theorem Xry {g:Gr} {us:List Int} {i:Nat}:∀ j,i<=j->(Xc2 g us i).2<=(Xc2 g us j).2
 | 0,h=>by
  have e:i=0:=by omega
  subst e
  exact Nat.le_refl _
 | j+1,h=>by
  by_cases e:i=j+1
  ·rw[e];exact Nat.le_refl _
  ·refine Nat.le_trans (Xry j (by omega)) ?_
   simp only[Xc2]
   split
   ·split <;> simp
   ·exact Nat.le_refl _
theorem Xmb {g:Gr} {i:Nat} (hi:i < g.l.length):anc g i<=g.l.length:=by
 have:=(Ymz (g:=g) (us:=Xbi g) g.l.length).2 (anc g i) (List.mem_of_getElem? (Xfr hi))
 exact this
abbrev rest (g:Gr) (m:Nat):List Int:=(g.l.drop m).flatMap Nd.kids
theorem Xrz {g:Gr} {m:Nat} {x:Nd} (hx:g.l[m]?=some x):rest g m=x.kids++rest g (m+1):=by
 unfold rest
 obtain⟨h,rfl⟩:=Kr.1 hx
 rw[List.drop_eq_getElem_cons h,List.flatMap_cons]
structure St18 (g:Gr) (m:Nat) (s:List Int):Prop where
 w:Walks (kd g) s (Xd8 m) (Xd8 g.l.length)
 u:∀ i:Nat,i < g.l.length->(if i < m then 1 else 0)+s.count (i:Int)+(rest g m).count (i:Int)<=(0::flat g).count (i:Int)
 le:m<=g.l.length
theorem St18.first {g:Gr} (h:Tdy g):St18 g 0 [0]:=by
 refine⟨?_,fun i _=>?_,Nat.zero_le _⟩
 ·have:=h.good.walk
  rw[h.root,h.walk] at this
  exact this
 ·show _<=_
  simp only[rest,List.drop_zero,flat]
  rw[show (0::g.l.flatMap Nd.kids)=[0]++g.l.flatMap Nd.kids from rfl,List.count_append]
  simp
theorem St18.skip {g:Gr} {m i:Nat} {s:List Int} (h:St18 g m ((i:Int)::s)) (hi:i < m):St18 g m s/\2<=(0::flat g).count (i:Int):=by
 have hl:=h.le
 refine⟨⟨h.w.skip_inv (Xg2.2 ⟨by omega,by omega⟩),fun j hj=>?_,hl⟩,?_⟩
 ·have:=h.u j hj
  rw[List.count_cons] at this
  omega
 ·have:=h.u i (by omega)
  rw[if_pos hi,List.count_cons,if_pos (by simp)] at this
  omega
theorem St18.step {g:Gr} (hg:Tdy g) {m i:Nat} {s:List Int} (h:St18 g m ((i:Int)::s)) (hi:¬ i < m):i=m/\∃ x,g.l[m]?=some x/\kd g m=x.kids/\St18 g (m+1) (x.kids++s):=by
 have hw':=h.w.step_inv (fun e=>by have:=Xg2.1 e;omega)
 obtain⟨q,hq⟩:=hw'.pre
 have hie:i=m/\m < g.l.length:=by
  have h1:(Xd8 g.l.length)[m]?=some (i:Int):=by
   rw[hq,List.append_assoc,List.getElem?_append_right (by simp)]
   simp
  have h2:=(Kr.1 h1).1
  rw[Xi2] at h2
  rw[Xig h2] at h1
  simp at h1
  omega
 obtain⟨rfl,hmn⟩:=hie
 obtain⟨x,hx⟩:=Xaf hmn
 have hk:=hg.kd hx
 refine⟨rfl,x,hx,hk,?_,fun j hj=>?_,by omega⟩
 ·rw[<- hk,Xl9];exact hw'
 ·have:=h.u j hj
  rw[Xrz hx,List.count_append,List.count_cons] at this
  rw[List.count_append]
  by_cases e2:i=j
  ·subst e2
   simp only[beq_self_eq_true,if_true,Nat.lt_irrefl,if_false] at this
   rw[if_pos (by omega)]
   omega
  ·have e3:((i:Int)==(j:Int))=false:=by simp;omega
   simp only[e3,Bool.false_eq_true,if_false] at this
   by_cases hj2:j < i
   ·rw[if_pos hj2] at this
    rw[if_pos (by omega)];omega
   ·rw[if_neg hj2] at this
    rw[if_neg (by omega)];omega
end Go.Fw.L07
