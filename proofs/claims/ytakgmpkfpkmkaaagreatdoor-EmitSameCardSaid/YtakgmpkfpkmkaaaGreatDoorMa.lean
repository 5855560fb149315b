/- Trees,and what is told of a tidy graph's anchors: plain. -/
import Derived.Test.YtakgmpkfpkmkaaaGreatDoorEb
import Derived.Test.YtakgmpkfpkmkaaaGreatDoorJa
set_option linter.all false
namespace Go.Fw.L07
open Go Go.Fw
open List renaming getElem?_eq_some_iff->Kr
set_option maxRecDepth 4000
inductive Tr where
 | mk (k:Int) (name:ByteArray) (x:Sc) (keys:List Sc) (kids:List Tr)
def Tr.k:Tr->Int|.mk k _ _ _ _=>k
def Tr.name:Tr->ByteArray|.mk _ n _ _ _=>n
def Tr.x:Tr->Sc|.mk _ _ x _ _=>x
def Tr.keys:Tr->List Sc|.mk _ _ _ l _=>l
def Tr.kids:Tr->List Tr|.mk _ _ _ _ l=>l
mutual
def Tr.ds:Tr->List D
 | .mk k name x keys kids=>[.int .i64 k,.str name,.int .i64 x.k,.int .i64 x.n,.str x.s,.sl (scs keys),.sl (Wz8 kids)]
def Wz8:List Tr->List (List D)
 | []=>[]
 | t::l=>t.ds::Wz8 l
end
abbrev trs (l:List Tr):List (List D):=l.map Tr.ds
abbrev Tr.dd (t:Tr):List D:=[.int .i64 t.k,.str t.name,.int .i64 t.x.k,.int .i64 t.x.n,.str t.x.s,.sl (scs t.keys),.sl (trs t.kids)]
abbrev Tr.as (t:Tr):List A:=[.d (.int .i64 t.k),.d (.str t.name),.d (.int .i64 t.x.k),.d (.int .i64 t.x.n),.d (.str t.x.s),.d (.sl (scs t.keys)),.d (.sl (trs t.kids))]
abbrev Tr.v (t:Tr):V:=.agg t.as
mutual
def Xiw:Tr->List Tr
 | .mk k n x keys kids=>.mk k n x keys kids::Ypt kids
def Ypt:List Tr->List Tr
 | []=>[]
 | t::l=>Xiw t++Ypt l
end
theorem Xzx:∀ l:List Tr,Ypt l=l.flatMap Xiw
 | []=>rfl
 | t::l=>by rw[Ypt,Xzx l];rfl
theorem Xgt (t:Tr):Xiw t=t::t.kids.flatMap Xiw:=by
 cases t with
 | mk k n x keys kids=>rw[Xiw,Xzx];rfl
theorem Xuk (l:List Tr):l.length<=(l.flatMap Xiw).length:=by
 induction l with
 | nil=>simp
 | cons t l ih=>rw[List.flatMap_cons,Xgt];simp only[List.length_cons,List.cons_append,List.length_append];omega
def Xao (n:Int):ByteArray:=if n > 0 then ⟨#[97]⟩++⟨(Lib.itoa n).toArray⟩ else ⟨#[]⟩
theorem Xzy {n:Int} (h:n > 0):Xao n≠⟨#[]⟩:=by
 unfold Xao
 rw[if_pos h]
 intro e
 have:=congrArg ByteArray.size e
 rw[ByteArray.size_append] at this
 have e1:(⟨#[97]⟩:ByteArray).size=1:=rfl
 have e2:(⟨#[]⟩:ByteArray).size=0:=rfl
 omega
theorem Xd4 {n:Int} (h:¬ n > 0):Xao n=⟨#[]⟩:=by unfold Xao;rw[if_neg h]
theorem Yhj {g:Gr} {us:List Int}:∀ i,(Xd8 g us i).2<=i/\∀ n∈(Xd8 g us i).1,n<=(i:Int)
 | 0=>by simp[Xd8]
 | i+1=>by
  obtain⟨h1,h2⟩:=Yhj (g:=g) (us:=us) i
  simp only[Xd8]
  split
  ·split
   ·refine⟨by simp only;omega,fun n hn=>?_⟩
    rcases List.mem_append.1 hn with hn|hn
    ·have:=h2 n hn;omega
    ·simp at hn;subst hn;omega
   ·refine⟨by simp only;omega,fun n hn=>?_⟩
    rcases List.mem_append.1 hn with hn|hn
    ·have:=h2 n hn;omega
    ·simp at hn;subst hn;omega
  ·exact⟨by omega,fun n hn=>by have:=h2 n hn;omega⟩
theorem Xev {n:Int} (h:n > 0):(Xao n).data.toList=97::Lib.itoa n:=by
 unfold Xao
 rw[if_pos h,ByteArray.data_append];simp
theorem Yhk {n m:Int} (hn:n > 0) (hm:m > 0) (h:Xao n=Xao m):n=m:=by
 have h2:=congrArg (fun s:ByteArray=>s.data.toList) h
 simp only[Xev hn,Xev hm,List.cons.injEq,true_and] at h2
 exact Xpu h2
def anc (g:Gr) (i:Nat):Int:=((Xgc g)[i]?).getD 0
theorem Xsd (g:Gr):(Xce g).length=g.l.length:=by unfold Xce;rw[Xek]
theorem Xk7 {g:Gr} {i:Nat} (h:i < g.l.length):(Xce g)[i]?=some (((0::flat g).count (i:Int):Nat):Int):=Xr9 _ h
theorem Yhl {g:Gr} {i:Nat} {x:Nd} (hx:g.l[i]?=some x):(Xgc g)[i]?=some (if Xui x (((0::flat g).count (i:Int):Nat):Int) then (((Xd8 g (Xce g) i).2+1:Nat):Int) else 0) :=
 Wf4 (Xsd g) hx (Xk7 (Kr.1 hx).1)
theorem Xp2 {g:Gr} {i:Nat} (h:i < g.l.length):(Xgc g)[i]?=some (anc g i):=by
 obtain⟨x,hx⟩:=Xal h
 unfold anc
 rw[Yhl hx];rfl
theorem Xod {g:Gr} {i:Nat} {x:Nd} (hx:g.l[i]?=some x):anc g i=if Xui x (((0::flat g).count (i:Int):Nat):Int) then (((Xd8 g (Xce g) i).2+1:Nat):Int) else 0:=by
 unfold anc;rw[Yhl hx];rfl
theorem Yhm {g:Gr} {i:Nat} {x:Nd} (hx:g.l[i]?=some x):0 < anc g i↔x.kids≠[]/\1 < (0::flat g).count (i:Int):=by
 rw[Xod hx]
 unfold Xui
 split
 ·rename_i h
  simp only[Bool.and_eq_true,decide_eq_true_eq] at h
  exact⟨fun _=>⟨h.1,by omega⟩,fun _=>by omega⟩
 ·rename_i h
  simp only[Bool.and_eq_true,decide_eq_true_eq] at h
  exact⟨fun h2=>by omega,fun h2=>absurd ⟨h2.1,by omega⟩ h⟩
theorem Xmw {g:Gr} {us:List Int} {i:Nat}:∀ j,i<=j->(Xd8 g us i).2<=(Xd8 g us j).2
 | 0,h=>by
  have e:i=0:=by omega
  subst e
  exact Nat.le_refl _
 | j+1,h=>by
  by_cases e:i=j+1
  ·rw[e];exact Nat.le_refl _
  ·refine Nat.le_trans (Xmw j (by omega)) ?_
   simp only[Xd8]
   split
   ·split <;> simp
   ·exact Nat.le_refl _
theorem Yym {g:Gr} {i j:Nat} (hij:i < j) (hj:j < g.l.length) (h:0 < anc g i) (h':0 < anc g j):anc g i < anc g j:=by
 obtain⟨x,hx⟩:=Xal (l:=g.l) (i:=i) (by omega)
 obtain⟨y,hy⟩:=Xal hj
 have hs:(Xd8 g (Xce g) (i+1)).2=(Xd8 g (Xce g) i).2+1:=by
  simp only[Xd8,hx,Xk7 (show i < g.l.length by omega)]
  rw[Xod hx] at h
  split at h
  ·rename_i hp;rw[if_pos hp]
  ·omega
 have:=Xmw (g:=g) (us:=Xce g) (i:=i+1) j (by omega)
 rw[Xod hx] at h ⊢
 rw[Xod hy] at h' ⊢
 split at h
 ·rename_i h1
  split at h'
  ·rename_i h2
   rw[if_pos h1,if_pos h2]
   omega
  ·omega
 ·omega
theorem Wga {g:Gr} {i j:Nat} (hi:i < g.l.length) (hj:j < g.l.length) (h:0 < anc g i) (e:anc g i=anc g j):i=j:=by
 rcases Nat.lt_trichotomy i j with h1|h1|h1
 ·have:=Yym h1 hj h (e ▸ h);omega
 ·exact h1
 ·have:=Yym h1 hi (e ▸ h) h;omega
theorem Wue {g:Gr} {i:Nat} (hi:i < g.l.length):anc g i<=g.l.length:=by
 have:=(Yhj (g:=g) (us:=Xce g) g.l.length).2 (anc g i) (List.mem_of_getElem? (Xp2 hi))
 exact this
abbrev rest (g:Gr) (m:Nat):List Int:=(g.l.drop m).flatMap Nd.kids
theorem Xse {g:Gr} {m:Nat} {x:Nd} (hx:g.l[m]?=some x):rest g m=x.kids++rest g (m+1):=by
 unfold rest
 obtain⟨h,rfl⟩:=Kr.1 hx
 rw[List.drop_eq_getElem_cons h,List.flatMap_cons]
structure St18 (g:Gr) (m:Nat) (s:List Int):Prop where
 w:Walks (kd g) s (Xd3 m) (Xd3 g.l.length)
 u:∀ i:Nat,i < g.l.length->(if i < m then 1 else 0)+s.count (i:Int)+(rest g m).count (i:Int)<=(0::flat g).count (i:Int)
 le:m<=g.l.length
theorem St18.first {g:Gr} (h:Tdy g):St18 g 0 [0]:=by
 refine⟨?_,fun i _=>?_,Nat.zero_le _⟩
 ·have:=h.good.walk
  rw[h.root,h.walk] at this
  exact this
 ·show _<=_
  simp only[rest,List.drop_zero,flat]
  rw[show (0::g.l.flatMap Nd.kids)=[0]++g.l.flatMap Nd.kids from rfl,List.count_append]
  simp
theorem St18.skip {g:Gr} {m i:Nat} {s:List Int} (h:St18 g m ((i:Int)::s)) (hi:i < m):St18 g m s/\2<=(0::flat g).count (i:Int):=by
 have hl:=h.le
 refine⟨⟨h.w.skip_inv (Xgr.2 ⟨by omega,by omega⟩),fun j hj=>?_,hl⟩,?_⟩
 ·have:=h.u j hj
  rw[List.count_cons] at this
  omega
 ·have:=h.u i (by omega)
  rw[if_pos hi,List.count_cons,if_pos (by simp)] at this
  omega
theorem St18.step {g:Gr} (hg:Tdy g) {m i:Nat} {s:List Int} (h:St18 g m ((i:Int)::s)) (hi:¬ i < m):i=m/\∃ x,g.l[m]?=some x/\kd g m=x.kids/\St18 g (m+1) (x.kids++s):=by
 have hw':=h.w.step_inv (fun e=>by have:=Xgr.1 e;omega)
 obtain⟨q,hq⟩:=hw'.pre
 have hie:i=m/\m < g.l.length:=by
  have h1:(Xd3 g.l.length)[m]?=some (i:Int):=by
   rw[hq,List.append_assoc,List.getElem?_append_right (by simp)]
   simp
  have h2:=(Kr.1 h1).1
  rw[Xj0] at h2
  rw[Xiv h2] at h1
  simp at h1
  omega
 obtain⟨rfl,hmn⟩:=hie
 obtain⟨x,hx⟩:=Xal hmn
 have hk:=hg.kd hx
 refine⟨rfl,x,hx,hk,?_,fun j hj=>?_,by omega⟩
 ·rw[<- hk,Xmv];exact hw'
 ·have:=h.u j hj
  rw[Xse hx,List.count_append,List.count_cons] at this
  rw[List.count_append]
  by_cases e2:i=j
  ·subst e2
   simp only[beq_self_eq_true,if_true,Nat.lt_irrefl,if_false] at this
   rw[if_pos (by omega)]
   omega
  ·have e3:((i:Int)==(j:Int))=false:=by simp;omega
   simp only[e3,Bool.false_eq_true,if_false] at this
   by_cases hj2:j < i
   ·rw[if_pos hj2] at this
    rw[if_pos (by omega)];omega
   ·rw[if_neg hj2] at this
    rw[if_neg (by omega)];omega
end Go.Fw.L07
