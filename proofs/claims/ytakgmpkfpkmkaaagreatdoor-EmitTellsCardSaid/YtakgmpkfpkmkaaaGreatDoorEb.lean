/- Chapter 12,plain: how often nodes stand,how deep. -/
import Derived.Test.YtakgmpkfpkmkaaaGreatDoorEa
import Derived.Test.YtakgmpkfpkmkaaaGreatDoorL07L12Mini
import Derived.Test.YtakgmpkfpkmkaaaGreatDoorLc
set_option linter.all false
namespace Go.Fw.L07
open Go Go.Fw
open Go.Fw.Sh renaming intro->Kg
open Go.Fw renaming Xdt->Ka,Xd2->Kf,Y9n->Ki,Xcp->Kt,Xlj->Kk,Xfl->Ku,Xco->Kl,Xeg->Km,Gx->Kn,Gw->Ko
open Go.Fw renaming Xbs->Ka, Xbw->Ka, Xby->Ka, Xbz->Ka
open Go.Fw renaming Xdt->Kw, Xbs->Kw, Xbw->Kw, Xby->Kw, Xbz->Kw, Xhh->Kw, Xd3->Kw
open Go.Fw.Sh renaming intro->Kf
open Int renaming natCast_nonneg->Kq
open List renaming getElem?_eq_some_iff->Kr
open And renaming intro->Kp
open Nat renaming reduceAdd->Qa,reduceSub->Qb,reduceMul->Qc,reduceLeDiff->Qd,reduceLT->Qe,reduceEqDiff->Qf
open Int renaming reduceToNat->Qg,reduceLT->Qh,reduceLE->Qi,reduceGT->Qj,reduceGE->Qk,reduceEq->Ql,reduceNe->Qm,reduceBEq->Qn,reduceBNe->Qo,reduceAdd->Qp,reduceSub->Qq,reduceNeg->Qr
open Go.Fw.V.one renaming injEq->Qs
open Go.Fw.V.agg renaming injEq->Qt
open Go.Fw.V.tup renaming injEq->Qu
open Go.Fw.A.d renaming injEq->Qv
open Go.Fw.D.bool renaming injEq->Qw
open Go.Fw.D.int renaming injEq->Qx
open Go.Fw.D.str renaming injEq->Qy
open Go.Fw.D.sl renaming injEq->Qz
open List.cons renaming injEq->Za
set_option maxRecDepth 4000
def Xfy (n:Nat) (ks:List Int):List Int:=(List.range n).map (fun i:Nat=>((ks.count (i:Int):Nat):Int))
theorem Xdo (n:Nat) (ks:List Int):(Xfy n ks).length=n:=by simp[Xfy]
theorem Xns {n i:Nat} (ks:List Int) (h:i < n):(Xfy n ks)[i]?=some ((ks.count (i:Int):Nat):Int):=by
 unfold Xfy
 rw[List.getElem?_map,List.getElem?_range h];rfl
theorem Ymv (n:Nat):Xfy n []=List.replicate n 0:=by
 apply List.ext_getElem?
 intro i
 by_cases h:i < n
 ·rw[Xns _ h,List.getElem?_replicate,if_pos h];rfl
 ·rw[List.getElem?_eq_none (by rw[Xdo];omega),List.getElem?_eq_none (by simp;omega)]
theorem Yxo {n j:Nat} (ks:List Int) (h:j < n):(Xfy n ks).set j (((ks.count (j:Int):Nat):Int)+1)=Xfy n (ks++[(j:Int)]):=by
 apply List.ext_getElem?
 intro i
 by_cases hi:i < n
 ·rw[Xns _ hi,List.getElem?_set]
  by_cases e:j=i
  ·subst e
   rw[if_pos rfl,if_pos (by rw[Xdo];exact h)]
   simp[List.count_append]
  ·rw[if_neg e,Xns _ hi]
   have:¬ (j:Int)=(i:Int):=by omega
   simp[List.count_append,List.count_cons,this]
 ·rw[List.getElem?_eq_none (by rw[List.length_set,Xdo];omega),List.getElem?_eq_none (by rw[Xdo];omega)]
def flat (g:Gr):List Int:=g.l.flatMap Nd.kids
def Xbi (g:Gr):List Int:=Xfy g.l.length (0::flat g)
def Xg6 (f:Nat->Int):Nat->Int
 | 0=>0
 | n+1=>Xg6 f n+f n
theorem flat_len:∀ (l:List Nd),((l.flatMap Nd.kids).length:Int)=Xg6 (fun i=>(((l[i]?).map fun x=>(x.kids.length:Int)).getD 0)) l.length
 | []=>rfl
 | x::l=>by
  have e:Xg6 (fun i=>((((x::l)[i]?).map fun x=>(x.kids.length:Int)).getD 0)) (l.length+1)=(x.kids.length:Int)+Xg6 (fun i=>(((l[i]?).map fun x=>(x.kids.length:Int)).getD 0)) l.length:=by
   generalize l.length=n
   induction n with
   | zero=>simp[Xg6]
   | succ n ih =>
    have:Xg6 (fun i=>((((x::l)[i]?).map fun x=>(x.kids.length:Int)).getD 0)) (n+1+1)=Xg6 (fun i=>((((x::l)[i]?).map fun x=>(x.kids.length:Int)).getD 0)) (n+1)+((((x::l)[n+1]?).map fun x=>(x.kids.length:Int)).getD 0):=rfl
    rw[this,ih]
    simp only[Xg6,List.getElem?_cons_succ]
    omega
  rw[List.length_cons,e,List.flatMap_cons,List.length_append,Int.natCast_add,flat_len l]
def Xmn (x:Nd) (n:Int):Bool:=decide (x.kids≠[]) && decide (n > 1)
def Jds:List Nd->List Int->Nat->List Int
 | x::l,n::m,k=>if Xmn x n then ((k+1:Nat):Int)::Jds l m (k+1) else 0::Jds l m k
 | _,_,_=>[]
def Xc2 (g:Gr) (us:List Int):Nat->List Int × Nat
 | 0=>([],0)
 | i+1=>match g.l[i]?,us[i]? with
  | some x,some n=>if Xmn x n then ((Xc2 g us i).1++[(((Xc2 g us i).2+1:Nat):Int)],(Xc2 g us i).2+1) else ((Xc2 g us i).1++[0],(Xc2 g us i).2)
  | _,_=>Xc2 g us i
def Xel (g:Gr):List Int:=(Xc2 g (Xbi g) g.l.length).1
theorem Xif {g:Gr} {us:List Int} (h:us.length=g.l.length):∀ i,i<=g.l.length->(Xc2 g us i).1.length=i
 | 0,_=>rfl
 | i+1,hi=>by
  obtain⟨x,hx⟩:=Xaf (l:=g.l) (i:=i) (by omega)
  obtain⟨n,hn⟩:=Xaf (l:=us) (i:=i) (by omega)
  simp only[Xc2,hx,hn]
  split <;> simp[Xif h i (by omega)]
theorem X1c {g:Gr} {us:List Int} (h:us.length=g.l.length) {i:Nat}:∀ j,i<=j->j<=g.l.length->∀ k,k < i->(Xc2 g us j).1[k]?=(Xc2 g us i).1[k]?
 | 0,hij,_,k,hk=>by omega
 | j+1,hij,hj,k,hk=>by
  by_cases e:i=j+1
  ·rw[e]
  ·rw[<- X1c h j (by omega) (by omega) k hk]
   have hl:=Xif h j (by omega)
   obtain⟨x,hx⟩:=Xaf (l:=g.l) (i:=j) (by omega)
   obtain⟨n,hn⟩:=Xaf (l:=us) (i:=j) (by omega)
   simp only[Xc2,hx,hn]
   split <;> rw[List.getElem?_append_left (by omega)]
theorem Wwa {g:Gr} {us:List Int} (h:us.length=g.l.length) {i:Nat} {x:Nd} {n:Int} (hx:g.l[i]?=some x) (hn:us[i]?=some n) :
  (Xc2 g us g.l.length).1[i]?=some (if Xmn x n then (((Xc2 g us i).2+1:Nat):Int) else 0):=by
 have hi:=(Kr.1 hx).1
 rw[X1c h (i:=i+1) g.l.length (by omega) (Nat.le_refl _) i (by omega)]
 have hl:=Xif h i (by omega)
 simp only[Xc2,hx,hn]
 split <;> rw[List.getElem?_append_right (by omega),hl,Nat.sub_self] <;> rfl
inductive DepW (k:Int->List Int):Int->List Int->List Int->List Int->Prop
 | nil (d:Int) (a:List Int):DepW k d [] a a
 | skip {d:Int} {i:Nat} {r a b:List Int} {x:Int}:a[i]?=some x->0 < x->DepW k d r a b->DepW k d ((i:Int)::r) a b
 | step {d:Int} {i:Nat} {r a b c:List Int} {x:Int}:a[i]?=some x->¬ 0 < x->DepW k (d+1) (k i) (a.set i d) b->DepW k d r b c->DepW k d ((i:Int)::r) a c
theorem DepW.det {k:Int->List Int} {d:Int} {t a b c:List Int} (h:DepW k d t a b) (h':DepW k d t a c):b=c:=by
 induction h generalizing c with
 | nil=>cases h';rfl
 | skip hx h0 _ ih =>
  cases h' with
  | skip _ _ h2=>exact ih h2
  | step hy h1 _ _=>rw[hx] at hy;cases hy;exact absurd h0 h1
 | step hx h0 _ _ ih1 ih2 =>
  cases h' with
  | skip hy h1 _=>rw[hx] at hy;cases hy;exact absurd h1 h0
  | step hy h1 h2 h3 =>
   have:=ih1 h2
   subst this
   exact ih2 h3
theorem DepW.len {k:Int->List Int} {d:Int} {t a b:List Int} (h:DepW k d t a b):b.length=a.length:=by
 induction h with
 | nil=>rfl
 | skip _ _ _ ih=>exact ih
 | step _ _ _ _ ih1 ih2=>rw[ih2,ih1,List.length_set]
open Classical in
noncomputable def Xgi (k:Int->List Int) (d:Int) (t a:List Int):List Int:=if h:∃ b,DepW k d t a b then Classical.choose h else a
theorem DepW.eq {k:Int->List Int} {d:Int} {t a b:List Int} (h:DepW k d t a b):Xgi k d t a=b:=by
 unfold Xgi
 rw[dif_pos ⟨b,h⟩]
 exact (Classical.choose_spec (⟨b,h⟩:∃ b,DepW k d t a b)).det h
def X1d (a:List Int):Nat:=a.countP fun x=>decide (¬ 0 < x)
theorem Xg1 {a:List Int} {i:Nat} {x d:Int} (h:a[i]?=some x) (h0:¬ 0 < x) (hd:0 < d):X1d (a.set i d)+1=X1d a:=by
 induction a generalizing i with
 | nil=>simp at h
 | cons y a ih =>
  cases i with
  | zero =>
   simp at h;subst h
   simp[X1d,List.countP_cons,hd,h0]
  | succ i =>
   have:=ih (i:=i) (by simpa using h)
   simp only[X1d,List.set_cons_succ,List.countP_cons] at this ⊢
   omega
theorem Xru {k:Int->List Int} {n:Nat} (hk:∀ i,∀ j∈k i,0<=j/\j < n):∀ (z:Nat) (d:Int) (t a:List Int),X1d a<=z->0 < d->a.length=n->(∀ i∈t,0<=i/\i < n)->∃ b,DepW k d t a b/\X1d b<=X1d a:=by
 intro z
 induction z with
 | zero =>
  intro d t
  induction t with
  | nil=>intro a _ _ _ _;exact⟨a,.nil d a,Nat.le_refl _⟩
  | cons i t ih =>
   intro a hz hd hl ht
   have hi:=ht i (by simp)
   obtain⟨m,rfl⟩:=Int.eq_ofNat_of_zero_le hi.1
   obtain⟨x,hx⟩:=Xaf (l:=a) (i:=m) (by omega)
   by_cases h0:0 < x
   ·obtain⟨b,hb,hzb⟩:=ih a hz hd hl fun j hj=>ht j (by simp[hj])
    exact⟨b,.skip hx h0 hb,hzb⟩
   ·have:=Xg1 hx h0 hd
    omega
 | succ z ihz =>
  intro d t
  induction t with
  | nil=>intro a _ _ _ _;exact⟨a,.nil d a,Nat.le_refl _⟩
  | cons i t ih =>
   intro a hz hd hl ht
   have hi:=ht i (by simp)
   obtain⟨m,rfl⟩:=Int.eq_ofNat_of_zero_le hi.1
   obtain⟨x,hx⟩:=Xaf (l:=a) (i:=m) (by omega)
   by_cases h0:0 < x
   ·obtain⟨b,hb,hzb⟩:=ih a hz hd hl fun j hj=>ht j (by simp[hj])
    exact⟨b,.skip hx h0 hb,hzb⟩
   ·have hzs:=Xg1 hx h0 hd
    obtain⟨b,hb,hzb⟩:=ihz (d+1) (k m) (a.set m d) (by omega) (by omega) (by simp[hl]) (hk m)
    obtain⟨c,hc,hzc⟩:=ih b (by omega) hd (by rw[hb.len];simp[hl]) fun j hj=>ht j (by simp[hj])
    exact⟨c,.step hx h0 hb hc,by omega⟩
abbrev Xd8 (m:Nat):List Int:=(List.range m).map (fun i:Nat=>(i:Int))
theorem Xi2 (m:Nat):(Xd8 m).length=m:=by rw[List.length_map,List.length_range]
theorem Xig {m i:Nat} (h:i < m):(Xd8 m)[i]?=some (i:Int):=by rw[List.getElem?_map,List.getElem?_range h];rfl
theorem Xg2 {m:Nat} {i:Int}:i∈Xd8 m↔0<=i/\i < m:=by
 simp only[List.mem_map,List.mem_range]
 constructor
 ·rintro⟨j,hj,rfl⟩;omega
 ·rintro⟨h1,h2⟩;exact⟨i.toNat,by omega,by omega⟩
theorem Xl9 (m:Nat):Xd8 (m+1)=Xd8 m++[(m:Int)]:=by
 show (List.range (m+1)).map _=(List.range m).map _++_
 rw[List.range_succ,List.map_append];rfl
theorem DepW.sim {k:Int->List Int} {n:Nat} {d:Int} {t a b:List Int} (h:DepW k d t a b):∀ {m:Nat} {r:List Int},0 < d->a.length=n->(∀ (i:Nat) (x:Int),a[i]?=some x->(0 < x↔i < m))->Walks k (t++r) (Xd8 m) (Xd8 n) ->
  ∃ m',m<=m'/\(∀ (i:Nat) (x:Int),b[i]?=some x->(0 < x↔i < m'))/\Walks k r (Xd8 m') (Xd8 n)/\(∀ i,i < m->b[i]?=a[i]?) /\
   ∀ i:Nat,m<=i->i < m'->((i:Int)∈t/\b[i]?=some d)\/∃ (j:Nat) (y:Int),m<=j/\j < i/\(i:Int)∈k j/\b[j]?=some y/\b[i]?=some (y+1):=by
 induction h with
 | nil d a =>
  intro m r _ _ hv hw
  exact⟨m,Nat.le_refl _,hv,hw,fun _ _=>rfl,fun i h1 h2=>by omega⟩
 | @skip d i t a b x hx h0 _ ih =>
  intro m r hd hl hv hw
  have him:i < m:=(hv i x hx).1 h0
  have hw':=hw.skip_inv (Xg2.2 ⟨by omega,by omega⟩)
  obtain⟨m',h1,h2,h3,h4,h5⟩:=ih hd hl hv hw'
  refine⟨m',h1,h2,h3,h4,fun j hj hj'=>?_⟩
  rcases h5 j hj hj' with ⟨h6,h7⟩|h6
  ·exact .inl ⟨List.mem_cons_of_mem _ h6,h7⟩
  ·exact .inr h6
 | @step d i t a b c x hx h0 hb hc ih1 ih2 =>
  intro m r hd hl hv hw
  have hlt:=(Kr.1 hx).1
  have him:¬ i < m:=fun e=>h0 ((hv i x hx).2 e)
  have hw':=hw.step_inv (fun e=>by have:=Xg2.1 e;omega)
  obtain⟨q,hq⟩:=hw'.pre
  have hie:i=m/\m < n:=by
   have h1:(Xd8 n)[m]?=some (i:Int):=by
    rw[hq,List.append_assoc,List.getElem?_append_right (by simp)]
    simp
   have h2:=(Kr.1 h1).1
   rw[Xi2] at h2
   rw[Xig h2] at h1
   simp at h1
   omega
  obtain⟨rfl,hmn⟩:=hie
  rw[<- Xl9] at hw'
  have hset:(a.set i d)[i]?=some d:=by rw[List.getElem?_set];simp[hlt]
  have hv1:∀ (j:Nat) (y:Int),(a.set i d)[j]?=some y->(0 < y↔j < i+1):=by
   intro j y hy
   rw[List.getElem?_set] at hy
   split at hy
   ·rename_i e;subst e
    simp[hlt] at hy;subst hy
    exact⟨fun _=>by omega,fun _=>hd⟩
   ·rename_i e
    rw[hv j y hy];omega
  obtain⟨m1,g1,g2,g3,g4,g5⟩:=ih1 (m:=i+1) (r:=t++r) (by omega) (by simp[hl]) hv1 hw'
  obtain⟨m2,f1,f2,f3,f4,f5⟩:=ih2 (m:=m1) (r:=r) hd (by rw[hb.len];simp[hl]) g2 g3
  have hci:c[i]?=some d:=by rw[f4 i (by omega),g4 i (by omega),hset]
  refine⟨m2,by omega,f2,f3,fun j hj=>?_,fun j hj hj'=>?_⟩
  ·rw[f4 j (by omega),g4 j (by omega),List.getElem?_set,if_neg (by omega)]
  ·by_cases e:j=i
   ·subst e;exact .inl ⟨by simp,hci⟩
   ·by_cases e2:j < m1
    ·rcases g5 j (by omega) e2 with ⟨h6,h7⟩|⟨p,y,h6,h7,h8,h9,h10⟩
     ·exact .inr ⟨i,d,by omega,by omega,h6,hci,by rw[f4 j e2,h7]⟩
     ·exact .inr ⟨p,y,by omega,h7,h8,by rw[f4 p (by omega),h9],by rw[f4 j e2,h10]⟩
    ·rcases f5 j (by omega) hj' with ⟨h6,h7⟩|⟨p,y,h6,h7,h8,h9,h10⟩
     ·exact .inl ⟨by simp[h6],h7⟩
     ·exact .inr ⟨p,y,by omega,h7,h8,h9,h10⟩
structure Tdy (g:Gr):Prop where
 good:Good g
 root:g.root=0
 walk:Xbe g=Xd8 g.l.length
 kids:∀ x∈g.l,Xan x=x.kids
 self:g=Xa0 g
theorem Good.tdy {q:Gr} (h:Good q):Tdy (Xa0 q) where
 good:=h.tidy
 root:=rfl
 walk:=by rw[Xrl h,Xd6]
 kids:=by
  intro x hx
  simp only[Xa0,List.mem_map] at hx
  obtain⟨i,hi,rfl⟩:=hx
  exact (Xib (h.node (h.wIn i hi)) _).1
 self:=(Yj5 h).symm
theorem Xkc {l:List Nd} {i:Nat} {x:Nd} (h:l[i]?=some x):Xbr l i=x:=by
 have hi:=(Kr.1 h).1
 unfold Xbr
 rw[if_pos (by omega),Int.toNat_natCast,h];rfl
theorem Tdy.kd {g:Gr} (h:Tdy g) {i:Nat} {x:Nd} (hx:g.l[i]?=some x):kd g i=x.kids:=by
 rw[L07.kd,Xkc hx]
 exact h.kids x (List.mem_of_getElem? hx)
theorem Tdy.flatIn {g:Gr} (h:Tdy g):∀ k∈flat g,0<=k/\k < g.l.length:=by
 intro k hk
 obtain⟨x,hx,hk⟩:=List.mem_flatMap.1 hk
 obtain⟨i,hi⟩:=List.mem_iff_getElem?.1 hx
 rw[<- h.kd hi] at hk
 exact h.good.kid i k hk
theorem Tdy.pos {g:Gr} (h:Tdy g):0 < g.l.length:=by
 have:=h.good.root;omega
theorem Tdy.from {g:Gr} (h:Tdy g) {i:Nat} (hi:i < g.l.length) (h0:0 < i):(i:Int)∈flat g:=by
 have hw:(Xbe g)[i]?=some (i:Int):=by rw[h.walk];exact Xig hi
 obtain⟨m,p,hm,hp,hk⟩:=h.good.from hw h0
 rw[h.walk,Xig (by omega)] at hp
 cases hp
 obtain⟨x,hx⟩:=Xaf (l:=g.l) (i:=m) (by omega)
 rw[h.kd hx] at hk
 exact List.mem_flatMap.2 ⟨x,List.mem_of_getElem? hx,hk⟩
noncomputable def Xfq (g:Gr):List Int:=Xgi (kd g) 1 [0] (List.replicate g.l.length 0)
theorem Tdy.dep {g:Gr} (h:Tdy g):DepW (L07.kd g) 1 [0] (List.replicate g.l.length 0) (Xfq g):=by
 obtain⟨b,hb,_⟩:=Xru (k:=L07.kd g) (n:=g.l.length) h.good.kid _ 1 [0] (List.replicate g.l.length 0) (Nat.le_refl _) (by omega) (by simp) (by simp;exact h.pos)
 have:=hb.eq
 unfold Xfq
 rw[this]
 exact hb
theorem Tdy.dep_len {g:Gr} (h:Tdy g):(Xfq g).length=g.l.length:=by rw[h.dep.len];simp
theorem Tdy.dep_ok {g:Gr} (h:Tdy g):(Xfq g)[0]?=some 1/\∀ i:Nat,0 < i->i < g.l.length->∃ (j:Nat) (y:Int),j < i/\(i:Int)∈L07.kd g j/\(Xfq g)[j]?=some y/\(Xfq g)[i]?=some (y+1):=by
 have hw:=h.good.walk
 rw[h.root,h.walk] at hw
 obtain⟨m',h1,h2,h3,h4,h5⟩:=h.dep.sim (n:=g.l.length) (m:=0) (r:=[]) (by omega) (by simp) (fun i x hx=>by
  have:x=0:=by
   rw[List.getElem?_replicate] at hx
   split at hx
   ·cases hx;rfl
   ·cases hx
  subst this;simp) (by simpa [Xd8] using hw)
 have hm:m'=g.l.length:=by
  have:=h3.nil_inv
  have e:=congrArg List.length this
  simpa using e.symm
 subst hm
 refine⟨?_,fun i h0 hi=>?_⟩
 ·rcases h5 0 (Nat.le_refl _) h.pos with ⟨_,h6⟩|⟨j,y,_,h6,_⟩
  ·exact h6
  ·omega
 ·rcases h5 i (Nat.zero_le _) hi with ⟨h6,_⟩|⟨j,y,_,h6,h7,h8,h9⟩
  ·simp at h6;omega
  ·exact⟨j,y,h6,h7,h8,h9⟩
open Go.Proofs.Tryz renaming prog->QP
variable {gp:Heap}
abbrev ctC (g:Gr):Ch:=.cells [.d (.int .i64 g.root),.d (.sl (nds g.l)),.own 0 0]
theorem Yxp (n:Nat):List.replicate n [D.int .i64 0]=Xad (Xfy n []):=by rw[Ymv];simp[Xad]
theorem Xtw (h:Env gp) {g:Gr} (hg:Tdy g):Tri QP gp 78 [g.v] [] fun r post=>r=.tup [.one (.ptr 1 0),vi 0]/\post=[.row 1 0 (Xad (Xfy g.l.length [])),ctC g]:=by
 refine Wvl ?_
 simp only[go_sem]
 have c1:=Xpe h g hg.good.s
 rw[show decide (chk g=none/\g=Xa0 g)=true from decide_eq_true ⟨hg.good.c,hg.self⟩] at c1
 have hl:=hg.good.len
 have hlb:(g.l.length:Int)*8<=140737488355328:=by omega
 have hlm:(g.l.length:Int) < (lenMax:Int):=by unfold lenMax;omega
 repeat' first|refine Kn rfl ?_|(refine Kw ?_;simp only[go_sem])|refine Kf ?_|refine⟨_,c1,Kg ?_⟩|refine⟨_,⟨c1,rfl⟩,Kg ?_⟩|refine⟨Kq _,hlb,hlm,?_⟩|apply Kp<;>intro _
 rw[Yxp]
theorem Yxq (sz v:Nat) (xs:List (List D)) (cs:List A):Tri QP gp 119 [.one (.ptr 1 0)] [.row sz v xs,.cells cs] fun r post =>
  r=.one (.clo (.func 149) [.ptr 2 0])/\post=[.row sz v xs,.cells cs,.cells [.ptr 1 0]]:=by
 refine Yxg ?_
 simp only[go_sem]
 repeat' first|refine Kn rfl ?_|(refine Kw ?_;simp only[go_sem])|refine Kf ?_|apply Kp<;>intro _
theorem Xrv:Does QP gp 118 [] (.agg [.d (.bool false),.d (.bool true),.d (.bool true)]):=by
 refine Wv0 ?_
 simp only[go_sem]
 repeat' first|refine Kn rfl ?_|(refine Kw ?_;simp only[go_sem])|refine Kf ?_|apply Kp<;>intro _
theorem Ymw {n j:Nat} (ks:List Int) (h:j < n):(Xad (Xfy n ks))[j]?=some [.int .i64 ((ks.count (j:Int):Nat):Int)]:=Xab (Xns ks h)
theorem X1e {n j:Nat} (ks:List Int) (h:j < n):(Xad (Xfy n ks)).set j [.int .i64 (((ks.count (j:Int):Nat):Int)+1)]=Xad (Xfy n (ks++[(j:Int)])):=by
 rw[Xj9,Yxo ks h]
theorem Wwb:inK .i64 1:=by simp[inK,IntKind.min,IntKind.max,IntKind.signed,IntKind.bits]
theorem Ymx {ks:List Int} {j:Int} (h:ks.length<=100000):inK .i64 (((ks.count j:Nat):Int)+1):=by
 have:=List.count_le_length (a:=j) (l:=ks)
 exact Xai (n:=1000000) (by omega) (by unfold lenMax;omega)
theorem Xi3 {l:List Nd} (h:∀ x∈l,x.kids.length<=12):(l.flatMap Nd.kids).length<=12*l.length:=by
 induction l with
 | nil=>simp
 | cons x l ih =>
  have h1:=h x (by simp)
  have h2:=ih fun y hy=>h y (by simp[hy])
  simp only[List.flatMap_cons,List.length_append,List.length_cons]
  omega
theorem Y8t {g:Gr} (hg:Tdy g):Tri QP gp 80 [.one (.ptr 1 0)] [.row 1 0 (Xad (Xfy g.l.length [])),ctC g] fun r post =>
  r=.one (.own 0 0)/\post=[.row 1 0 (Xad (Xbi g)),ctC g]:=by
 have hpos:=hg.pos
 have hlen:=hg.good.len
 have hfi:=hg.flatIn
 have hsm:=hg.good.s
 refine Wvr ?_
 simp only[go_sem]
 have hl0:0 < (Xfy g.l.length []).length:=by rw[Xdo];exact hpos
 have hg0:(Xad (Xfy g.l.length []))[0]?=some [.int .i64 0]:=by rw[Ymw [] hpos];rfl
 have hs0:(Xad (Xfy g.l.length [])).set 0 [.int .i64 1]=Xad (Xfy g.l.length [0]):=by
  have:=X1e (n:=g.l.length) (j:=0) [] hpos
  simpa using this
 repeat' first|refine Kn rfl ?_|(refine Kw ?_;simp only[hs0,go_sem])|refine Kf ?_|refine⟨hl0,?_⟩|refine⟨_,⟨hg0,Nat.le_refl _⟩,Kg ?_⟩|refine⟨Wwb,?_⟩|apply Kp<;>intro _
 refine Or.inr (Or.inr ⟨[0,1],.one (.clo (.func 149) [.ptr 2 0]),[.row 1 0 (Xad (Xfy g.l.length [0])),ctC g,.cells [.ptr 1 0]],(by simp only[Xay,Xcl,rnV,rnA,Xcx,rn0,Xcw,Xbo,Xcm,rnC,Xak,List.isEmpty_nil,reduceCtorEq,↓reduceIte,Qa,Qb,Qc,Qd,Qe,Qf,Qg,Qh,Qi,Qj,Qk,Ql,Qm,Qn,Qo,Qp,Qq,Qr];simp only[go_sem];exact⟨Wv3,Yxq _ _ _ _⟩),Kg ?_⟩)
 simp only[go_sem]
 repeat' first|refine Kn rfl ?_|(refine Kw ?_;simp only[go_sem])|refine Kf ?_|apply Kp<;>intro _
 refine Wxo (f2:=149) (caps:=[.one (.ptr 3 0)]) (fun pd own'=>pd=none/\∃ rest,own'=.row 1 0 (Xad (Xbi g))::ctC g::.cells [.ptr 1 0]::rest) rfl ?_ Wv9 ?_ ?_ ?_
 ·intro y;simp only[go_sem]
 ·rintro b rc hps ⟨hs,hta,htb⟩
  refine Yxn ?_
  simp only[go_sem]
  repeat' first|refine Kn rfl ?_|(refine Kw ?_;simp only[go_sem])|refine Kf ?_|apply Kp<;>intro _
  rw[show Ch.row 1 0 (Xad (Xfy g.l.length [0]))=Ch.row 1 0 (Xad (Xfy g.l.length (0::(g.l.take 0).flatMap Nd.kids))) from rfl]
  refine Kt (fr 33 [(0,.one (.d (.raw (.func (.yield b) #[] #[])))),(1,.one (.ptr 3 0)),(11,.one (.d (.sl (nds g.l)))),(12,vi g.l.length),(13,vi (0:Nat))]) ?_
  refine Km (fun mz sz=>∃ i:Nat,i<=g.l.length/\mz=g.l.length - i/\(0<=i)/\sz=⟨fr 33 [(0,.one (.d (.raw (.func (.yield b) #[] #[])))),(1,.one (.ptr 3 0)),(11,.one (.d (.sl (nds g.l)))),(12,vi g.l.length),(13,vi i)],[.row 1 0 (Xad (Xfy g.l.length (0::(g.l.take i).flatMap Nd.kids))),ctC g,.cells [.ptr 1 0],.cells [.ptr 1 0],.dead,.lp b _ rc .ready none]⟩) (g.l.length) ⟨0,Nat.zero_le _,(Nat.sub_zero _).symm,?_,rfl⟩ ?_
  ·exact Nat.zero_le _
  rintro _ _ ⟨i,hi,rfl,-,rfl⟩
  simp only[go_sem]
  by_cases hil:i < g.l.length
  ·obtain⟨x,hx⟩:=Xaf hil
   have hxm:=List.mem_of_getElem? hx
   have hxk:=(hsm x hxm).2
   have hdl:((g.l.take i).flatMap Nd.kids).length<=12*(g.l.take i).length:=Xi3 fun y hy=>(hsm y (List.mem_of_mem_take hy)).2
   have htl:(g.l.take i).length<=200:=by simp;omega
   have hnext:(g.l.take (i+1)).flatMap Nd.kids=(g.l.take i).flatMap Nd.kids++x.kids:=by rw[List.take_succ,hx];simp
   generalize (g.l.take i).flatMap Nd.kids=done at *
   repeat' first|refine Kn rfl ?_|(refine Kw ?_;simp only[go_sem])|refine Kf ?_|refine⟨_,⟨Kq _,(Xab hx),rfl⟩,Kg ?_⟩|(apply Kp<;>intro _<;>try (exfalso;omega))
   rw[show Ch.row 1 0 (Xad (Xfy g.l.length (0::done)))=Ch.row 1 0 (Xad (Xfy g.l.length (0::(done++x.kids.take 0)))) from by simp]
   refine Kt (fr 33 [(0,.one (.d (.raw (.func (.yield b) #[] #[])))),(1,.one (.ptr 3 0)),(3,vi i),(4,.one (.ptr 6 0)),(11,.one (.d (.sl (nds g.l)))),(12,vi g.l.length),(13,vi i),(19,.one (.d (.sl (Xad x.kids)))),(20,vi x.kids.length),(21,vi (0:Nat))]) ?_
   refine Km (fun mz sz=>∃ j:Nat,j<=x.kids.length/\mz=x.kids.length - j/\(0<=j)/\sz=⟨fr 33 [(0,.one (.d (.raw (.func (.yield b) #[] #[])))),(1,.one (.ptr 3 0)),(3,vi i),(4,.one (.ptr 6 0)),(11,.one (.d (.sl (nds g.l)))),(12,vi g.l.length),(13,vi i),(19,.one (.d (.sl (Xad x.kids)))),(20,vi x.kids.length),(21,vi j)],[.row 1 0 (Xad (Xfy g.l.length (0::(done++x.kids.take j)))),ctC g,.cells [.ptr 1 0],.cells [.ptr 1 0],.dead,.lp b _ rc .ready none,.cells x.as]⟩) (x.kids.length) ⟨0,Nat.zero_le _,(Nat.sub_zero _).symm,?_,rfl⟩ ?_
   ·exact Nat.zero_le _
   rintro _ _ ⟨j,hj,rfl,-,rfl⟩
   simp only[go_sem]
   by_cases hkl:j < x.kids.length
   ·obtain⟨y,hy⟩:=Xaf hkl
    have hyr:=hfi y (List.mem_flatMap.2 ⟨x,hxm,List.mem_of_getElem? hy⟩)
    obtain⟨m,rfl⟩:=Int.eq_ofNat_of_zero_le hyr.1
    have hmn:m < g.l.length:=by omega
    have hml:m < (Xfy g.l.length (0::(done++x.kids.take j))).length:=by rw[Xdo];exact hmn
    have hgm:=Ymw (0::(done++x.kids.take j)) hmn
    have hsm2:(Xad (Xfy g.l.length (0::(done++x.kids.take j)))).set m [.int .i64 ((((0::(done++x.kids.take j)).count (m:Int):Nat):Int)+1)]=Xad (Xfy g.l.length (0::(done++x.kids.take (j+1)))):=by
     rw[X1e _ hmn,<- Xbx hy];simp
    have hkc:=Ymx (ks:=0::(done++x.kids.take j)) (j:=(m:Int)) (by simp;omega)
    repeat' first|refine Kn rfl ?_|(refine Kw ?_;simp only[go_sem])|refine Kf ?_|refine⟨_,⟨Kq _,(Xab hy),rfl⟩,Kg ?_⟩|(apply Kp<;>intro _<;>try (exfalso;omega))
    refine⟨[.row 1 0 (Xad (Xfy g.l.length (0::(done++x.kids.take (j+1))))),ctC g,.cells [.ptr 1 0],.cells [.ptr 1 0],.dead,.lp b _ rc .ready none,.cells x.as,.cells [.d (.int .i64 i),.d (.int .i64 m)]],true,by simp,⟨5,_,rc,hs,_,_,[.row 1 0 (Xad (Xfy g.l.length (0::(done++x.kids.take (j+1))))),ctC g,.cells [.ptr 1 0],.cells [.ptr 1 0],.dead,.dead,.cells x.as,.cells [.d (.int .i64 i),.d (.int .i64 m)]],none,rfl,by rw[<- Array.length_toList,hps];rfl,hta,htb,?_,rfl,rfl⟩,Kg ?_⟩
    ·rw[hps]
     simp only[go_sem]
     repeat' first|refine Kn rfl ?_|(refine Kw ?_;simp only[go_sem])|refine Kf ?_|apply Kp<;>intro _
     refine Xlh ⟨rfl,?_⟩
     repeat' first|refine Kn rfl ?_|(refine Kw ?_;simp only[go_sem])|refine Kf ?_|refine⟨Kq _,hml,?_⟩|refine⟨_,⟨hgm,Nat.le_refl _⟩,Kg ?_⟩|refine⟨hkc,?_⟩|apply Kp<;>intro _
     exact Xlh ⟨⟨rfl,rfl⟩,by rw[<- hsm2];rfl⟩
    ·simp only[go_sem]
     repeat' first|refine Kn rfl ?_|(refine Kw ?_;simp only[go_sem])|refine Kf ?_|apply Kp<;>intro _
     refine⟨Xai hkl (by unfold lenMax;omega),?_⟩
     refine Kt (fr 33 [(0,.one (.d (.raw (.func (.yield b) #[] #[])))),(1,.one (.ptr 3 0)),(3,vi i),(4,.one (.ptr 6 0)),(11,.one (.d (.sl (nds g.l)))),(12,vi g.l.length),(13,vi i),(19,.one (.d (.sl (Xad x.kids)))),(20,vi x.kids.length),(21,vi (j+1))]) ?_
     refine Ku 7 ?_
     simp only[go_sem]
     refine Kl ⟨x.kids.length - (j+1),by omega,j+1,by omega,rfl,?_,rfl⟩
     exact Nat.zero_le _
   ·obtain rfl:x.kids.length=j:=by omega
    rw[List.take_of_length_le (Nat.le_refl x.kids.length)]
    repeat' first|refine Kn rfl ?_|(refine Kw ?_;simp only[go_sem])|refine Kf ?_|(apply Kp<;>intro _<;>try (exfalso;omega))
    refine⟨Xai hil (by unfold lenMax;omega),?_⟩
    refine Kt (fr 33 [(0,.one (.d (.raw (.func (.yield b) #[] #[])))),(1,.one (.ptr 3 0)),(11,.one (.d (.sl (nds g.l)))),(12,vi g.l.length),(13,vi (i+1))]) ?_
    refine Ku 6 ?_
    simp only[go_sem]
    refine Kl ⟨g.l.length - (i+1),by omega,i+1,by omega,rfl,?_,by rw[hnext];rfl⟩
    exact Nat.zero_le _
  ·obtain rfl:g.l.length=i:=by omega
   rw[List.take_of_length_le (Nat.le_refl g.l.length)]
   repeat' first|refine Kn rfl ?_|(refine Kw ?_;simp only[go_sem])|refine Kf ?_|(apply Kp<;>intro _<;>try (exfalso;omega))
   exact⟨.ready,none,rfl,by simp,rfl,_,rfl,rfl⟩
 ·rintro own' ⟨_,rest,rfl⟩
  simp only[go_sem]
  repeat refine Ko rfl ?_
  refine Ka ?_
  simp only[go_sem]
  refine Kt (fr 29 [(2,.one (.own 0 0))]) ?_
  refine Ku 2 ?_
  simp only[go_sem]
  refine Ki rfl ?_
  simp only[or_self,Qs,Qt,Qu,Qv,Qw,Qx,Qy,Qz,Za,go_sem]
 ·rintro _ _ ⟨h,_⟩;cases h
theorem Jdt (h:Env gp) {g:Gr} (hg:Tdy g):Does QP gp 81 [g.v] (.tup [.one (.d (.sl (Xad (Xbi g)))),vi 0]):=by
 refine Jdn ?_
 simp only[go_sem]
 repeat' first|refine Kn rfl ?_|(refine Kw ?_;simp only[go_sem])|refine Kf ?_|apply Kp<;>intro _
 refine Xha 8 ?_
 simp only[go_sem]
 repeat' first|refine Kn rfl ?_|(refine Kw ?_;simp only[X01,go_sem])|refine Kf ?_|apply Kp<;>intro _
 refine Or.inr ⟨[],.tup [.one (.ptr 1 0),vi 0],[.row 1 0 (Xad (Xfy g.l.length [])),ctC g],(by simp only[Xay,Xcl,rnV,rnA,Xcx,rn0,Xcw,Xbo,Xcm,rnC,Xak,List.isEmpty_nil,reduceCtorEq,↓reduceIte,Qa,Qb,Qc,Qd,Qe,Qf,Qg,Qh,Qi,Qj,Qk,Ql,Qm,Qn,Qo,Qp,Qq,Qr];simp only[go_sem];exact⟨Yl9,Xtw h hg⟩),Kg ?_⟩
 simp only[go_sem]
 repeat' first|refine Kn rfl ?_|(refine Kw ?_;simp only[X01,go_sem])|refine Kf ?_|apply Kp<;>intro _
 refine Or.inr (Or.inr ⟨[0,1],.one (.own 0 0),[.row 1 0 (Xad (Xbi g)),ctC g],(by simp only[Xay,Xcl,rnV,rnA,Xcx,rn0,Xcw,Xbo,Xcm,rnC,Xak,List.isEmpty_nil,reduceCtorEq,↓reduceIte,Qa,Qb,Qc,Qd,Qe,Qf,Qg,Qh,Qi,Qj,Qk,Ql,Qm,Qn,Qo,Qp,Qq,Qr];simp only[go_sem];exact⟨Y8o,Y8t hg⟩),Kg ?_⟩)
 simp only[go_sem]
 refine Xap 0 ?_
 simp only[go_sem]
 repeat' first|refine Kn rfl ?_|(refine Kw ?_;simp only[X01,go_sem])|refine Kf ?_|apply Kp<;>intro _
theorem X2w {g:Gr} {i:Nat} {x:Nd} (hx:g.l[i]?=some x) (hr:Xa6 Xas x g.l.length=true) (n:Int) (v:Nat) (xs:List (List D)):Tri QP gp 79 [.one (.ptr 1 0),vi i,vi n] [.row 1 v xs,ctC g] fun r post =>
  r=vb (Xmn x n)/\post=[.row 1 v xs,ctC g,.cells x.as]:=by
 refine Wvp ?_
 simp only[go_sem]
 repeat' first|refine Kn rfl ?_|(refine Kw ?_;simp only[go_sem])|refine Kf ?_|refine⟨_,Xrv,Kg ?_⟩|refine⟨_,⟨Xrv,rfl⟩,Kg ?_⟩|refine⟨_,⟨Kq _,(Xab hx),rfl⟩,Kg ?_⟩|apply Kp<;>intro _
 rcases Xiy hr with hk|hk|hk
 ·have hp:Xmn x n=false:=by simp[Xmn,(Xlu hr hk).2]
  rw[hp]
  refine⟨0,_,⟨hk,by decide,rfl⟩,Kg ?_⟩
  repeat' first|refine Kn rfl ?_|(refine Kw ?_;simp only[go_sem])|refine Kf ?_|apply Kp<;>intro _
 ·have hp:Xmn x n=(decide (x.kids≠[]) && decide (n > 1)):=rfl
  refine⟨1,_,⟨hk,by decide,rfl⟩,Kg ?_⟩
  repeat' first|refine Kn rfl ?_|(refine Kw ?_;simp only[go_sem])|refine Kf ?_|apply Kp<;>intro _
  all_goals (rw[hp];rename_i h;cases hkk:x.kids <;> simp_all)
  all_goals omega
 ·have hp:Xmn x n=(decide (x.kids≠[]) && decide (n > 1)):=rfl
  refine⟨2,_,⟨hk,by decide,rfl⟩,Kg ?_⟩
  repeat' first|refine Kn rfl ?_|(refine Kw ?_;simp only[go_sem])|refine Kf ?_|apply Kp<;>intro _
  all_goals (rw[hp];rename_i h;cases hkk:x.kids <;> simp_all)
  all_goals omega
abbrev mp (ms:List Int):List (V × V):=ms.map fun a=>(vi a,vb true)
theorem Ymy (ms:List Int):(Ch.map (mp ms)).refs=[]:=by
 simp only[Ch.refs]
 rw[List.flatMap_eq_nil_iff]
 intro e he
 obtain⟨a,_,rfl⟩:=List.mem_map.1 he
 rfl
theorem Xrw (h:Env gp) {g:Gr} (hg:Tdy g):Does QP gp 55 [g.v] (.tup [.one (.d (.sl (Xad (Xel g)))),vi 0]):=by
 refine Jco ?_
 simp only[go_sem]
 repeat' first|refine Kn rfl ?_|(refine Kw ?_;simp only[go_sem])|refine Kf ?_|apply Kp<;>intro _
 refine Xha 13 ?_
 simp only[go_sem]
 repeat' first|refine Kn rfl ?_|(refine Kw ?_;simp only[Xjq,go_sem])|refine Kf ?_|apply Kp<;>intro _
 refine Or.inr ⟨[],.tup [.one (.ptr 1 0),vi 0],[.row 1 0 (Xad (Xfy g.l.length [])),ctC g],(by simp only[Xay,Xcl,rnV,rnA,Xcx,rn0,Xcw,Xbo,Xcm,rnC,Xak,List.isEmpty_nil,reduceCtorEq,↓reduceIte,Qa,Qb,Qc,Qd,Qe,Qf,Qg,Qh,Qi,Qj,Qk,Ql,Qm,Qn,Qo,Qp,Qq,Qr];simp only[go_sem];exact⟨Yl9,Xtw h hg⟩),Kg ?_⟩
 simp only[go_sem]
 repeat' first|refine Kn rfl ?_|(refine Kw ?_;simp only[Xjq,go_sem])|refine Kf ?_|apply Kp<;>intro _
 refine Or.inr (Or.inr ⟨[0,1],.one (.own 0 0),[.row 1 0 (Xad (Xbi g)),ctC g],(by simp only[Xay,Xcl,rnV,rnA,Xcx,rn0,Xcw,Xbo,Xcm,rnC,Xak,List.isEmpty_nil,reduceCtorEq,↓reduceIte,Qa,Qb,Qc,Qd,Qe,Qf,Qg,Qh,Qi,Qj,Qk,Ql,Qm,Qn,Qo,Qp,Qq,Qr];simp only[go_sem];exact⟨Y8o,Y8t hg⟩),Kg ?_⟩)
 simp only[go_sem]
 repeat' first|refine Kn rfl ?_|(refine Kw ?_;simp only[Xjq,go_sem])|refine Kf ?_|apply Kp<;>intro _
 refine Xeh 8 1 (by decide) rfl ?_
 simp only[go_sem]
 have hul:(Xbi g).length=g.l.length:=Xdo _ _
 have hgl:=hg.good.len
 rw[show Xel g=(Xc2 g (Xbi g) g.l.length).1 from rfl]
 generalize Xbi g=us at *
 refine Kt (fr 46 [(4,.one (.ptr 1 0)),(6,.one (.mvo (.func 79) false [.ptr 1 0])),(7,.one (.own 3 0)),(8,.one (.own 5 0)),(23,.one (.own 0 0)),(24,vi us.length),(25,vi ((0:Nat):Int))]) ?_
 refine Km (fun mz sz=>∃ (i:Nat) (ms:List Int),i<=us.length/\mz=us.length - i/\ms.length=(Xc2 g us i).2/\(∀ a∈ms,a < i)/\ms.length<=i/\sz=⟨fr 46 [(4,.one (.ptr 1 0)),(6,.one (.mvo (.func 79) false [.ptr 1 0])),(7,.one (.own 3 0)),(8,.one (.own 5 i)),(23,.one (.own 0 0)),(24,vi us.length),(25,vi i)],[.row 1 0 (Xad us),ctC g,.dead,.map (mp ms),.dead,.row 1 i (Xad (Xc2 g us i).1)]⟩) _ ⟨0,[],Nat.zero_le _,rfl,rfl,by simp,Nat.le_refl _,rfl⟩ ?_
 rintro _ _ ⟨i,ms,hi,rfl,hml,hmi,hmn,rfl⟩
 simp only[go_sem]
 by_cases hil:i < us.length
 ·obtain⟨n,hn⟩:=Xaf hil
  obtain⟨x,hx⟩:=Xaf (l:=g.l) (i:=i) (by omega)
  have hr:=(Xjo hg.good.c).2.2 x (List.mem_of_getElem? hx)
  have hal:=Xif (g:=g) hul i (by omega)
  have hgn:(Xad us)[i]?=some [.int .i64 n]:=Xab hn
  have ha8:((Xc2 g us i).1.length+1)*8<=140737488355328:=by rw[hal];omega
  have halm:(Xc2 g us i).1.length+1 < lenMax:=by rw[hal];unfold lenMax;omega
  have hst:Xc2 g us (i+1)=if Xmn x n then ((Xc2 g us i).1++[(((Xc2 g us i).2+1:Nat):Int)],(Xc2 g us i).2+1) else ((Xc2 g us i).1++[0],(Xc2 g us i).2):=by
   simp only[Xc2,hx,hn]
  have hcall:=X2w (gp:=gp) hx hr n 0 (Xad us)
  repeat' first|refine Kn rfl ?_|(refine Kw ?_;simp only[Xjq,go_sem])|refine Kf ?_|refine⟨Kq _,hil,?_⟩|refine⟨_,⟨hgn,Nat.le_refl _⟩,Kg ?_⟩|(apply Kp<;>intro _<;>try (exfalso;omega))
  refine Or.inr (Or.inr ⟨[0,1],vb (Xmn x n),[.row 1 0 (Xad us),ctC g,.cells x.as],(by simp only[Xay,Xcl,rnV,rnA,Xcx,rn0,Xcw,Xbo,Xcm,rnC,Xak,List.isEmpty_nil,reduceCtorEq,↓reduceIte,Qa,Qb,Qc,Qd,Qe,Qf,Qg,Qh,Qi,Qj,Qk,Ql,Qm,Qn,Qo,Qp,Qq,Qr];simp only[go_sem];exact⟨Jc9,hcall⟩),Kg ?_⟩)
  simp only[go_sem]
  cases hp:Xmn x n with
  | true =>
   rw[hp] at hst
   have hput:=Xoz (v:=vb true) Xl3 ms (i:Int) (fun h=>by have:=hmi _ h;omega)
   repeat' first|refine Kn rfl ?_|(refine Kw ?_;simp only[Xjq,go_sem])|refine Kf ?_|refine⟨_,hput,Kg ?_⟩|refine⟨by simp,ha8,halm,?_⟩|(apply Kp<;>intro _<;>try (exfalso;omega))
   rw[show Xad (Xc2 g us i).1++[[D.int .i64 (ms++[(i:Int)]).length]]=Xad (Xc2 g us (i+1)).1 from by rw[hst];simp[Xad,hml]]
   refine⟨Xai hil (by unfold lenMax;omega),?_⟩
   refine Kt (fr 46 [(4,.one (.ptr 1 0)),(6,.one (.mvo (.func 79) false [.ptr 1 0])),(7,.one (.own 3 0)),(8,.one (.own 5 (i+1))),(23,.one (.own 0 0)),(24,vi us.length),(25,vi ((i+1:Nat):Int))]) ?_
   refine Kk 6 (by simp only[List.length_nil,List.length_cons];decide) (by simp only[go_sem]) (by simp only[List.take_succ_cons,List.take_zero,List.all_cons,List.all_nil,Ymy];simp only[go_sem]) ?_
   simp only[go_sem]
   exact Kl ⟨us.length - (i+1),by omega,i+1,ms++[(i:Int)],by omega,rfl,by rw[hst];simp[hml],fun a ha=>by
    rcases List.mem_append.1 ha with ha|ha
    ·have:=hmi a ha;omega
    ·simp at ha;omega,by simp;omega,rfl⟩
  | false =>
   rw[hp] at hst
   repeat' first|refine Kn rfl ?_|(refine Kw ?_;simp only[Xjq,go_sem])|refine Kf ?_|refine⟨by simp,ha8,halm,?_⟩|(apply Kp<;>intro _<;>try (exfalso;omega))
   rw[show Xad (Xc2 g us i).1++[[D.int .i64 0]]=Xad (Xc2 g us (i+1)).1 from by rw[hst];simp[Xad]]
   refine⟨Xai hil (by unfold lenMax;omega),?_⟩
   refine Kt (fr 46 [(4,.one (.ptr 1 0)),(6,.one (.mvo (.func 79) false [.ptr 1 0])),(7,.one (.own 3 0)),(8,.one (.own 5 (i+1))),(23,.one (.own 0 0)),(24,vi us.length),(25,vi ((i+1:Nat):Int))]) ?_
   refine Kk 6 (by simp only[List.length_nil,List.length_cons];decide) (by simp only[go_sem]) (by simp only[List.take_succ_cons,List.take_zero,List.all_cons,List.all_nil,Ymy];simp only[go_sem]) ?_
   simp only[go_sem]
   exact Kl ⟨us.length - (i+1),by omega,i+1,ms,by omega,rfl,by rw[hst];exact hml,fun a ha=>by have:=hmi a ha;omega,by omega,rfl⟩
 ·obtain rfl:us.length=i:=by omega
  rw[<- hul]
  refine Xap 5 ?_
  simp only[mp,go_sem]
  repeat' first|refine Kn rfl ?_|(refine Kw ?_;simp only[Xjq,go_sem])|refine Kf ?_|(apply Kp<;>intro _<;>try (exfalso;omega))
  all_goals trace_state
theorem DepW.app {k:Int->List Int} {d:Int} {t r a b c:List Int} (h:DepW k d t a b) (h':DepW k d r b c):DepW k d (t++r) a c:=by
 induction h with
 | nil=>exact h'
 | skip hx h0 _ ih=>exact .skip hx h0 (ih h')
 | step hx h0 h1 _ _ ih=>exact .step hx h0 h1 (ih h')
abbrev Wwc:Ch:=.cells [.ptr 1 0]
abbrev Wwd:A:=.clo (.func 117) [.ptr 2 0,.ptr 3 0]
theorem Xrx {g:Gr} {m:Nat} {x d:Int} {a:List Int} (hx:a[m]?=some x) (h0:0 < x) :
  Tri QP gp 117 [vi m,vi d,.one (.ptr 2 0),.one (.ptr 3 0)] [.row 1 0 (Xad a),ctC g,Wwc,.cells [Wwd]] fun r post =>
   r=.tup []/\post=[.row 1 0 (Xad (Xgi (kd g) d [(m:Int)] a)),ctC g,Wwc,.cells [Wwd]]:=by
 have hdep:Xgi (kd g) d [(m:Int)] a=a:=(DepW.skip hx h0 (.nil d a)).eq
 rw[hdep]
 have hg1:(Xad a)[m]?=some [.int .i64 x]:=Xab hx
 have hml:m < a.length:=(Kr.1 hx).1
 refine X06 ?_
 simp only[go_sem]
 repeat' first|refine Kn rfl ?_|(refine Kw ?_;simp only[go_sem])|refine Kf ?_|refine⟨Kq _,hml,?_⟩|refine⟨_,⟨hg1,Nat.le_refl _⟩,Kg ?_⟩|(apply Kp<;>intro _<;>try (exfalso;omega))
theorem Wwe {g:Gr} (hg:Tdy g):∀ (z:Nat) (d:Int) (i:Int) (a:List Int),X1d a<=z->0 < d->d+z<=1000->a.length=g.l.length->0<=i/\i < g.l.length ->
  Tri QP gp 117 [vi i,vi d,.one (.ptr 2 0),.one (.ptr 3 0)] [.row 1 0 (Xad a),ctC g,Wwc,.cells [Wwd]] fun r post =>
   r=.tup []/\post=[.row 1 0 (Xad (Xgi (kd g) d [i] a)),ctC g,Wwc,.cells [Wwd]]:=by
 intro z
 induction z with
 | zero =>
  intro d i a hz hd hdz hl hi
  obtain⟨m,rfl⟩:=Int.eq_ofNat_of_zero_le hi.1
  obtain⟨x,hx⟩:=Xaf (l:=a) (i:=m) (by omega)
  by_cases h0:0 < x
  ·exact Xrx hx h0
  ·have:=Xg1 hx h0 hd
   omega
 | succ z ih =>
  intro d i a hz hd hdz hl hi
  obtain⟨m,rfl⟩:=Int.eq_ofNat_of_zero_le hi.1
  obtain⟨x,hx⟩:=Xaf (l:=a) (i:=m) (by omega)
  by_cases h0:0 < x
  ·exact Xrx hx h0
  ·have hzs:=Xg1 hx h0 hd
   obtain⟨y,hy⟩:=Xaf (l:=g.l) (i:=m) (by omega)
   have hkd:=hg.kd hy
   have hky:=(hg.good.s y (List.mem_of_getElem? hy)).2
   have hkin:∀ j∈y.kids,0<=j/\j < g.l.length:=by rw[<- hkd];exact hg.good.kid m
   have ex:∀ t,(∀ j∈t,0<=j/\j < (g.l.length:Int))->DepW (kd g) (d+1) t (a.set m d) (Xgi (kd g) (d+1) t (a.set m d))/\X1d (Xgi (kd g) (d+1) t (a.set m d))<=z:=fun t ht=>by
    obtain⟨b,hb,hzb⟩:=Xru (k:=kd g) (n:=g.l.length) hg.good.kid _ (d+1) t (a.set m d) (Nat.le_refl _) (by omega) (by simp[hl]) ht
    rw[hb.eq]
    exact⟨hb,by omega⟩
   have hfin:Xgi (kd g) d [(m:Int)] a=Xgi (kd g) (d+1) y.kids (a.set m d):=by
    have h1:=(ex y.kids hkin).1
    rw[<- hkd] at h1 ⊢
    exact (DepW.step hx h0 h1 (.nil d _)).eq
   rw[hfin]
   have hg1:(Xad a)[m]?=some [.int .i64 x]:=Xab hx
   have hml:m < a.length:=by omega
   have hset:(Xad a).set m [.int .i64 d]=Xad (a.set m d):=Xj9 a m d
   have hd1:inK .i64 (d+1):=Xaw (by omega)
   refine X06 ?_
   simp only[go_sem]
   repeat' first|refine Kn rfl ?_|(refine Kw ?_;simp only[hset,go_sem])|refine Kf ?_|refine⟨_,⟨Kq _,(Xab hy),rfl⟩,Kg ?_⟩|refine⟨Kq _,hml,?_⟩|refine⟨_,⟨hg1,Nat.le_refl _⟩,Kg ?_⟩|(apply Kp<;>intro _<;>try (exfalso;omega))
   rw[show Ch.row 1 0 (Xad (a.set m d))=Ch.row 1 0 (Xad (Xgi (kd g) (d+1) (y.kids.take 0) (a.set m d))) from by rw[List.take_zero,(DepW.nil (k:=kd g) (d+1) (a.set m d)).eq]]
   refine Kt (fr 43 [(0,vi m),(1,vi d),(2,.one (.ptr 2 0)),(3,.one (.ptr 3 0)),(31,.one (.d (.sl (Xad y.kids)))),(32,vi y.kids.length),(33,vi (0:Nat))]) ?_
   refine Km (fun mz sz=>∃ i:Nat,i<=y.kids.length/\mz=y.kids.length - i/\(0<=i)/\sz=⟨fr 43 [(0,vi m),(1,vi d),(2,.one (.ptr 2 0)),(3,.one (.ptr 3 0)),(31,.one (.d (.sl (Xad y.kids)))),(32,vi y.kids.length),(33,vi i)],[.row 1 0 (Xad (Xgi (kd g) (d+1) (y.kids.take i) (a.set m d))),ctC g,Wwc,.cells [Wwd]]⟩) (y.kids.length) ⟨0,Nat.zero_le _,(Nat.sub_zero _).symm,?_,rfl⟩ ?_
   ·exact Nat.zero_le _
   rintro _ _ ⟨i,hi2,rfl,-,rfl⟩
   simp only[go_sem]
   by_cases hil:i < y.kids.length
   ·obtain⟨c,hc⟩:=Xaf hil
    obtain⟨e1,e2⟩:=ex (y.kids.take i) fun j hj=>hkin j (List.mem_of_mem_take hj)
    obtain⟨f1,f2⟩:=ex (y.kids.take (i+1)) fun j hj=>hkin j (List.mem_of_mem_take hj)
    have hstep:Xgi (kd g) (d+1) [c] (Xgi (kd g) (d+1) (y.kids.take i) (a.set m d))=Xgi (kd g) (d+1) (y.kids.take (i+1)) (a.set m d):=by
     obtain⟨b,hb,_⟩:=Xru (k:=kd g) (n:=g.l.length) hg.good.kid _ (d+1) [c] (Xgi (kd g) (d+1) (y.kids.take i) (a.set m d)) (Nat.le_refl _) (by omega) (by rw[e1.len];simp[hl]) (by simpa using hkin c (List.mem_of_getElem? hc))
     have:=e1.app hb
     rw[Xbx hc] at this
     rw[this.eq,hb.eq]
    have hcall:=ih (d+1) c (Xgi (kd g) (d+1) (y.kids.take i) (a.set m d)) e2 (by omega) (by omega) (by rw[e1.len];simp[hl]) (hkin c (List.mem_of_getElem? hc))
    rw[hstep] at hcall
    repeat' first|refine Kn rfl ?_|(refine Kw ?_;simp only[go_sem])|refine Kf ?_|refine⟨_,⟨Kq _,(Xab hc),rfl⟩,Kg ?_⟩|refine⟨hd1,?_⟩|(apply Kp<;>intro _<;>try (exfalso;omega))
    refine Or.inr (Or.inr ⟨[0,1,2,3],.tup [],[.row 1 0 (Xad (Xgi (kd g) (d+1) (y.kids.take (i+1)) (a.set m d))),ctC g,Wwc,.cells [Wwd]],(by simp only[Xay,Xcl,rnV,rnA,Xcx,rn0,Xcw,Xbo,Xcm,rnC,Xak,List.isEmpty_nil,reduceCtorEq,↓reduceIte,Qa,Qb,Qc,Qd,Qe,Qf,Qg,Qh,Qi,Qj,Qk,Ql,Qm,Qn,Qo,Qp,Qq,Qr];simp only[go_sem];exact⟨Ymj,hcall⟩),Kg ?_⟩)
    simp only[go_sem]
    repeat' first|refine Kn rfl ?_|(refine Kw ?_;simp only[go_sem])|refine Kf ?_|(apply Kp<;>intro _<;>try (exfalso;omega))
    refine⟨Xai hil (by unfold lenMax;omega),?_⟩
    refine Kt (fr 43 [(0,vi m),(1,vi d),(2,.one (.ptr 2 0)),(3,.one (.ptr 3 0)),(31,.one (.d (.sl (Xad y.kids)))),(32,vi y.kids.length),(33,vi (i+1))]) ?_
    refine Ku 4 ?_
    simp only[go_sem]
    refine Kl ⟨y.kids.length - (i+1),by omega,i+1,by omega,rfl,?_,rfl⟩
    exact Nat.zero_le _
   ·obtain rfl:y.kids.length=i:=by omega
    rw[List.take_of_length_le (Nat.le_refl y.kids.length)]
    repeat' first|refine Kn rfl ?_|(refine Kw ?_;simp only[go_sem])|refine Kf ?_|(apply Kp<;>intro _<;>try (exfalso;omega))
theorem Yxr (h:Env gp) {g:Gr} (hg:Tdy g):Does QP gp 77 [g.v] (.tup [.one (.d (.sl (Xad (Xfq g)))),vi 0]):=by
 have hz:X1d (Xfy g.l.length [])<=200:=by
  have:=List.countP_le_length (p:=fun x:Int=>decide (¬ 0 < x)) (l:=Xfy g.l.length [])
  rw[Xdo] at this
  exact Nat.le_trans this hg.good.len
 have hcall:=Wwe (gp:=gp) hg 200 1 g.root (Xfy g.l.length []) hz (by omega) (by omega) (Xdo _ _) hg.good.root
 have hd:Xgi (kd g) 1 [g.root] (Xfy g.l.length [])=Xfq g:=by rw[Ymv,hg.root];rfl
 rw[hd] at hcall
 refine Jc0 ?_
 simp only[go_sem]
 repeat' first|refine Kn rfl ?_|(refine Kw ?_;simp only[Xl8,go_sem])|refine Kf ?_|apply Kp<;>intro _
 refine Xha 9 ?_
 simp only[go_sem]
 repeat' first|refine Kn rfl ?_|(refine Kw ?_;simp only[Xrt,Xl8,go_sem])|refine Kf ?_|apply Kp<;>intro _
 refine Or.inr ⟨[],.tup [.one (.ptr 1 0),vi 0],[.row 1 0 (Xad (Xfy g.l.length [])),ctC g],(by simp only[Xay,Xcl,rnV,rnA,Xcx,rn0,Xcw,Xbo,Xcm,rnC,Xak,List.isEmpty_nil,reduceCtorEq,↓reduceIte,Qa,Qb,Qc,Qd,Qe,Qf,Qg,Qh,Qi,Qj,Qk,Ql,Qm,Qn,Qo,Qp,Qq,Qr];simp only[go_sem];exact⟨Yl9,Xtw h hg⟩),Kg ?_⟩
 simp only[go_sem]
 repeat' first|refine Kn rfl ?_|(refine Kw ?_;simp only[Xrt,Xl8,go_sem])|refine Kf ?_|apply Kp<;>intro _
 refine Or.inr (Or.inr ⟨[0,1,3,4],.tup [],[.row 1 0 (Xad (Xfq g)),ctC g,Wwc,.cells [Wwd]],(by simp only[Xay,Xcl,rnV,rnA,Xcx,rn0,Xcw,Xbo,Xcm,rnC,Xak,List.isEmpty_nil,reduceCtorEq,↓reduceIte,Qa,Qb,Qc,Qd,Qe,Qf,Qg,Qh,Qi,Qj,Qk,Ql,Qm,Qn,Qo,Qp,Qq,Qr];simp only[go_sem];exact⟨Ymj,hcall⟩),Kg ?_⟩)
 simp only[go_sem]
 repeat' first|refine Kn rfl ?_|(refine Kw ?_;simp only[Xrt,go_sem])|refine Kf ?_|apply Kp<;>intro _
 refine Xap 0 ?_
 simp only[go_sem]
 repeat' first|refine Kn rfl ?_|(refine Kw ?_;simp only[Xrt,Xl8,go_sem])|refine Kf ?_|apply Kp<;>intro _
 all_goals trace_state
noncomputable def Xfx (g:Gr) (t:Bool):Gr:=if t=true/\chk g.cut=none then Xa0 g.cut else g.cut
end Go.Fw.L07
