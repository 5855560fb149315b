/- Chapter 12,plain: how often nodes stand,how deep. -/
import Derived.Test.YtakgmpkfpkmkaaaGreatDoorEa
import Derived.Test.YtakgmpkfpkmkaaaGreatDoorL07L12Mini
import Derived.Test.YtakgmpkfpkmkaaaGreatDoorLc
set_option linter.all false
namespace Go.Fw.L07
open Go Go.Fw
open Go.Fw.Sh renaming intro->Kg
open Go.Fw renaming Xkl->Ka,Xfi->Kb,Xko->Kv,Xfj->Ke,Xfl->Kf,Xkn->Kh,Xkm->Ki,Xdx->Kt,Xkg->Kk,Xf0->Ku,Xdw->Kl,Xfz->Km,Gx->Kn,Gw->Ko
open Int renaming natCast_nonneg->Kq
open List renaming getElem?_eq_some_iff->Kr
open And renaming intro->Kp
open Nat renaming reduceAdd->Qa,reduceSub->Qb,reduceMul->Qc,reduceLeDiff->Qd,reduceLT->Qe,reduceEqDiff->Qf
open Int renaming reduceToNat->Qg,reduceLT->Qh,reduceLE->Qi,reduceGT->Qj,reduceGE->Qk,reduceEq->Ql,reduceNe->Qm,reduceBEq->Qn,reduceBNe->Qo,reduceAdd->Qp,reduceSub->Qq,reduceNeg->Qr
open Go.Fw.V.one renaming injEq->Qs
open Go.Fw.V.agg renaming injEq->Qt
open Go.Fw.V.tup renaming injEq->Qu
open Go.Fw.A.d renaming injEq->Qv
open Go.Fw.D.bool renaming injEq->Qw
open Go.Fw.D.int renaming injEq->Qx
open Go.Fw.D.str renaming injEq->Qy
open Go.Fw.D.sl renaming injEq->Qz
open List.cons renaming injEq->Za
set_option maxRecDepth 4000
def Xfq (n:Nat) (ks:List Int):List Int:=(List.range n).map (fun i:Nat=>((ks.count (i:Int):Nat):Int))
theorem Xek (n:Nat) (ks:List Int):(Xfq n ks).length=n:=by simp[Xfq]
theorem Xr9 {n i:Nat} (ks:List Int) (h:i < n):(Xfq n ks)[i]?=some ((ks.count (i:Int):Nat):Int):=by
 unfold Xfq
 rw[List.getElem?_map,List.getElem?_range h];rfl
theorem Yhf (n:Nat):Xfq n []=List.replicate n 0:=by
 apply List.ext_getElem?
 intro i
 by_cases h:i < n
 ·rw[Xr9 _ h,List.getElem?_replicate,if_pos h];rfl
 ·rw[List.getElem?_eq_none (by rw[Xek];omega),List.getElem?_eq_none (by simp;omega)]
theorem Ypp {n j:Nat} (ks:List Int) (h:j < n):(Xfq n ks).set j (((ks.count (j:Int):Nat):Int)+1)=Xfq n (ks++[(j:Int)]):=by
 apply List.ext_getElem?
 intro i
 by_cases hi:i < n
 ·rw[Xr9 _ hi,List.getElem?_set]
  by_cases e:j=i
  ·subst e
   rw[if_pos rfl,if_pos (by rw[Xek];exact h)]
   simp[List.count_append]
  ·rw[if_neg e,Xr9 _ hi]
   have:¬ (j:Int)=(i:Int):=by omega
   simp[List.count_append,List.count_cons,this]
 ·rw[List.getElem?_eq_none (by rw[List.length_set,Xek];omega),List.getElem?_eq_none (by rw[Xek];omega)]
def flat (g:Gr):List Int:=g.l.flatMap Nd.kids
def Xce (g:Gr):List Int:=Xfq g.l.length (0::flat g)
def Xnc (f:Nat->Int):Nat->Int
 | 0=>0
 | n+1=>Xnc f n+f n
theorem flat_len:∀ (l:List Nd),((l.flatMap Nd.kids).length:Int)=Xnc (fun i=>(((l[i]?).map fun x=>(x.kids.length:Int)).getD 0)) l.length
 | []=>rfl
 | x::l=>by
  have e:Xnc (fun i=>((((x::l)[i]?).map fun x=>(x.kids.length:Int)).getD 0)) (l.length+1)=(x.kids.length:Int)+Xnc (fun i=>(((l[i]?).map fun x=>(x.kids.length:Int)).getD 0)) l.length:=by
   generalize l.length=n
   induction n with
   | zero=>simp[Xnc]
   | succ n ih =>
    have:Xnc (fun i=>((((x::l)[i]?).map fun x=>(x.kids.length:Int)).getD 0)) (n+1+1)=Xnc (fun i=>((((x::l)[i]?).map fun x=>(x.kids.length:Int)).getD 0)) (n+1)+((((x::l)[n+1]?).map fun x=>(x.kids.length:Int)).getD 0):=rfl
    rw[this,ih]
    simp only[Xnc,List.getElem?_cons_succ]
    omega
  rw[List.length_cons,e,List.flatMap_cons,List.length_append,Int.natCast_add,flat_len l]
def Xui (x:Nd) (n:Int):Bool:=decide (x.kids≠[]) && decide (n > 1)
def Wuc:List Nd->List Int->Nat->List Int
 | x::l,n::m,k=>if Xui x n then ((k+1:Nat):Int)::Wuc l m (k+1) else 0::Wuc l m k
 | _,_,_=>[]
def Xd8 (g:Gr) (us:List Int):Nat->List Int × Nat
 | 0=>([],0)
 | i+1=>match g.l[i]?,us[i]? with
  | some x,some n=>if Xui x n then ((Xd8 g us i).1++[(((Xd8 g us i).2+1:Nat):Int)],(Xd8 g us i).2+1) else ((Xd8 g us i).1++[0],(Xd8 g us i).2)
  | _,_=>Xd8 g us i
def Xgc (g:Gr):List Int:=(Xd8 g (Xce g) g.l.length).1
theorem Xk5 {g:Gr} {us:List Int} (h:us.length=g.l.length):∀ i,i<=g.l.length->(Xd8 g us i).1.length=i
 | 0,_=>rfl
 | i+1,hi=>by
  obtain⟨x,hx⟩:=Xal (l:=g.l) (i:=i) (by omega)
  obtain⟨n,hn⟩:=Xal (l:=us) (i:=i) (by omega)
  simp only[Xd8,hx,hn]
  split <;> simp[Xk5 h i (by omega)]
theorem Xzv {g:Gr} {us:List Int} (h:us.length=g.l.length) {i:Nat}:∀ j,i<=j->j<=g.l.length->∀ k,k < i->(Xd8 g us j).1[k]?=(Xd8 g us i).1[k]?
 | 0,hij,_,k,hk=>by omega
 | j+1,hij,hj,k,hk=>by
  by_cases e:i=j+1
  ·rw[e]
  ·rw[<- Xzv h j (by omega) (by omega) k hk]
   have hl:=Xk5 h j (by omega)
   obtain⟨x,hx⟩:=Xal (l:=g.l) (i:=j) (by omega)
   obtain⟨n,hn⟩:=Xal (l:=us) (i:=j) (by omega)
   simp only[Xd8,hx,hn]
   split <;> rw[List.getElem?_append_left (by omega)]
theorem Wf4 {g:Gr} {us:List Int} (h:us.length=g.l.length) {i:Nat} {x:Nd} {n:Int} (hx:g.l[i]?=some x) (hn:us[i]?=some n) :
  (Xd8 g us g.l.length).1[i]?=some (if Xui x n then (((Xd8 g us i).2+1:Nat):Int) else 0):=by
 have hi:=(Kr.1 hx).1
 rw[Xzv h (i:=i+1) g.l.length (by omega) (Nat.le_refl _) i (by omega)]
 have hl:=Xk5 h i (by omega)
 simp only[Xd8,hx,hn]
 split <;> rw[List.getElem?_append_right (by omega),hl,Nat.sub_self] <;> rfl
inductive DepW (k:Int->List Int):Int->List Int->List Int->List Int->Prop
 | nil (d:Int) (a:List Int):DepW k d [] a a
 | skip {d:Int} {i:Nat} {r a b:List Int} {x:Int}:a[i]?=some x->0 < x->DepW k d r a b->DepW k d ((i:Int)::r) a b
 | step {d:Int} {i:Nat} {r a b c:List Int} {x:Int}:a[i]?=some x->¬ 0 < x->DepW k (d+1) (k i) (a.set i d) b->DepW k d r b c->DepW k d ((i:Int)::r) a c
theorem DepW.det {k:Int->List Int} {d:Int} {t a b c:List Int} (h:DepW k d t a b) (h':DepW k d t a c):b=c:=by
 induction h generalizing c with
 | nil=>cases h';rfl
 | skip hx h0 _ ih =>
  cases h' with
  | skip _ _ h2=>exact ih h2
  | step hy h1 _ _=>rw[hx] at hy;cases hy;exact absurd h0 h1
 | step hx h0 _ _ ih1 ih2 =>
  cases h' with
  | skip hy h1 _=>rw[hx] at hy;cases hy;exact absurd h1 h0
  | step hy h1 h2 h3 =>
   have:=ih1 h2
   subst this
   exact ih2 h3
theorem DepW.len {k:Int->List Int} {d:Int} {t a b:List Int} (h:DepW k d t a b):b.length=a.length:=by
 induction h with
 | nil=>rfl
 | skip _ _ _ ih=>exact ih
 | step _ _ _ _ ih1 ih2=>rw[ih2,ih1,List.length_set]
open Classical in
noncomputable def Xp1 (k:Int->List Int) (d:Int) (t a:List Int):List Int:=if h:∃ b,DepW k d t a b then Classical.choose h else a
theorem DepW.eq {k:Int->List Int} {d:Int} {t a b:List Int} (h:DepW k d t a b):Xp1 k d t a=b:=by
 unfold Xp1
 rw[dif_pos ⟨b,h⟩]
 exact (Classical.choose_spec (⟨b,h⟩:∃ b,DepW k d t a b)).det h
def Yi9 (a:List Int):Nat:=a.countP fun x=>decide (¬ 0 < x)
theorem Xk6 {a:List Int} {i:Nat} {x d:Int} (h:a[i]?=some x) (h0:¬ 0 < x) (hd:0 < d):Yi9 (a.set i d)+1=Yi9 a:=by
 induction a generalizing i with
 | nil=>simp at h
 | cons y a ih =>
  cases i with
  | zero =>
   simp at h;subst h
   simp[Yi9,List.countP_cons,hd,h0]
  | succ i =>
   have:=ih (i:=i) (by simpa using h)
   simp only[Yi9,List.set_cons_succ,List.countP_cons] at this ⊢
   omega
theorem Yhg {k:Int->List Int} {n:Nat} (hk:∀ i,∀ j∈k i,0<=j/\j < n):∀ (z:Nat) (d:Int) (t a:List Int),Yi9 a<=z->0 < d->a.length=n->(∀ i∈t,0<=i/\i < n)->∃ b,DepW k d t a b/\Yi9 b<=Yi9 a:=by
 intro z
 induction z with
 | zero =>
  intro d t
  induction t with
  | nil=>intro a _ _ _ _;exact⟨a,.nil d a,Nat.le_refl _⟩
  | cons i t ih =>
   intro a hz hd hl ht
   have hi:=ht i (by simp)
   obtain⟨m,rfl⟩:=Int.eq_ofNat_of_zero_le hi.1
   obtain⟨x,hx⟩:=Xal (l:=a) (i:=m) (by omega)
   by_cases h0:0 < x
   ·obtain⟨b,hb,hzb⟩:=ih a hz hd hl fun j hj=>ht j (by simp[hj])
    exact⟨b,.skip hx h0 hb,hzb⟩
   ·have:=Xk6 hx h0 hd
    omega
 | succ z ihz =>
  intro d t
  induction t with
  | nil=>intro a _ _ _ _;exact⟨a,.nil d a,Nat.le_refl _⟩
  | cons i t ih =>
   intro a hz hd hl ht
   have hi:=ht i (by simp)
   obtain⟨m,rfl⟩:=Int.eq_ofNat_of_zero_le hi.1
   obtain⟨x,hx⟩:=Xal (l:=a) (i:=m) (by omega)
   by_cases h0:0 < x
   ·obtain⟨b,hb,hzb⟩:=ih a hz hd hl fun j hj=>ht j (by simp[hj])
    exact⟨b,.skip hx h0 hb,hzb⟩
   ·have hzs:=Xk6 hx h0 hd
    obtain⟨b,hb,hzb⟩:=ihz (d+1) (k m) (a.set m d) (by omega) (by omega) (by simp[hl]) (hk m)
    obtain⟨c,hc,hzc⟩:=ih b (by omega) hd (by rw[hb.len];simp[hl]) fun j hj=>ht j (by simp[hj])
    exact⟨c,.step hx h0 hb hc,by omega⟩
abbrev Xd3 (m:Nat):List Int:=(List.range m).map (fun i:Nat=>(i:Int))
theorem Xj0 (m:Nat):(Xd3 m).length=m:=by rw[List.length_map,List.length_range]
theorem Xiv {m i:Nat} (h:i < m):(Xd3 m)[i]?=some (i:Int):=by rw[List.getElem?_map,List.getElem?_range h];rfl
theorem Xgr {m:Nat} {i:Int}:i∈Xd3 m↔0<=i/\i < m:=by
 simp only[List.mem_map,List.mem_range]
 constructor
 ·rintro⟨j,hj,rfl⟩;omega
 ·rintro⟨h1,h2⟩;exact⟨i.toNat,by omega,by omega⟩
theorem Xmv (m:Nat):Xd3 (m+1)=Xd3 m++[(m:Int)]:=by
 show (List.range (m+1)).map _=(List.range m).map _++_
 rw[List.range_succ,List.map_append];rfl
theorem DepW.sim {k:Int->List Int} {n:Nat} {d:Int} {t a b:List Int} (h:DepW k d t a b):∀ {m:Nat} {r:List Int},0 < d->a.length=n->(∀ (i:Nat) (x:Int),a[i]?=some x->(0 < x↔i < m))->Walks k (t++r) (Xd3 m) (Xd3 n) ->
  ∃ m',m<=m'/\(∀ (i:Nat) (x:Int),b[i]?=some x->(0 < x↔i < m'))/\Walks k r (Xd3 m') (Xd3 n)/\(∀ i,i < m->b[i]?=a[i]?) /\
   ∀ i:Nat,m<=i->i < m'->((i:Int)∈t/\b[i]?=some d)\/∃ (j:Nat) (y:Int),m<=j/\j < i/\(i:Int)∈k j/\b[j]?=some y/\b[i]?=some (y+1):=by
 induction h with
 | nil d a =>
  intro m r _ _ hv hw
  exact⟨m,Nat.le_refl _,hv,hw,fun _ _=>rfl,fun i h1 h2=>by omega⟩
 | @skip d i t a b x hx h0 _ ih =>
  intro m r hd hl hv hw
  have him:i < m:=(hv i x hx).1 h0
  have hw':=hw.skip_inv (Xgr.2 ⟨by omega,by omega⟩)
  obtain⟨m',h1,h2,h3,h4,h5⟩:=ih hd hl hv hw'
  refine⟨m',h1,h2,h3,h4,fun j hj hj'=>?_⟩
  rcases h5 j hj hj' with ⟨h6,h7⟩|h6
  ·exact .inl ⟨List.mem_cons_of_mem _ h6,h7⟩
  ·exact .inr h6
 | @step d i t a b c x hx h0 hb hc ih1 ih2 =>
  intro m r hd hl hv hw
  have hlt:=(Kr.1 hx).1
  have him:¬ i < m:=fun e=>h0 ((hv i x hx).2 e)
  have hw':=hw.step_inv (fun e=>by have:=Xgr.1 e;omega)
  obtain⟨q,hq⟩:=hw'.pre
  have hie:i=m/\m < n:=by
   have h1:(Xd3 n)[m]?=some (i:Int):=by
    rw[hq,List.append_assoc,List.getElem?_append_right (by simp)]
    simp
   have h2:=(Kr.1 h1).1
   rw[Xj0] at h2
   rw[Xiv h2] at h1
   simp at h1
   omega
  obtain⟨rfl,hmn⟩:=hie
  rw[<- Xmv] at hw'
  have hset:(a.set i d)[i]?=some d:=by rw[List.getElem?_set];simp[hlt]
  have hv1:∀ (j:Nat) (y:Int),(a.set i d)[j]?=some y->(0 < y↔j < i+1):=by
   intro j y hy
   rw[List.getElem?_set] at hy
   split at hy
   ·rename_i e;subst e
    simp[hlt] at hy;subst hy
    exact⟨fun _=>by omega,fun _=>hd⟩
   ·rename_i e
    rw[hv j y hy];omega
  obtain⟨m1,g1,g2,g3,g4,g5⟩:=ih1 (m:=i+1) (r:=t++r) (by omega) (by simp[hl]) hv1 hw'
  obtain⟨m2,f1,f2,f3,f4,f5⟩:=ih2 (m:=m1) (r:=r) hd (by rw[hb.len];simp[hl]) g2 g3
  have hci:c[i]?=some d:=by rw[f4 i (by omega),g4 i (by omega),hset]
  refine⟨m2,by omega,f2,f3,fun j hj=>?_,fun j hj hj'=>?_⟩
  ·rw[f4 j (by omega),g4 j (by omega),List.getElem?_set,if_neg (by omega)]
  ·by_cases e:j=i
   ·subst e;exact .inl ⟨by simp,hci⟩
   ·by_cases e2:j < m1
    ·rcases g5 j (by omega) e2 with ⟨h6,h7⟩|⟨p,y,h6,h7,h8,h9,h10⟩
     ·exact .inr ⟨i,d,by omega,by omega,h6,hci,by rw[f4 j e2,h7]⟩
     ·exact .inr ⟨p,y,by omega,h7,h8,by rw[f4 p (by omega),h9],by rw[f4 j e2,h10]⟩
    ·rcases f5 j (by omega) hj' with ⟨h6,h7⟩|⟨p,y,h6,h7,h8,h9,h10⟩
     ·exact .inl ⟨by simp[h6],h7⟩
     ·exact .inr ⟨p,y,by omega,h7,h8,h9,h10⟩
structure Tdy (g:Gr):Prop where
 good:Good g
 root:g.root=0
 walk:Xa9 g=Xd3 g.l.length
 kids:∀ x∈g.l,Xae x=x.kids
 self:g=Xau g
theorem Good.tdy {q:Gr} (h:Good q):Tdy (Xau q) where
 good:=h.tidy
 root:=rfl
 walk:=by rw[Xrw h,Xdh]
 kids:=by
  intro x hx
  simp only[Xau,List.mem_map] at hx
  obtain⟨i,hi,rfl⟩:=hx
  exact (Xeu (h.node (h.wIn i hi)) _).1
 self:=(Xrx h).symm
theorem Xgs {l:List Nd} {i:Nat} {x:Nd} (h:l[i]?=some x):Xbb l i=x:=by
 have hi:=(Kr.1 h).1
 unfold Xbb
 rw[if_pos (by omega),Int.toNat_natCast,h];rfl
theorem Tdy.kd {g:Gr} (h:Tdy g) {i:Nat} {x:Nd} (hx:g.l[i]?=some x):kd g i=x.kids:=by
 rw[L07.kd,Xgs hx]
 exact h.kids x (List.mem_of_getElem? hx)
theorem Tdy.flatIn {g:Gr} (h:Tdy g):∀ k∈flat g,0<=k/\k < g.l.length:=by
 intro k hk
 obtain⟨x,hx,hk⟩:=List.mem_flatMap.1 hk
 obtain⟨i,hi⟩:=List.mem_iff_getElem?.1 hx
 rw[<- h.kd hi] at hk
 exact h.good.kid i k hk
theorem Tdy.pos {g:Gr} (h:Tdy g):0 < g.l.length:=by
 have:=h.good.root;omega
theorem Tdy.from {g:Gr} (h:Tdy g) {i:Nat} (hi:i < g.l.length) (h0:0 < i):(i:Int)∈flat g:=by
 have hw:(Xa9 g)[i]?=some (i:Int):=by rw[h.walk];exact Xiv hi
 obtain⟨m,p,hm,hp,hk⟩:=h.good.from hw h0
 rw[h.walk,Xiv (by omega)] at hp
 cases hp
 obtain⟨x,hx⟩:=Xal (l:=g.l) (i:=m) (by omega)
 rw[h.kd hx] at hk
 exact List.mem_flatMap.2 ⟨x,List.mem_of_getElem? hx,hk⟩
noncomputable def Xja (g:Gr):List Int:=Xp1 (kd g) 1 [0] (List.replicate g.l.length 0)
theorem Tdy.dep {g:Gr} (h:Tdy g):DepW (L07.kd g) 1 [0] (List.replicate g.l.length 0) (Xja g):=by
 obtain⟨b,hb,_⟩:=Yhg (k:=L07.kd g) (n:=g.l.length) h.good.kid _ 1 [0] (List.replicate g.l.length 0) (Nat.le_refl _) (by omega) (by simp) (by simp;exact h.pos)
 have:=hb.eq
 unfold Xja
 rw[this]
 exact hb
theorem Tdy.dep_len {g:Gr} (h:Tdy g):(Xja g).length=g.l.length:=by rw[h.dep.len];simp
theorem Tdy.dep_ok {g:Gr} (h:Tdy g):(Xja g)[0]?=some 1/\∀ i:Nat,0 < i->i < g.l.length->∃ (j:Nat) (y:Int),j < i/\(i:Int)∈L07.kd g j/\(Xja g)[j]?=some y/\(Xja g)[i]?=some (y+1):=by
 have hw:=h.good.walk
 rw[h.root,h.walk] at hw
 obtain⟨m',h1,h2,h3,h4,h5⟩:=h.dep.sim (n:=g.l.length) (m:=0) (r:=[]) (by omega) (by simp) (fun i x hx=>by
  have:x=0:=by
   rw[List.getElem?_replicate] at hx
   split at hx
   ·cases hx;rfl
   ·cases hx
  subst this;simp) (by simpa [Xd3] using hw)
 have hm:m'=g.l.length:=by
  have:=h3.nil_inv
  have e:=congrArg List.length this
  simpa using e.symm
 subst hm
 refine⟨?_,fun i h0 hi=>?_⟩
 ·rcases h5 0 (Nat.le_refl _) h.pos with ⟨_,h6⟩|⟨j,y,_,h6,_⟩
  ·exact h6
  ·omega
 ·rcases h5 i (Nat.zero_le _) hi with ⟨h6,_⟩|⟨j,y,_,h6,h7,h8,h9⟩
  ·simp at h6;omega
  ·exact⟨j,y,h6,h7,h8,h9⟩
open Go.Proofs.Tryz renaming prog->QP
variable {gp:Heap}
abbrev ctC (g:Gr):Ch:=.cells [.d (.int .i64 g.root),.d (.sl (nds g.l)),.own 0 0]
theorem Ypq (n:Nat):List.replicate n [D.int .i64 0]=Xaf (Xfq n []):=by rw[Yhf];simp[Xaf]
theorem Xuj (h:Env gp) {g:Gr} (hg:Tdy g):Tri QP gp 78 [g.v] [] fun r post=>r=.tup [.one (.ptr 1 0),vi 0]/\post=[.row 1 0 (Xaf (Xfq g.l.length [])),ctC g]:=by
 refine Wff ?_
 simp only[go_sem]
 have c1:=Xpr h g hg.good.s
 rw[show decide (chk g=none/\g=Xau g)=true from decide_eq_true ⟨hg.good.c,hg.self⟩] at c1
 have hl:=hg.good.len
 have hlb:(g.l.length:Int)*8<=140737488355328:=by omega
 have hlm:(g.l.length:Int) < (lenMax:Int):=by unfold lenMax;omega
 repeat' first|refine Kn rfl ?_|((first|refine Ka ?_|refine Kb ?_|refine Kv ?_|refine Ke ?_);simp only[go_sem])|refine Kf ?_|refine Kg ?_|refine⟨_,c1,Kg ?_⟩|refine⟨_,⟨c1,rfl⟩,Kg ?_⟩|refine⟨Kq _,hlb,hlm,?_⟩|apply Kp<;>intro _|((first|refine Kh ?_|refine Ki rfl ?_);simp only[or_self,Qs,Qt,Qu,Qv,Qw,Qx,Qy,Qz,Za,go_sem])
 rw[Ypq]
theorem Ypr (sz v:Nat) (xs:List (List D)) (cs:List A):Tri QP gp 119 [.one (.ptr 1 0)] [.row sz v xs,.cells cs] fun r post =>
  r=.one (.clo (.func 149) [.ptr 2 0])/\post=[.row sz v xs,.cells cs,.cells [.ptr 1 0]]:=by
 refine Yph ?_
 simp only[go_sem]
 repeat' first|refine Kn rfl ?_|((first|refine Ka ?_|refine Kb ?_|refine Kv ?_|refine Ke ?_);simp only[go_sem])|refine Kf ?_|refine Kg ?_|apply Kp<;>intro _|((first|refine Kh ?_|refine Ki rfl ?_);simp only[or_self,Qs,Qt,Qu,Qv,Qw,Qx,Qy,Qz,Za,go_sem])
theorem Xsa:Does QP gp 118 [] (.agg [.d (.bool false),.d (.bool true),.d (.bool true)]):=by
 refine Wfu ?_
 simp only[go_sem]
 repeat' first|refine Kn rfl ?_|((first|refine Ka ?_|refine Kb ?_|refine Kv ?_|refine Ke ?_);simp only[go_sem])|refine Kf ?_|refine Kg ?_|apply Kp<;>intro _|((first|refine Kh ?_|refine Ki rfl ?_);simp only[or_self,Qs,Qt,Qu,Qv,Qw,Qx,Qy,Qz,Za,go_sem])
theorem Yhh {n j:Nat} (ks:List Int) (h:j < n):(Xaf (Xfq n ks))[j]?=some [.int .i64 ((ks.count (j:Int):Nat):Int)]:=Xad (Xr9 ks h)
theorem Xzw {n j:Nat} (ks:List Int) (h:j < n):(Xaf (Xfq n ks)).set j [.int .i64 (((ks.count (j:Int):Nat):Int)+1)]=Xaf (Xfq n (ks++[(j:Int)])):=by
 rw[Xpq,Ypp ks h]
theorem Wf5:inK .i64 1:=by simp[inK,IntKind.min,IntKind.max,IntKind.signed,IntKind.bits]
theorem Wf6 {ks:List Int} {j:Int} (h:ks.length<=100000):inK .i64 (((ks.count j:Nat):Int)+1):=by
 have:=List.count_le_length (a:=j) (l:=ks)
 exact Xaq (n:=1000000) (by omega) (by unfold lenMax;omega)
theorem X1x {l:List Nd} (h:∀ x∈l,x.kids.length<=12):(l.flatMap Nd.kids).length<=12*l.length:=by
 induction l with
 | nil=>simp
 | cons x l ih =>
  have h1:=h x (by simp)
  have h2:=ih fun y hy=>h y (by simp[hy])
  simp only[List.flatMap_cons,List.length_append,List.length_cons]
  omega
theorem Yyl {g:Gr} (hg:Tdy g):Tri QP gp 80 [.one (.ptr 1 0)] [.row 1 0 (Xaf (Xfq g.l.length [])),ctC g] fun r post =>
  r=.one (.own 0 0)/\post=[.row 1 0 (Xaf (Xce g)),ctC g]:=by
 have hpos:=hg.pos
 have hlen:=hg.good.len
 have hfi:=hg.flatIn
 have hsm:=hg.good.s
 refine Wfl ?_
 simp only[go_sem]
 have hl0:0 < (Xfq g.l.length []).length:=by rw[Xek];exact hpos
 have hg0:(Xaf (Xfq g.l.length []))[0]?=some [.int .i64 0]:=by rw[Yhh [] hpos];rfl
 have hs0:(Xaf (Xfq g.l.length [])).set 0 [.int .i64 1]=Xaf (Xfq g.l.length [0]):=by
  have:=Xzw (n:=g.l.length) (j:=0) [] hpos
  simpa using this
 repeat' first|refine Kn rfl ?_|((first|refine Ka ?_|refine Kb ?_|refine Kv ?_|refine Ke ?_);simp only[hs0,go_sem])|refine Kf ?_|refine Kg ?_|refine⟨hl0,?_⟩|refine⟨_,⟨hg0,Nat.le_refl _⟩,Kg ?_⟩|refine⟨Wf5,?_⟩|apply Kp<;>intro _|((first|refine Kh ?_|refine Ki rfl ?_);simp only[hs0,or_self,Qs,Qt,Qu,Qv,Qw,Qx,Qy,Qz,Za,go_sem])
 refine Or.inr (Or.inr ⟨[0,1],.one (.clo (.func 149) [.ptr 2 0]),[.row 1 0 (Xaf (Xfq g.l.length [0])),ctC g,.cells [.ptr 1 0]],(by simp only[Xaw,Xcv,rnV,rnA,Xc1,rn0,Xc0,Xbz,Xcx,rnC,Xaj,List.isEmpty_nil,reduceCtorEq,↓reduceIte,Qa,Qb,Qc,Qd,Qe,Qf,Qg,Qh,Qi,Qj,Qk,Ql,Qm,Qn,Qo,Qp,Qq,Qr];simp only[go_sem];exact⟨Wfx,Ypr _ _ _ _⟩),Kg ?_⟩)
 simp only[go_sem]
 repeat' first|refine Kn rfl ?_|((first|refine Ka ?_|refine Kb ?_|refine Kv ?_|refine Ke ?_);simp only[go_sem])|refine Kf ?_|refine Kg ?_|apply Kp<;>intro _|((first|refine Kh ?_|refine Ki rfl ?_);simp only[or_self,Qs,Qt,Qu,Qv,Qw,Qx,Qy,Qz,Za,go_sem])
 refine Y0b (f2:=149) (caps:=[.one (.ptr 3 0)]) (fun pd own'=>pd=none/\∃ rest,own'=.row 1 0 (Xaf (Xce g))::ctC g::.cells [.ptr 1 0]::rest) rfl ?_ Wf3 ?_ ?_ ?_
 ·intro y;simp only[go_sem]
 ·rintro b rc hps ⟨hs,hta,htb⟩
  refine Ypo ?_
  simp only[go_sem]
  repeat' first|refine Kn rfl ?_|((first|refine Ka ?_|refine Kb ?_|refine Kv ?_|refine Ke ?_);simp only[go_sem])|refine Kf ?_|refine Kg ?_|apply Kp<;>intro _|((first|refine Kh ?_|refine Ki rfl ?_);simp only[or_self,Qs,Qt,Qu,Qv,Qw,Qx,Qy,Qz,Za,go_sem])
  rw[show Ch.row 1 0 (Xaf (Xfq g.l.length [0]))=Ch.row 1 0 (Xaf (Xfq g.l.length (0::(g.l.take 0).flatMap Nd.kids))) from rfl]
  refine Kt (fr 33 [(0,.one (.d (.raw (.func (.yield b) #[] #[])))),(1,.one (.ptr 3 0)),(11,.one (.d (.sl (nds g.l)))),(12,vi g.l.length),(13,vi (0:Nat))]) ?_
  refine Km (fun mz sz=>∃ i:Nat,i<=g.l.length/\mz=g.l.length - i/\(0<=i)/\sz=⟨fr 33 [(0,.one (.d (.raw (.func (.yield b) #[] #[])))),(1,.one (.ptr 3 0)),(11,.one (.d (.sl (nds g.l)))),(12,vi g.l.length),(13,vi i)],[.row 1 0 (Xaf (Xfq g.l.length (0::(g.l.take i).flatMap Nd.kids))),ctC g,.cells [.ptr 1 0],.cells [.ptr 1 0],.dead,.lp b _ rc .ready none]⟩) (g.l.length) ⟨0,Nat.zero_le _,(Nat.sub_zero _).symm,?_,rfl⟩ ?_
  ·exact Nat.zero_le _
  rintro _ _ ⟨i,hi,rfl,-,rfl⟩
  simp only[go_sem]
  by_cases hil:i < g.l.length
  ·obtain⟨x,hx⟩:=Xal hil
   have hxm:=List.mem_of_getElem? hx
   have hxk:=(hsm x hxm).2
   have hdl:((g.l.take i).flatMap Nd.kids).length<=12*(g.l.take i).length:=X1x fun y hy=>(hsm y (List.mem_of_mem_take hy)).2
   have htl:(g.l.take i).length<=200:=by simp;omega
   have hnext:(g.l.take (i+1)).flatMap Nd.kids=(g.l.take i).flatMap Nd.kids++x.kids:=by rw[List.take_succ,hx];simp
   generalize (g.l.take i).flatMap Nd.kids=done at *
   repeat' first|refine Kn rfl ?_|((first|refine Ka ?_|refine Kb ?_|refine Kv ?_|refine Ke ?_);simp only[go_sem])|refine Kf ?_|refine Kg ?_|refine⟨_,⟨Kq _,(by first|exact Xad hx|(rw[Int.toNat_natCast];exact Xad hx)),rfl⟩,Kg ?_⟩|(apply Kp<;>intro _<;>try (exfalso;omega))|((first|refine Kh ?_|refine Ki rfl ?_);simp only[or_self,Qs,Qt,Qu,Qv,Qw,Qx,Qy,Qz,Za,go_sem])
   rw[show Ch.row 1 0 (Xaf (Xfq g.l.length (0::done)))=Ch.row 1 0 (Xaf (Xfq g.l.length (0::(done++x.kids.take 0)))) from by simp]
   refine Kt (fr 33 [(0,.one (.d (.raw (.func (.yield b) #[] #[])))),(1,.one (.ptr 3 0)),(3,vi i),(4,.one (.ptr 6 0)),(11,.one (.d (.sl (nds g.l)))),(12,vi g.l.length),(13,vi i),(19,.one (.d (.sl (Xaf x.kids)))),(20,vi x.kids.length),(21,vi (0:Nat))]) ?_
   refine Km (fun mz sz=>∃ j:Nat,j<=x.kids.length/\mz=x.kids.length - j/\(0<=j)/\sz=⟨fr 33 [(0,.one (.d (.raw (.func (.yield b) #[] #[])))),(1,.one (.ptr 3 0)),(3,vi i),(4,.one (.ptr 6 0)),(11,.one (.d (.sl (nds g.l)))),(12,vi g.l.length),(13,vi i),(19,.one (.d (.sl (Xaf x.kids)))),(20,vi x.kids.length),(21,vi j)],[.row 1 0 (Xaf (Xfq g.l.length (0::(done++x.kids.take j)))),ctC g,.cells [.ptr 1 0],.cells [.ptr 1 0],.dead,.lp b _ rc .ready none,.cells x.as]⟩) (x.kids.length) ⟨0,Nat.zero_le _,(Nat.sub_zero _).symm,?_,rfl⟩ ?_
   ·exact Nat.zero_le _
   rintro _ _ ⟨j,hj,rfl,-,rfl⟩
   simp only[go_sem]
   by_cases hkl:j < x.kids.length
   ·obtain⟨y,hy⟩:=Xal hkl
    have hyr:=hfi y (List.mem_flatMap.2 ⟨x,hxm,List.mem_of_getElem? hy⟩)
    obtain⟨m,rfl⟩:=Int.eq_ofNat_of_zero_le hyr.1
    have hmn:m < g.l.length:=by omega
    have hml:m < (Xfq g.l.length (0::(done++x.kids.take j))).length:=by rw[Xek];exact hmn
    have hgm:=Yhh (0::(done++x.kids.take j)) hmn
    have hsm2:(Xaf (Xfq g.l.length (0::(done++x.kids.take j)))).set m [.int .i64 ((((0::(done++x.kids.take j)).count (m:Int):Nat):Int)+1)]=Xaf (Xfq g.l.length (0::(done++x.kids.take (j+1)))):=by
     rw[Xzw _ hmn,<- Xca hy];simp
    have hkc:=Wf6 (ks:=0::(done++x.kids.take j)) (j:=(m:Int)) (by simp;omega)
    repeat' first|refine Kn rfl ?_|((first|refine Ka ?_|refine Kb ?_|refine Kv ?_|refine Ke ?_);simp only[go_sem])|refine Kf ?_|refine Kg ?_|refine⟨_,⟨Kq _,(by first|exact Xad hy|(rw[Int.toNat_natCast];exact Xad hy)),rfl⟩,Kg ?_⟩|(apply Kp<;>intro _<;>try (exfalso;omega))|((first|refine Kh ?_|refine Ki rfl ?_);simp only[or_self,Qs,Qt,Qu,Qv,Qw,Qx,Qy,Qz,Za,go_sem])
    refine⟨[.row 1 0 (Xaf (Xfq g.l.length (0::(done++x.kids.take (j+1))))),ctC g,.cells [.ptr 1 0],.cells [.ptr 1 0],.dead,.lp b _ rc .ready none,.cells x.as,.cells [.d (.int .i64 i),.d (.int .i64 m)]],true,by simp,⟨5,_,rc,hs,_,_,[.row 1 0 (Xaf (Xfq g.l.length (0::(done++x.kids.take (j+1))))),ctC g,.cells [.ptr 1 0],.cells [.ptr 1 0],.dead,.dead,.cells x.as,.cells [.d (.int .i64 i),.d (.int .i64 m)]],none,rfl,by rw[<- Array.length_toList,hps];rfl,hta,htb,?_,rfl,rfl⟩,Kg ?_⟩
    ·rw[hps]
     simp only[go_sem]
     repeat' first|refine Kn rfl ?_|((first|refine Ka ?_|refine Kb ?_|refine Kv ?_|refine Ke ?_);simp only[go_sem])|refine Kf ?_|refine Kg ?_|apply Kp<;>intro _|((first|refine Kh ?_|refine Ki rfl ?_);simp only[or_self,Qs,Qt,Qu,Qv,Qw,Qx,Qy,Qz,Za,go_sem])
     refine Xfy ⟨rfl,?_⟩
     repeat' first|refine Kn rfl ?_|((first|refine Ka ?_|refine Kb ?_|refine Kv ?_|refine Ke ?_);simp only[go_sem])|refine Kf ?_|refine Kg ?_|refine⟨Kq _,hml,?_⟩|refine⟨_,⟨hgm,Nat.le_refl _⟩,Kg ?_⟩|refine⟨hkc,?_⟩|apply Kp<;>intro _|((first|refine Kh ?_|refine Ki rfl ?_);simp only[or_self,Qs,Qt,Qu,Qv,Qw,Qx,Qy,Qz,Za,go_sem])
     exact Xfy ⟨⟨rfl,rfl⟩,by rw[<- hsm2];rfl⟩
    ·simp only[go_sem]
     repeat' first|refine Kn rfl ?_|((first|refine Ka ?_|refine Kb ?_|refine Kv ?_|refine Ke ?_);simp only[go_sem])|refine Kf ?_|refine Kg ?_|apply Kp<;>intro _|((first|refine Kh ?_|refine Ki rfl ?_);simp only[or_self,Qs,Qt,Qu,Qv,Qw,Qx,Qy,Qz,Za,go_sem])
     refine⟨Xaq hkl (by unfold lenMax;omega),?_⟩
     refine Kt (fr 33 [(0,.one (.d (.raw (.func (.yield b) #[] #[])))),(1,.one (.ptr 3 0)),(3,vi i),(4,.one (.ptr 6 0)),(11,.one (.d (.sl (nds g.l)))),(12,vi g.l.length),(13,vi i),(19,.one (.d (.sl (Xaf x.kids)))),(20,vi x.kids.length),(21,vi (j+1))]) ?_
     refine Ku 7 ?_
     simp only[go_sem]
     refine Kl ⟨x.kids.length - (j+1),by omega,j+1,by omega,rfl,?_,rfl⟩
     exact Nat.zero_le _
   ·obtain rfl:x.kids.length=j:=by omega
    rw[List.take_of_length_le (Nat.le_refl x.kids.length)]
    repeat' first|refine Kn rfl ?_|((first|refine Ka ?_|refine Kb ?_|refine Kv ?_|refine Ke ?_);simp only[go_sem])|refine Kf ?_|refine Kg ?_|(apply Kp<;>intro _<;>try (exfalso;omega))|((first|refine Kh ?_|refine Ki rfl ?_);simp only[or_self,Qs,Qt,Qu,Qv,Qw,Qx,Qy,Qz,Za,go_sem])
    refine⟨Xaq hil (by unfold lenMax;omega),?_⟩
    refine Kt (fr 33 [(0,.one (.d (.raw (.func (.yield b) #[] #[])))),(1,.one (.ptr 3 0)),(11,.one (.d (.sl (nds g.l)))),(12,vi g.l.length),(13,vi (i+1))]) ?_
    refine Ku 6 ?_
    simp only[go_sem]
    refine Kl ⟨g.l.length - (i+1),by omega,i+1,by omega,rfl,?_,by rw[hnext];rfl⟩
    exact Nat.zero_le _
  ·obtain rfl:g.l.length=i:=by omega
   rw[List.take_of_length_le (Nat.le_refl g.l.length)]
   repeat' first|refine Kn rfl ?_|((first|refine Ka ?_|refine Kb ?_|refine Kv ?_|refine Ke ?_);simp only[go_sem])|refine Kf ?_|refine Kg ?_|(apply Kp<;>intro _<;>try (exfalso;omega))|((first|refine Kh ?_|refine Ki rfl ?_);simp only[or_self,Qs,Qt,Qu,Qv,Qw,Qx,Qy,Qz,Za,go_sem])
   exact⟨.ready,none,rfl,by simp,rfl,_,rfl,rfl⟩
 ·rintro own' ⟨_,rest,rfl⟩
  simp only[go_sem]
  repeat refine Ko rfl ?_
  refine Ka ?_
  simp only[go_sem]
  refine Kt (fr 29 [(2,.one (.own 0 0))]) ?_
  refine Ku 2 ?_
  simp only[go_sem]
  refine Ki rfl ?_
  simp only[or_self,Qs,Qt,Qu,Qv,Qw,Qx,Qy,Qz,Za,go_sem]
 ·rintro _ _ ⟨h,_⟩;cases h
theorem Wud (h:Env gp) {g:Gr} (hg:Tdy g):Does QP gp 81 [g.v] (.tup [.one (.d (.sl (Xaf (Xce g)))),vi 0]):=by
 refine Wt7 ?_
 simp only[go_sem]
 repeat' first|refine Kn rfl ?_|((first|refine Ka ?_|refine Kb ?_|refine Kv ?_|refine Ke ?_);simp only[go_sem])|refine Kf ?_|refine Kg ?_|apply Kp<;>intro _|((first|refine Kh ?_|refine Ki rfl ?_);simp only[or_self,Qs,Qt,Qu,Qv,Qw,Qx,Qy,Qz,Za,go_sem])
 refine Xfk 8 ?_
 simp only[go_sem]
 repeat' first|refine Kn rfl ?_|((first|refine Ka ?_|refine Kb ?_|refine Kv ?_|refine Ke ?_);simp only[Xmu,go_sem])|refine Kf ?_|refine Kg ?_|apply Kp<;>intro _|((first|refine Kh ?_|refine Ki rfl ?_);simp only[Xmu,or_self,Qs,Qt,Qu,Qv,Qw,Qx,Qy,Qz,Za,go_sem])
 refine Or.inr ⟨[],.tup [.one (.ptr 1 0),vi 0],[.row 1 0 (Xaf (Xfq g.l.length [])),ctC g],(by simp only[Xaw,Xcv,rnV,rnA,Xc1,rn0,Xc0,Xbz,Xcx,rnC,Xaj,List.isEmpty_nil,reduceCtorEq,↓reduceIte,Qa,Qb,Qc,Qd,Qe,Qf,Qg,Qh,Qi,Qj,Qk,Ql,Qm,Qn,Qo,Qp,Qq,Qr];simp only[go_sem];exact⟨Ygt,Xuj h hg⟩),Kg ?_⟩
 simp only[go_sem]
 repeat' first|refine Kn rfl ?_|((first|refine Ka ?_|refine Kb ?_|refine Kv ?_|refine Ke ?_);simp only[Xmu,go_sem])|refine Kf ?_|refine Kg ?_|apply Kp<;>intro _|((first|refine Kh ?_|refine Ki rfl ?_);simp only[Xmu,or_self,Qs,Qt,Qu,Qv,Qw,Qx,Qy,Qz,Za,go_sem])
 refine Or.inr (Or.inr ⟨[0,1],.one (.own 0 0),[.row 1 0 (Xaf (Xce g)),ctC g],(by simp only[Xaw,Xcv,rnV,rnA,Xc1,rn0,Xc0,Xbz,Xcx,rnC,Xaj,List.isEmpty_nil,reduceCtorEq,↓reduceIte,Qa,Qb,Qc,Qd,Qe,Qf,Qg,Qh,Qi,Qj,Qk,Ql,Qm,Qn,Qo,Qp,Qq,Qr];simp only[go_sem];exact⟨Yyg,Yyl hg⟩),Kg ?_⟩)
 simp only[go_sem]
 refine Xa6 0 ?_
 simp only[go_sem]
 repeat' first|refine Kn rfl ?_|((first|refine Ka ?_|refine Kb ?_|refine Kv ?_|refine Ke ?_);simp only[Xmu,go_sem])|refine Kf ?_|refine Kg ?_|apply Kp<;>intro _|((first|refine Kh ?_|refine Ki rfl ?_);simp only[Xmu,or_self,Qs,Qt,Qu,Qv,Qw,Qx,Qy,Qz,Za,go_sem])
theorem X1y {g:Gr} {i:Nat} {x:Nd} (hx:g.l[i]?=some x) (hr:Xbe Xak x g.l.length=true) (n:Int) (v:Nat) (xs:List (List D)):Tri QP gp 79 [.one (.ptr 1 0),vi i,vi n] [.row 1 v xs,ctC g] fun r post =>
  r=vb (Xui x n)/\post=[.row 1 v xs,ctC g,.cells x.as]:=by
 refine Wfj ?_
 simp only[go_sem]
 repeat' first|refine Kn rfl ?_|((first|refine Ka ?_|refine Kb ?_|refine Kv ?_|refine Ke ?_);simp only[go_sem])|refine Kf ?_|refine Kg ?_|refine⟨_,Xsa,Kg ?_⟩|refine⟨_,⟨Xsa,rfl⟩,Kg ?_⟩|refine⟨_,⟨Kq _,(by first|exact Xad hx|(rw[Int.toNat_natCast];exact Xad hx)),rfl⟩,Kg ?_⟩|apply Kp<;>intro _|((first|refine Kh ?_|refine Ki rfl ?_);simp only[or_self,Qs,Qt,Qu,Qv,Qw,Qx,Qy,Qz,Za,go_sem])
 rcases Xgl hr with hk|hk|hk
 ·have hp:Xui x n=false:=by simp[Xui,(Xim hr hk).2]
  rw[hp]
  refine⟨0,_,⟨hk,by decide,rfl⟩,Kg ?_⟩
  repeat' first|refine Kn rfl ?_|((first|refine Ka ?_|refine Kb ?_|refine Kv ?_|refine Ke ?_);simp only[go_sem])|refine Kf ?_|refine Kg ?_|apply Kp<;>intro _|((first|refine Kh ?_|refine Ki rfl ?_);simp only[or_self,Qs,Qt,Qu,Qv,Qw,Qx,Qy,Qz,Za,go_sem])
 ·have hp:Xui x n=(decide (x.kids≠[]) && decide (n > 1)):=rfl
  refine⟨1,_,⟨hk,by decide,rfl⟩,Kg ?_⟩
  repeat' first|refine Kn rfl ?_|((first|refine Ka ?_|refine Kb ?_|refine Kv ?_|refine Ke ?_);simp only[go_sem])|refine Kf ?_|refine Kg ?_|apply Kp<;>intro _|((first|refine Kh ?_|refine Ki rfl ?_);simp only[or_self,Qs,Qt,Qu,Qv,Qw,Qx,Qy,Qz,Za,go_sem])
  all_goals (rw[hp];rename_i h;cases hkk:x.kids <;> simp_all)
  all_goals omega
 ·have hp:Xui x n=(decide (x.kids≠[]) && decide (n > 1)):=rfl
  refine⟨2,_,⟨hk,by decide,rfl⟩,Kg ?_⟩
  repeat' first|refine Kn rfl ?_|((first|refine Ka ?_|refine Kb ?_|refine Kv ?_|refine Ke ?_);simp only[go_sem])|refine Kf ?_|refine Kg ?_|apply Kp<;>intro _|((first|refine Kh ?_|refine Ki rfl ?_);simp only[or_self,Qs,Qt,Qu,Qv,Qw,Qx,Qy,Qz,Za,go_sem])
  all_goals (rw[hp];rename_i h;cases hkk:x.kids <;> simp_all)
  all_goals omega
abbrev mp (ms:List Int):List (V × V):=ms.map fun a=>(vi a,vb true)
theorem Yhi (ms:List Int):(Ch.map (mp ms)).refs=[]:=by
 simp only[Ch.refs]
 rw[List.flatMap_eq_nil_iff]
 intro e he
 obtain⟨a,_,rfl⟩:=List.mem_map.1 he
 rfl
theorem Xsb (h:Env gp) {g:Gr} (hg:Tdy g):Does QP gp 55 [g.v] (.tup [.one (.d (.sl (Xaf (Xgc g)))),vi 0]):=by
 refine Wtd ?_
 simp only[go_sem]
 repeat' first|refine Kn rfl ?_|((first|refine Ka ?_|refine Kb ?_|refine Kv ?_|refine Ke ?_);simp only[go_sem])|refine Kf ?_|refine Kg ?_|apply Kp<;>intro _|((first|refine Kh ?_|refine Ki rfl ?_);simp only[or_self,Qs,Qt,Qu,Qv,Qw,Qx,Qy,Qz,Za,go_sem])
 refine Xfk 13 ?_
 simp only[go_sem]
 repeat' first|refine Kn rfl ?_|((first|refine Ka ?_|refine Kb ?_|refine Kv ?_|refine Ke ?_);simp only[Xd2,go_sem])|refine Kf ?_|refine Kg ?_|apply Kp<;>intro _|((first|refine Kh ?_|refine Ki rfl ?_);simp only[Xd2,or_self,Qs,Qt,Qu,Qv,Qw,Qx,Qy,Qz,Za,go_sem])
 refine Or.inr ⟨[],.tup [.one (.ptr 1 0),vi 0],[.row 1 0 (Xaf (Xfq g.l.length [])),ctC g],(by simp only[Xaw,Xcv,rnV,rnA,Xc1,rn0,Xc0,Xbz,Xcx,rnC,Xaj,List.isEmpty_nil,reduceCtorEq,↓reduceIte,Qa,Qb,Qc,Qd,Qe,Qf,Qg,Qh,Qi,Qj,Qk,Ql,Qm,Qn,Qo,Qp,Qq,Qr];simp only[go_sem];exact⟨Ygt,Xuj h hg⟩),Kg ?_⟩
 simp only[go_sem]
 repeat' first|refine Kn rfl ?_|((first|refine Ka ?_|refine Kb ?_|refine Kv ?_|refine Ke ?_);simp only[Xd2,go_sem])|refine Kf ?_|refine Kg ?_|apply Kp<;>intro _|((first|refine Kh ?_|refine Ki rfl ?_);simp only[Xd2,or_self,Qs,Qt,Qu,Qv,Qw,Qx,Qy,Qz,Za,go_sem])
 refine Or.inr (Or.inr ⟨[0,1],.one (.own 0 0),[.row 1 0 (Xaf (Xce g)),ctC g],(by simp only[Xaw,Xcv,rnV,rnA,Xc1,rn0,Xc0,Xbz,Xcx,rnC,Xaj,List.isEmpty_nil,reduceCtorEq,↓reduceIte,Qa,Qb,Qc,Qd,Qe,Qf,Qg,Qh,Qi,Qj,Qk,Ql,Qm,Qn,Qo,Qp,Qq,Qr];simp only[go_sem];exact⟨Yyg,Yyl hg⟩),Kg ?_⟩)
 simp only[go_sem]
 repeat' first|refine Kn rfl ?_|((first|refine Ka ?_|refine Kb ?_|refine Kv ?_|refine Ke ?_);simp only[Xd2,go_sem])|refine Kf ?_|refine Kg ?_|apply Kp<;>intro _|((first|refine Kh ?_|refine Ki rfl ?_);simp only[Xd2,or_self,Qs,Qt,Qu,Qv,Qw,Qx,Qy,Qz,Za,go_sem])
 refine Xh9 8 1 (by decide) rfl ?_
 simp only[go_sem]
 have hul:(Xce g).length=g.l.length:=Xek _ _
 have hgl:=hg.good.len
 rw[show Xgc g=(Xd8 g (Xce g) g.l.length).1 from rfl]
 generalize Xce g=us at *
 refine Kt (fr 46 [(4,.one (.ptr 1 0)),(6,.one (.mvo (.func 79) false [.ptr 1 0])),(7,.one (.own 3 0)),(8,.one (.own 5 0)),(23,.one (.own 0 0)),(24,vi us.length),(25,vi ((0:Nat):Int))]) ?_
 refine Km (fun mz sz=>∃ (i:Nat) (ms:List Int),i<=us.length/\mz=us.length - i/\ms.length=(Xd8 g us i).2/\(∀ a∈ms,a < i)/\ms.length<=i/\sz=⟨fr 46 [(4,.one (.ptr 1 0)),(6,.one (.mvo (.func 79) false [.ptr 1 0])),(7,.one (.own 3 0)),(8,.one (.own 5 i)),(23,.one (.own 0 0)),(24,vi us.length),(25,vi i)],[.row 1 0 (Xaf us),ctC g,.dead,.map (mp ms),.dead,.row 1 i (Xaf (Xd8 g us i).1)]⟩) _ ⟨0,[],Nat.zero_le _,rfl,rfl,by simp,Nat.le_refl _,rfl⟩ ?_
 rintro _ _ ⟨i,ms,hi,rfl,hml,hmi,hmn,rfl⟩
 simp only[go_sem]
 by_cases hil:i < us.length
 ·obtain⟨n,hn⟩:=Xal hil
  obtain⟨x,hx⟩:=Xal (l:=g.l) (i:=i) (by omega)
  have hr:=(Xki hg.good.c).2.2 x (List.mem_of_getElem? hx)
  have hal:=Xk5 (g:=g) hul i (by omega)
  have hgn:(Xaf us)[i]?=some [.int .i64 n]:=Xad hn
  have ha8:((Xd8 g us i).1.length+1)*8<=140737488355328:=by rw[hal];omega
  have halm:(Xd8 g us i).1.length+1 < lenMax:=by rw[hal];unfold lenMax;omega
  have hst:Xd8 g us (i+1)=if Xui x n then ((Xd8 g us i).1++[(((Xd8 g us i).2+1:Nat):Int)],(Xd8 g us i).2+1) else ((Xd8 g us i).1++[0],(Xd8 g us i).2):=by
   simp only[Xd8,hx,hn]
  have hcall:=X1y (gp:=gp) hx hr n 0 (Xaf us)
  repeat' first|refine Kn rfl ?_|((first|refine Ka ?_|refine Kb ?_|refine Kv ?_|refine Ke ?_);simp only[Xd2,go_sem])|refine Kf ?_|refine Kg ?_|refine⟨Kq _,hil,?_⟩|refine⟨_,⟨hgn,Nat.le_refl _⟩,Kg ?_⟩|(apply Kp<;>intro _<;>try (exfalso;omega))|((first|refine Kh ?_|refine Ki rfl ?_);simp only[Xd2,or_self,Qs,Qt,Qu,Qv,Qw,Qx,Qy,Qz,Za,go_sem])
  refine Or.inr (Or.inr ⟨[0,1],vb (Xui x n),[.row 1 0 (Xaf us),ctC g,.cells x.as],(by simp only[Xaw,Xcv,rnV,rnA,Xc1,rn0,Xc0,Xbz,Xcx,rnC,Xaj,List.isEmpty_nil,reduceCtorEq,↓reduceIte,Qa,Qb,Qc,Qd,Qe,Qf,Qg,Qh,Qi,Qj,Qk,Ql,Qm,Qn,Qo,Qp,Qq,Qr];simp only[go_sem];exact⟨Wtt,hcall⟩),Kg ?_⟩)
  simp only[go_sem]
  cases hp:Xui x n with
  | true =>
   rw[hp] at hst
   have hput:=Xkz (v:=vb true) Xhh ms (i:Int) (fun h=>by have:=hmi _ h;omega)
   repeat' first|refine Kn rfl ?_|((first|refine Ka ?_|refine Kb ?_|refine Kv ?_|refine Ke ?_);simp only[Xd2,go_sem])|refine Kf ?_|refine Kg ?_|refine⟨_,hput,Kg ?_⟩|refine⟨by simp,ha8,halm,?_⟩|(apply Kp<;>intro _<;>try (exfalso;omega))|((first|refine Kh ?_|refine Ki rfl ?_);simp only[Xd2,or_self,Qs,Qt,Qu,Qv,Qw,Qx,Qy,Qz,Za,go_sem])
   rw[show Xaf (Xd8 g us i).1++[[D.int .i64 (ms++[(i:Int)]).length]]=Xaf (Xd8 g us (i+1)).1 from by rw[hst];simp[Xaf,hml]]
   refine⟨Xaq hil (by unfold lenMax;omega),?_⟩
   refine Kt (fr 46 [(4,.one (.ptr 1 0)),(6,.one (.mvo (.func 79) false [.ptr 1 0])),(7,.one (.own 3 0)),(8,.one (.own 5 (i+1))),(23,.one (.own 0 0)),(24,vi us.length),(25,vi ((i+1:Nat):Int))]) ?_
   refine Kk 6 (by simp only[List.length_nil,List.length_cons];decide) (by simp only[go_sem]) (by simp only[List.take_succ_cons,List.take_zero,List.all_cons,List.all_nil,Yhi];simp only[go_sem]) ?_
   simp only[go_sem]
   exact Kl ⟨us.length - (i+1),by omega,i+1,ms++[(i:Int)],by omega,rfl,by rw[hst];simp[hml],fun a ha=>by
    rcases List.mem_append.1 ha with ha|ha
    ·have:=hmi a ha;omega
    ·simp at ha;omega,by simp;omega,rfl⟩
  | false =>
   rw[hp] at hst
   repeat' first|refine Kn rfl ?_|((first|refine Ka ?_|refine Kb ?_|refine Kv ?_|refine Ke ?_);simp only[Xd2,go_sem])|refine Kf ?_|refine Kg ?_|refine⟨by simp,ha8,halm,?_⟩|(apply Kp<;>intro _<;>try (exfalso;omega))|((first|refine Kh ?_|refine Ki rfl ?_);simp only[Xd2,or_self,Qs,Qt,Qu,Qv,Qw,Qx,Qy,Qz,Za,go_sem])
   rw[show Xaf (Xd8 g us i).1++[[D.int .i64 0]]=Xaf (Xd8 g us (i+1)).1 from by rw[hst];simp[Xaf]]
   refine⟨Xaq hil (by unfold lenMax;omega),?_⟩
   refine Kt (fr 46 [(4,.one (.ptr 1 0)),(6,.one (.mvo (.func 79) false [.ptr 1 0])),(7,.one (.own 3 0)),(8,.one (.own 5 (i+1))),(23,.one (.own 0 0)),(24,vi us.length),(25,vi ((i+1:Nat):Int))]) ?_
   refine Kk 6 (by simp only[List.length_nil,List.length_cons];decide) (by simp only[go_sem]) (by simp only[List.take_succ_cons,List.take_zero,List.all_cons,List.all_nil,Yhi];simp only[go_sem]) ?_
   simp only[go_sem]
   exact Kl ⟨us.length - (i+1),by omega,i+1,ms,by omega,rfl,by rw[hst];exact hml,fun a ha=>by have:=hmi a ha;omega,by omega,rfl⟩
 ·obtain rfl:us.length=i:=by omega
  rw[<- hul]
  refine Xa6 5 ?_
  simp only[mp,go_sem]
  repeat' first|refine Kn rfl ?_|((first|refine Ka ?_|refine Kb ?_|refine Kv ?_|refine Ke ?_);simp only[Xd2,go_sem])|refine Kf ?_|refine Kg ?_|(apply Kp<;>intro _<;>try (exfalso;omega))|((first|refine Kh ?_|refine Ki rfl ?_);simp only[Xd2,or_self,Qs,Qt,Qu,Qv,Qw,Qx,Qy,Qz,Za,go_sem])
  all_goals trace_state
theorem DepW.app {k:Int->List Int} {d:Int} {t r a b c:List Int} (h:DepW k d t a b) (h':DepW k d r b c):DepW k d (t++r) a c:=by
 induction h with
 | nil=>exact h'
 | skip hx h0 _ ih=>exact .skip hx h0 (ih h')
 | step hx h0 h1 _ _ ih=>exact .step hx h0 h1 (ih h')
abbrev Wf7:Ch:=.cells [.ptr 1 0]
abbrev Wf8:A:=.clo (.func 117) [.ptr 2 0,.ptr 3 0]
theorem Xsc {g:Gr} {m:Nat} {x d:Int} {a:List Int} (hx:a[m]?=some x) (h0:0 < x) :
  Tri QP gp 117 [vi m,vi d,.one (.ptr 2 0),.one (.ptr 3 0)] [.row 1 0 (Xaf a),ctC g,Wf7,.cells [Wf8]] fun r post =>
   r=.tup []/\post=[.row 1 0 (Xaf (Xp1 (kd g) d [(m:Int)] a)),ctC g,Wf7,.cells [Wf8]]:=by
 have hdep:Xp1 (kd g) d [(m:Int)] a=a:=(DepW.skip hx h0 (.nil d a)).eq
 rw[hdep]
 have hg1:(Xaf a)[m]?=some [.int .i64 x]:=Xad hx
 have hml:m < a.length:=(Kr.1 hx).1
 refine Xzp ?_
 simp only[go_sem]
 repeat' first|refine Kn rfl ?_|((first|refine Ka ?_|refine Kb ?_|refine Kv ?_|refine Ke ?_);simp only[go_sem])|refine Kf ?_|refine Kg ?_|refine⟨Kq _,hml,?_⟩|refine⟨_,⟨hg1,Nat.le_refl _⟩,Kg ?_⟩|(apply Kp<;>intro _<;>try (exfalso;omega))|((first|refine Kh ?_|refine Ki rfl ?_);simp only[or_self,Qs,Qt,Qu,Qv,Qw,Qx,Qy,Qz,Za,go_sem])
theorem Wf9 {g:Gr} (hg:Tdy g):∀ (z:Nat) (d:Int) (i:Int) (a:List Int),Yi9 a<=z->0 < d->d+z<=1000->a.length=g.l.length->0<=i/\i < g.l.length ->
  Tri QP gp 117 [vi i,vi d,.one (.ptr 2 0),.one (.ptr 3 0)] [.row 1 0 (Xaf a),ctC g,Wf7,.cells [Wf8]] fun r post =>
   r=.tup []/\post=[.row 1 0 (Xaf (Xp1 (kd g) d [i] a)),ctC g,Wf7,.cells [Wf8]]:=by
 intro z
 induction z with
 | zero =>
  intro d i a hz hd hdz hl hi
  obtain⟨m,rfl⟩:=Int.eq_ofNat_of_zero_le hi.1
  obtain⟨x,hx⟩:=Xal (l:=a) (i:=m) (by omega)
  by_cases h0:0 < x
  ·exact Xsc hx h0
  ·have:=Xk6 hx h0 hd
   omega
 | succ z ih =>
  intro d i a hz hd hdz hl hi
  obtain⟨m,rfl⟩:=Int.eq_ofNat_of_zero_le hi.1
  obtain⟨x,hx⟩:=Xal (l:=a) (i:=m) (by omega)
  by_cases h0:0 < x
  ·exact Xsc hx h0
  ·have hzs:=Xk6 hx h0 hd
   obtain⟨y,hy⟩:=Xal (l:=g.l) (i:=m) (by omega)
   have hkd:=hg.kd hy
   have hky:=(hg.good.s y (List.mem_of_getElem? hy)).2
   have hkin:∀ j∈y.kids,0<=j/\j < g.l.length:=by rw[<- hkd];exact hg.good.kid m
   have ex:∀ t,(∀ j∈t,0<=j/\j < (g.l.length:Int))->DepW (kd g) (d+1) t (a.set m d) (Xp1 (kd g) (d+1) t (a.set m d))/\Yi9 (Xp1 (kd g) (d+1) t (a.set m d))<=z:=fun t ht=>by
    obtain⟨b,hb,hzb⟩:=Yhg (k:=kd g) (n:=g.l.length) hg.good.kid _ (d+1) t (a.set m d) (Nat.le_refl _) (by omega) (by simp[hl]) ht
    rw[hb.eq]
    exact⟨hb,by omega⟩
   have hfin:Xp1 (kd g) d [(m:Int)] a=Xp1 (kd g) (d+1) y.kids (a.set m d):=by
    have h1:=(ex y.kids hkin).1
    rw[<- hkd] at h1 ⊢
    exact (DepW.step hx h0 h1 (.nil d _)).eq
   rw[hfin]
   have hg1:(Xaf a)[m]?=some [.int .i64 x]:=Xad hx
   have hml:m < a.length:=by omega
   have hset:(Xaf a).set m [.int .i64 d]=Xaf (a.set m d):=Xpq a m d
   have hd1:inK .i64 (d+1):=by simp[inK,IntKind.min,IntKind.max,IntKind.signed,IntKind.bits];omega
   refine Xzp ?_
   simp only[go_sem]
   repeat' first|refine Kn rfl ?_|((first|refine Ka ?_|refine Kb ?_|refine Kv ?_|refine Ke ?_);simp only[hset,go_sem])|refine Kf ?_|refine Kg ?_|refine⟨_,⟨Kq _,(by first|exact Xad hy|(rw[Int.toNat_natCast];exact Xad hy)),rfl⟩,Kg ?_⟩|refine⟨Kq _,hml,?_⟩|refine⟨_,⟨hg1,Nat.le_refl _⟩,Kg ?_⟩|(apply Kp<;>intro _<;>try (exfalso;omega))|((first|refine Kh ?_|refine Ki rfl ?_);simp only[hset,or_self,Qs,Qt,Qu,Qv,Qw,Qx,Qy,Qz,Za,go_sem])
   rw[show Ch.row 1 0 (Xaf (a.set m d))=Ch.row 1 0 (Xaf (Xp1 (kd g) (d+1) (y.kids.take 0) (a.set m d))) from by rw[List.take_zero,(DepW.nil (k:=kd g) (d+1) (a.set m d)).eq]]
   refine Kt (fr 43 [(0,vi m),(1,vi d),(2,.one (.ptr 2 0)),(3,.one (.ptr 3 0)),(31,.one (.d (.sl (Xaf y.kids)))),(32,vi y.kids.length),(33,vi (0:Nat))]) ?_
   refine Km (fun mz sz=>∃ i:Nat,i<=y.kids.length/\mz=y.kids.length - i/\(0<=i)/\sz=⟨fr 43 [(0,vi m),(1,vi d),(2,.one (.ptr 2 0)),(3,.one (.ptr 3 0)),(31,.one (.d (.sl (Xaf y.kids)))),(32,vi y.kids.length),(33,vi i)],[.row 1 0 (Xaf (Xp1 (kd g) (d+1) (y.kids.take i) (a.set m d))),ctC g,Wf7,.cells [Wf8]]⟩) (y.kids.length) ⟨0,Nat.zero_le _,(Nat.sub_zero _).symm,?_,rfl⟩ ?_
   ·exact Nat.zero_le _
   rintro _ _ ⟨i,hi2,rfl,-,rfl⟩
   simp only[go_sem]
   by_cases hil:i < y.kids.length
   ·obtain⟨c,hc⟩:=Xal hil
    obtain⟨e1,e2⟩:=ex (y.kids.take i) fun j hj=>hkin j (List.mem_of_mem_take hj)
    obtain⟨f1,f2⟩:=ex (y.kids.take (i+1)) fun j hj=>hkin j (List.mem_of_mem_take hj)
    have hstep:Xp1 (kd g) (d+1) [c] (Xp1 (kd g) (d+1) (y.kids.take i) (a.set m d))=Xp1 (kd g) (d+1) (y.kids.take (i+1)) (a.set m d):=by
     obtain⟨b,hb,_⟩:=Yhg (k:=kd g) (n:=g.l.length) hg.good.kid _ (d+1) [c] (Xp1 (kd g) (d+1) (y.kids.take i) (a.set m d)) (Nat.le_refl _) (by omega) (by rw[e1.len];simp[hl]) (by simpa using hkin c (List.mem_of_getElem? hc))
     have:=e1.app hb
     rw[Xca hc] at this
     rw[this.eq,hb.eq]
    have hcall:=ih (d+1) c (Xp1 (kd g) (d+1) (y.kids.take i) (a.set m d)) e2 (by omega) (by omega) (by rw[e1.len];simp[hl]) (hkin c (List.mem_of_getElem? hc))
    rw[hstep] at hcall
    repeat' first|refine Kn rfl ?_|((first|refine Ka ?_|refine Kb ?_|refine Kv ?_|refine Ke ?_);simp only[go_sem])|refine Kf ?_|refine Kg ?_|refine⟨_,⟨Kq _,(by first|exact Xad hc|(rw[Int.toNat_natCast];exact Xad hc)),rfl⟩,Kg ?_⟩|refine⟨hd1,?_⟩|(apply Kp<;>intro _<;>try (exfalso;omega))|((first|refine Kh ?_|refine Ki rfl ?_);simp only[or_self,Qs,Qt,Qu,Qv,Qw,Qx,Qy,Qz,Za,go_sem])
    refine Or.inr (Or.inr ⟨[0,1,2,3],.tup [],[.row 1 0 (Xaf (Xp1 (kd g) (d+1) (y.kids.take (i+1)) (a.set m d))),ctC g,Wf7,.cells [Wf8]],(by simp only[Xaw,Xcv,rnV,rnA,Xc1,rn0,Xc0,Xbz,Xcx,rnC,Xaj,List.isEmpty_nil,reduceCtorEq,↓reduceIte,Qa,Qb,Qc,Qd,Qe,Qf,Qg,Qh,Qi,Qj,Qk,Ql,Qm,Qn,Qo,Qp,Qq,Qr];simp only[go_sem];exact⟨Yg3,hcall⟩),Kg ?_⟩)
    simp only[go_sem]
    repeat' first|refine Kn rfl ?_|((first|refine Ka ?_|refine Kb ?_|refine Kv ?_|refine Ke ?_);simp only[go_sem])|refine Kf ?_|refine Kg ?_|(apply Kp<;>intro _<;>try (exfalso;omega))|((first|refine Kh ?_|refine Ki rfl ?_);simp only[or_self,Qs,Qt,Qu,Qv,Qw,Qx,Qy,Qz,Za,go_sem])
    refine⟨Xaq hil (by unfold lenMax;omega),?_⟩
    refine Kt (fr 43 [(0,vi m),(1,vi d),(2,.one (.ptr 2 0)),(3,.one (.ptr 3 0)),(31,.one (.d (.sl (Xaf y.kids)))),(32,vi y.kids.length),(33,vi (i+1))]) ?_
    refine Ku 4 ?_
    simp only[go_sem]
    refine Kl ⟨y.kids.length - (i+1),by omega,i+1,by omega,rfl,?_,rfl⟩
    exact Nat.zero_le _
   ·obtain rfl:y.kids.length=i:=by omega
    rw[List.take_of_length_le (Nat.le_refl y.kids.length)]
    repeat' first|refine Kn rfl ?_|((first|refine Ka ?_|refine Kb ?_|refine Kv ?_|refine Ke ?_);simp only[go_sem])|refine Kf ?_|refine Kg ?_|(apply Kp<;>intro _<;>try (exfalso;omega))|((first|refine Kh ?_|refine Ki rfl ?_);simp only[or_self,Qs,Qt,Qu,Qv,Qw,Qx,Qy,Qz,Za,go_sem])
theorem Yps (h:Env gp) {g:Gr} (hg:Tdy g):Does QP gp 77 [g.v] (.tup [.one (.d (.sl (Xaf (Xja g)))),vi 0]):=by
 have hz:Yi9 (Xfq g.l.length [])<=200:=by
  have:=List.countP_le_length (p:=fun x:Int=>decide (¬ 0 < x)) (l:=Xfq g.l.length [])
  rw[Xek] at this
  exact Nat.le_trans this hg.good.len
 have hcall:=Wf9 (gp:=gp) hg 200 1 g.root (Xfq g.l.length []) hz (by omega) (by omega) (Xek _ _) hg.good.root
 have hd:Xp1 (kd g) 1 [g.root] (Xfq g.l.length [])=Xja g:=by rw[Yhf,hg.root];rfl
 rw[hd] at hcall
 refine Wtk ?_
 simp only[go_sem]
 repeat' first|refine Kn rfl ?_|((first|refine Ka ?_|refine Kb ?_|refine Kv ?_|refine Ke ?_);simp only[Xfa,go_sem])|refine Kf ?_|refine Kg ?_|apply Kp<;>intro _|((first|refine Kh ?_|refine Ki rfl ?_);simp only[Xfa,or_self,Qs,Qt,Qu,Qv,Qw,Qx,Qy,Qz,Za,go_sem])
 refine Xfk 9 ?_
 simp only[go_sem]
 repeat' first|refine Kn rfl ?_|((first|refine Ka ?_|refine Kb ?_|refine Kv ?_|refine Ke ?_);simp only[Xiu,Xfa,go_sem])|refine Kf ?_|refine Kg ?_|apply Kp<;>intro _|((first|refine Kh ?_|refine Ki rfl ?_);simp only[Xiu,Xfa,or_self,Qs,Qt,Qu,Qv,Qw,Qx,Qy,Qz,Za,go_sem])
 refine Or.inr ⟨[],.tup [.one (.ptr 1 0),vi 0],[.row 1 0 (Xaf (Xfq g.l.length [])),ctC g],(by simp only[Xaw,Xcv,rnV,rnA,Xc1,rn0,Xc0,Xbz,Xcx,rnC,Xaj,List.isEmpty_nil,reduceCtorEq,↓reduceIte,Qa,Qb,Qc,Qd,Qe,Qf,Qg,Qh,Qi,Qj,Qk,Ql,Qm,Qn,Qo,Qp,Qq,Qr];simp only[go_sem];exact⟨Ygt,Xuj h hg⟩),Kg ?_⟩
 simp only[go_sem]
 repeat' first|refine Kn rfl ?_|((first|refine Ka ?_|refine Kb ?_|refine Kv ?_|refine Ke ?_);simp only[Xiu,Xfa,go_sem])|refine Kf ?_|refine Kg ?_|apply Kp<;>intro _|((first|refine Kh ?_|refine Ki rfl ?_);simp only[Xiu,Xfa,or_self,Qs,Qt,Qu,Qv,Qw,Qx,Qy,Qz,Za,go_sem])
 refine Or.inr (Or.inr ⟨[0,1,3,4],.tup [],[.row 1 0 (Xaf (Xja g)),ctC g,Wf7,.cells [Wf8]],(by simp only[Xaw,Xcv,rnV,rnA,Xc1,rn0,Xc0,Xbz,Xcx,rnC,Xaj,List.isEmpty_nil,reduceCtorEq,↓reduceIte,Qa,Qb,Qc,Qd,Qe,Qf,Qg,Qh,Qi,Qj,Qk,Ql,Qm,Qn,Qo,Qp,Qq,Qr];simp only[go_sem];exact⟨Yg3,hcall⟩),Kg ?_⟩)
 simp only[go_sem]
 repeat' first|refine Kn rfl ?_|((first|refine Ka ?_|refine Kb ?_|refine Kv ?_|refine Ke ?_);simp only[Xiu,go_sem])|refine Kf ?_|refine Kg ?_|apply Kp<;>intro _|((first|refine Kh ?_|refine Ki rfl ?_);simp only[Xiu,or_self,Qs,Qt,Qu,Qv,Qw,Qx,Qy,Qz,Za,go_sem])
 refine Xa6 0 ?_
 simp only[go_sem]
 repeat' first|refine Kn rfl ?_|((first|refine Ka ?_|refine Kb ?_|refine Kv ?_|refine Ke ?_);simp only[Xiu,Xfa,go_sem])|refine Kf ?_|refine Kg ?_|apply Kp<;>intro _|((first|refine Kh ?_|refine Ki rfl ?_);simp only[Xiu,Xfa,or_self,Qs,Qt,Qu,Qv,Qw,Qx,Qy,Qz,Za,go_sem])
 all_goals trace_state
noncomputable def Wz7 (g:Gr) (t:Bool):Gr:=if t=true/\chk g.cut=none then Xau g.cut else g.cut
end Go.Fw.L07
