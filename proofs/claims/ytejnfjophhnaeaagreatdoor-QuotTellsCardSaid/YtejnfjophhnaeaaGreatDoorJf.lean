/- Chapter 10,plain: which nodes say the same,by definition. -/
import Derived.Test.YtejnfjophhnaeaaGreatDoorJa
import Derived.Test.YtejnfjophhnaeaaGreatDoorVy
import Derived.Test.YtejnfjophhnaeaaGreatDoorIa
import Derived.Test.YtejnfjophhnaeaaGreatDoorL07L10Mini
import Derived.Test.YtejnfjophhnaeaaGreatDoorVa
import Derived.Test.YtejnfjophhnaeaaGreatDoorJc
set_option linter.all false
namespace Go.Fw.L07
open Go Go.Fw
open Go.Fw.Sh renaming intro->Kg
open Go.Fw renaming Xhj->Ka,Xev->Kb,Xhm->Kv,Xew->Ke,Xex->Kf,Xhl->Kh,Xhk->Ki,Yss->Kj,Xdt->Kt,Xmi->Kk,Xfn->Ku,Xdr->Kl,Xfh->Km,Gx->Kn,Gw->Ko
open Int renaming natCast_nonneg->Kq
open And renaming intro->Kp
open Go.Fw.V.one renaming injEq->Qs
open Go.Fw.V.agg renaming injEq->Qt
open Go.Fw.V.tup renaming injEq->Qu
open Go.Fw.A.d renaming injEq->Qv
open Go.Fw.D.bool renaming injEq->Qw
open Go.Fw.D.int renaming injEq->Qx
open Go.Fw.D.str renaming injEq->Qy
open Go.Fw.D.sl renaming injEq->Qz
open List.cons renaming injEq->Za
set_option maxRecDepth 4000
def mAt (M:List (List Bool)) (i j:Nat):Bool:=(((M[i]?).getD [])[j]?).getD false
def X1q (l:List Nd):List (List Bool):=(List.range l.length).map fun i=>(List.range l.length).map fun j=>Xok (Xau l (i:Nat)) (Xau l (j:Nat))
def Xsp (l:List Nd):List (List Bool):=(List.range l.length).map fun i=>(List.range l.length).map fun j=>decide ((Xaz l)[i]?=(Xaz l)[j]?)
def X1r (M:List (List Bool)) (i j:Nat):List (List Bool):=M.set i (((M[i]?).getD []).set j false)
def Yrz (M:List (List Bool)):Nat:=(M.map fun r=>r.count true).sum
theorem Yih (M:List (List Bool)) (i j a b:Nat):mAt (X1r M i j) a b=if a=i/\b=j then false else mAt M a b:=by
 unfold mAt X1r
 rw[List.getElem?_set]
 by_cases ha:i=a
 ·subst ha
  rw[if_pos rfl]
  by_cases hl:i < M.length
  ·rw[if_pos hl]
   simp only[Option.getD_some,true_and]
   rw[List.getElem?_set]
   by_cases hb:j=b
   ·subst hb;rw[if_pos rfl,if_pos rfl];split <;> rfl
   ·rw[if_neg hb,if_neg (Ne.symm hb)]
  ·rw[if_neg hl,List.getElem?_eq_none (show M.length<=i by omega)]
   simp
 ·rw[if_neg ha,if_neg (fun h=>ha h.1.symm)]
theorem count_set:∀ {r:List Bool} {j:Nat},r[j]?=some true->(r.set j false).count true+1=r.count true
 | [],_,h=>by simp at h
 | a::r,0,h=>by simp at h;subst h;simp
 | a::r,j+1,h=>by
  have ih:=count_set (r:=r) (j:=j) (by simpa using h)
  simp only[List.set_cons_succ,List.count_cons]
  omega
theorem Yii:∀ {M:List (List Bool)} {i j:Nat},mAt M i j=true->Yrz (X1r M i j) < Yrz M
 | [],i,j,h=>by simp[mAt] at h
 | r::M,0,j,h=>by
  have h1:r[j]?=some true:=by
   simp[mAt] at h
   cases e:r[j]? with
   | none=>rw[e] at h;cases h
   | some b=>rw[e] at h;simp at h;rw[h]
  have:=count_set h1
  simp[Yrz,X1r];omega
 | r::M,i+1,j,h=>by
  have:=Yii (M:=M) (i:=i) (j:=j) (by simpa [mAt] using h)
  simp only[Yrz,X1r,List.getElem?_cons_succ,List.set_cons_succ,List.map_cons,List.sum_cons] at this ⊢
  omega
structure GrI (l:List Nd) (M:List (List Bool)):Prop where
 len:M.length=l.length
 row:∀ r∈M,r.length=l.length
 fit:∀ i j:Nat,mAt M i j=true->Xok (Xau l i) (Xau l j)=true
 sim:∀ i j:Nat,Sim l l i j->mAt M i j=true
theorem Yij (l:List Nd) (i j:Nat):mAt (X1q l) i j=(decide (i < l.length) && (decide (j < l.length) && Xok (Xau l i) (Xau l j))):=by
 unfold mAt X1q
 rw[List.getElem?_map]
 by_cases hi:i < l.length
 ·rw[List.getElem?_range hi]
  simp only[Option.map_some,Option.getD_some]
  rw[List.getElem?_map]
  by_cases hj:j < l.length
  ·rw[List.getElem?_range hj];simp[hi,hj]
  ·rw[List.getElem?_eq_none (show (List.range l.length).length<=j by simpa using hj)];simp[hj]
 ·rw[List.getElem?_eq_none (show (List.range l.length).length<=i by simpa using hi)];simp[hi]
theorem GrI.first {l:List Nd}:GrI l (X1q l):=by
 refine⟨by simp[X1q],fun r hr=>?_,fun i j h=>?_,fun i j h=>?_⟩
 ·obtain⟨i,_,rfl⟩:=List.mem_map.1 hr
  simp
 ·rw[Yij] at h
  simp only[Bool.and_eq_true] at h
  exact h.2.2
 ·have h1:=h.inn
  unfold inL at h1
  rw[Yij,h.fit,decide_eq_true (by omega),decide_eq_true (by omega)]
  rfl
theorem GrI.set {l:List Nd} {M:List (List Bool)} (h:GrI l M) {i j k:Nat} {p q:Int} (hp:(kdL l i)[k]?=some p) (hq:(kdL l j)[k]?=some q) (hm:mAt M p.toNat q.toNat=false):GrI l (X1r M i j):=by
 refine⟨by simp[X1r,h.len],fun r hr=>?_,fun a b hab=>?_,fun a b hab=>?_⟩
 ·unfold X1r at hr
  by_cases hi:i < M.length
  ·rcases List.mem_or_eq_of_mem_set hr with hr|rfl
   ·exact h.row r hr
   ·rw[List.length_set]
    exact h.row _ (by rw[List.getElem?_eq_getElem hi];exact List.getElem_mem hi)
  ·rw[List.set_eq_of_length_le (by omega)] at hr
   exact h.row r hr
 ·rw[Yih] at hab
  split at hab
  ·cases hab
  ·exact h.fit a b hab
 ·rw[Yih,if_neg]
  ·exact h.sim a b hab
  ·rintro⟨rfl,rfl⟩
   have h1:=hab.kid hp hq
   have h2:=h1.inn
   unfold inL at h2
   have:=h.sim p.toNat q.toNat (by rw[Int.toNat_of_nonneg h2.1.1,Int.toNat_of_nonneg h2.2.1];exact h1)
   rw[hm] at this;cases this
theorem GrI.done {l:List Nd} (hl:Fine l) {M:List (List Bool)} (h:GrI l M) (hk:∀ (i j:Nat),i < l.length->j < l.length->mAt M i j=true->∀ (k:Nat) (p q:Int),(kdL l i)[k]?=some p->(kdL l j)[k]?=some q->mAt M p.toNat q.toNat=true):M=Xsp l:=by
 have key:∀ i j:Nat,i < l.length->j < l.length->(mAt M i j=true↔Sim l l i j):=fun i j hi hj=>by
  refine⟨fun hm=>?_,h.sim i j⟩
  refine⟨fun a b=>inL l a/\inL l b/\mAt M a.toNat b.toNat=true,⟨fun a b r=>⟨r.1,r.2.1⟩,fun a b r=>?_,fun a b r n p q hp hq=>?_⟩,by unfold inL;omega,by unfold inL;omega,by simpa using hm⟩
  ·have:=h.fit _ _ r.2.2
   rwa [Int.toNat_of_nonneg r.1.1,Int.toNat_of_nonneg r.2.1.1] at this
  ·refine⟨hl.kid _ _ (List.mem_of_getElem? hp),hl.kid _ _ (List.mem_of_getElem? hq),?_⟩
   have ha:=r.1
   have hb:=r.2.1
   unfold inL at ha hb
   exact hk a.toNat b.toNat (by omega) (by omega) r.2.2 n p q (by rw[Int.toNat_of_nonneg ha.1];exact hp) (by rw[Int.toNat_of_nonneg hb.1];exact hq)
 refine List.ext_getElem? fun i=>?_
 unfold Xsp
 rw[List.getElem?_map]
 by_cases hi:i < l.length
 ·rw[List.getElem?_range hi,Option.map_some,List.getElem?_eq_getElem (by rw[h.len];exact hi)]
  congr 1
  have hrl:=h.row _ (List.getElem_mem (l:=M) (n:=i) (by rw[h.len];exact hi))
  refine List.ext_getElem? fun j=>?_
  rw[List.getElem?_map]
  by_cases hj:j < l.length
  ·rw[List.getElem?_range hj,Option.map_some,List.getElem?_eq_getElem (by rw[hrl];exact hj)]
   congr 1
   have e:mAt M i j=(M[i]'(by rw[h.len];exact hi))[j]'(by rw[hrl];exact hj):=by
    unfold mAt
    have hiM:i < M.length:=by rw[h.len];exact hi
    have hjM:j < M[i].length:=by rw[hrl];exact hj
    rw[List.getElem?_eq_getElem hiM,Option.getD_some,List.getElem?_eq_getElem hjM,Option.getD_some]
   rw[<- e,Bool.eq_iff_iff,key i j hi hj,decide_eq_true_eq]
   have:=Xp4 hl (a:=(i:Int)) (b:=(j:Int)) (by unfold inL;omega) (by unfold inL;omega)
   rw[Int.toNat_natCast,Int.toNat_natCast] at this
   exact this.symm
  ·rw[List.getElem?_eq_none (show (M[i]'(by rw[h.len];exact hi)).length<=j by omega),List.getElem?_eq_none (show (List.range l.length).length<=j by simpa using hj)];rfl
 ·rw[List.getElem?_eq_none (show M.length<=i by rw[h.len];omega),List.getElem?_eq_none (show (List.range l.length).length<=i by simpa using hi)];rfl
def W6f (l:List Nd) (M:List (List Bool)) (a b:Nat):Prop:=mAt M a b=true->∀ (k:Nat) (p q:Int),(kdL l a)[k]?=some p->(kdL l b)[k]?=some q->mAt M p.toNat q.toNat=true
structure GrP (l:List Nd) (Ms M:List (List Bool)) (ch:Bool) (i j k:Nat):Prop where
 gr:GrI l M
 up:ch=true->Yrz M < Yrz Ms
 sm:ch=false->M=Ms
 old:ch=false->∀ a b:Nat,(a < i\/a=i/\b < j)->a < l.length->b < l.length->W6f l M a b
 now:ch=false->mAt M i j=true->∀ k':Nat,k' < k->∀ p q:Int,(kdL l i)[k']?=some p->(kdL l j)[k']?=some q->mAt M p.toNat q.toNat=true
theorem GrP.first {l:List Nd} {M:List (List Bool)} (h:GrI l M):GrP l M M false 0 0 0 :=
 ⟨h,(fun e=>by cases e),fun _=>rfl,fun _ a b hab=>by omega,fun _ _ k' hk=>by omega⟩
theorem GrP.kgo {l:List Nd} {Ms M:List (List Bool)} {ch:Bool} {i j k:Nat} (h:GrP l Ms M ch i j k) {p q:Int} (hp:(kdL l i)[k]?=some p) (hq:(kdL l j)[k]?=some q) (hm:mAt M p.toNat q.toNat=true):GrP l Ms M ch i j (k+1) :=
 ⟨h.gr,h.up,h.sm,h.old,fun e hij k' hk' p' q' hp' hq'=>by
  by_cases e2:k'=k
  ·subst e2;rw[hp] at hp';rw[hq] at hq';cases hp';cases hq';exact hm
  ·exact h.now e hij k' (by omega) p' q' hp' hq'⟩
theorem GrP.kcut {l:List Nd} {Ms M:List (List Bool)} {ch:Bool} {i j k:Nat} (h:GrP l Ms M ch i j k) (hij:mAt M i j=true) {p q:Int} (hp:(kdL l i)[k]?=some p) (hq:(kdL l j)[k]?=some q) (hm:mAt M p.toNat q.toNat=false):GrP l Ms (X1r M i j) true i j (k+1):=by
 have h1:=Yii hij
 refine⟨h.gr.set hp hq hm,fun _=>?_,(fun e=>by cases e),(fun e=>by cases e),(fun e=>by cases e)⟩
 cases ch with
 | true=>have:=h.up rfl;omega
 | false=>rw[<- h.sm rfl];exact h1
theorem GrP.jgo {l:List Nd} {Ms M:List (List Bool)} {ch:Bool} {i j k:Nat} (h:GrP l Ms M ch i j k) (hs:(kdL l i).length<=k\/mAt M i j=false):GrP l Ms M ch i (j+1) 0 :=
 ⟨h.gr,h.up,h.sm,fun e a b hab ha hb=>by
  by_cases e2:a=i/\b=j
  ·obtain⟨rfl,rfl⟩:=e2
   intro hm k' p q hp hq
   rcases hs with hs|hs
   ·exact h.now e hm k' (by have:=(List.getElem?_eq_some_iff.1 hp).1;omega) p q hp hq
   ·rw[hs] at hm;cases hm
  ·exact h.old e a b (by omega) ha hb,fun _ _ k' hk=>by omega⟩
theorem GrP.igo {l:List Nd} {Ms M:List (List Bool)} {ch:Bool} {i j:Nat} (h:GrP l Ms M ch i j 0) (hj:l.length<=j):GrP l Ms M ch (i+1) 0 0 :=
 ⟨h.gr,h.up,h.sm,fun e a b hab ha hb=>h.old e a b (by omega) ha hb,fun _ _ k' hk=>by omega⟩
theorem GrP.fin {l:List Nd} (hl:Fine l) {Ms M:List (List Bool)} {i:Nat} (h:GrP l Ms M false i 0 0) (hi:l.length<=i):M=Xsp l :=
 h.gr.done hl fun a b ha hb=>h.old rfl a b (by omega) ha hb
open Go.Proofs.Tryz renaming prog->QP
variable {gp:Xal}
abbrev Xgn (vs:List Value):List (List D):=vs.map fun v=>[D.raw v]
def Xfd (vs:List Value) (M:List (List Bool)):List (Option (Value × List (List D))):=List.zipWith (fun r v=>some (v,bls r)) M vs
def Xkx (vs:List Value) (a:Nat):List (List A):=((Xgn vs).map fun x=>x.map A.d).set a [.own 3 0]
def Xjf (M:List (List Bool)):List (List D):=M.map fun r=>[D.sl (bls r)]
def Xei (g:Gr) (i:Nat):List (List D):=(List.range i).map fun j=>[D.sl (Xag (kd g (j:Nat)))]
def Yj0 (l:List Nd) (i j:Nat):List Bool:=(List.range j).map fun b=>Xok (Xau l (i:Nat)) (Xau l (b:Nat))
theorem Xsf {α β γ:Type} (f:α->β->γ):∀ {l:List α} {vs:List β} {x:α} {v:β},l[vs.length]?=some x->List.zipWith f l vs++[f x v]=List.zipWith f l (vs++[v])
 | a::l,[],x,v,h=>by simp at h;subst h;simp
 | [],[],x,v,h=>by simp at h
 | a::l,b::vs,x,v,h=>by
  have ih:=Xsf f (l:=l) (vs:=vs) (x:=x) (v:=v) (by simpa using h)
  simp only[List.zipWith_cons_cons,List.cons_append,ih]
 | [],b::vs,x,v,h=>by simp at h
theorem X1e (g:Gr) (i:Nat):Xei g i++[[D.sl (Xag (kd g (i:Nat)))]]=Xei g (i+1):=by simp[Xei,List.range_succ]
theorem Xjg (g:Gr) {i n:Nat} (h:i < n):(Xei g n)[i]?=some [D.sl (Xag (kd g (i:Nat)))]:=by simp[Xei,List.getElem?_map,List.getElem?_range h]
theorem Xsg (g:Gr) (n:Nat):(Xei g n).length=n:=by simp[Xei]
theorem Yik (l:List Nd) (i j:Nat):bls (Yj0 l i j)++[[D.bool (Xok (Xau l (i:Nat)) (Xau l (j:Nat)))]]=bls (Yj0 l i (j+1)):=by simp[Yj0,List.range_succ]
theorem Xzy (l:List Nd) (i j:Nat):(Yj0 l i j).length=j:=by simp[Yj0]
theorem Yr0 (l:List Nd) {i:Nat} (h:i < l.length):(X1q l)[i]?=some (Yj0 l i l.length):=by unfold X1q Yj0;rw[List.getElem?_map,List.getElem?_range h];rfl
theorem Yil {S:Sx} {m:MI} {l K:List MI} {s:St} (hl:l=K) (h:∀ K',K'=K->G S (m::K') s):G S (m::l) s:=h l hl
section
variable {S:Sx} {k:List MI} {fr fr':List V} {vs:List Value} {M:List (List Bool)} {a n:Nat} {r:List Bool}
theorem Xsh {v:Value} (hv:vs[a]?=some v) (hr:M[a]?=some r):(Xfd vs M)[a]?=some (some (v,bls r)):=by unfold Xfd;rw[List.getElem?_zipWith,hr,hv]
theorem Xjh (h:a < vs.length):(Xkx vs a)[a]?=some [.own 3 0]:=by
 unfold Xkx
 rw[List.getElem?_set,if_pos rfl,if_pos (by simpa using h)]
theorem Xng:(Xkx vs a).length=vs.length:=by simp[Xkx]
theorem Yim (ha:a < vs.length) (hr:M[a]?=some r) (h:G S k ⟨fr,[.dead,.rowA 1 n (Xkx vs a),.pool 1 ((Xfd vs M).set a none),.row 1 0 (bls r)]⟩):G S k ⟨fr,[.dead,.row 1 n (Xgn vs),.pool 1 (Xfd vs M)]⟩:=by
 obtain⟨v,hv⟩:=Xai ha
 refine W4b 1 (xs:=Xgn vs) rfl (fun e=>by have:=congrArg List.length e;simp at this;subst this;simp at ha) ?_
 exact Woc 1 a 0 2 a (x:=[.d (.raw v)]) (xs:=(Xgn vs).map fun (x:List D)=>x.map A.d) (sz:=1) (rz:=1) (rv:=n) rfl (by rw[List.getElem?_map,List.getElem?_map,hv];rfl) rfl rfl (Xsh hv hr) h
theorem Yin (r':List Bool) (hl:vs.length=M.length) (ha:a < vs.length) (hw:Xrc fr fr') (hrf:(fr'.all fun v=>Xnq 3 v.refsT)=true) (hnp:S.np<=3)
  (h:∀ v',G S k ⟨fr',[.dead,.row 1 n (Xgn (vs.set a v')),.pool 1 (Xfd (vs.set a v') (M.set a r'))]⟩):G S k ⟨fr,[.dead,.rowA 1 n (Xkx vs a),.pool 1 ((Xfd vs M).set a none),.row 1 0 (bls r')]⟩:=by
 have hgl:(Xfd vs M).length=vs.length:=by unfold Xfd;rw[List.length_zipWith];omega
 refine Kj fr' hw ?_
 refine Wob 1 a 0 3 2 a (x:=[.own 3 0]) (xs:=Xkx vs a) (L:=(Xfd vs M).set a none) rfl (Xjh ha) rfl rfl rfl (by rw[List.getElem?_set,if_pos rfl,if_pos (by omega)]) fun v'=>?_
 have e1:(Xkx vs a).set a [.d (.raw v')]=(Xgn (vs.set a v')).map fun x=>x.map A.d:=by
  unfold Xkx
  rw[List.set_set,Xgn,Xgn,List.map_set,List.map_set];rfl
 have e2:((Xfd vs M).set a none).set a (some (v',bls r'))=Xfd (vs.set a v') (M.set a r'):=by
  rw[List.set_set]
  unfold Xfd
  refine List.ext_getElem? fun i=>?_
  rw[List.getElem?_zipWith,List.getElem?_set,List.getElem?_set,List.getElem?_set,List.length_zipWith,List.getElem?_zipWith]
  by_cases e:a=i
  ·subst e
   rw[if_pos rfl,if_pos rfl,if_pos rfl,if_pos (by omega),if_pos (by omega),if_pos (by omega)]
  ·rw[if_neg e,if_neg e,if_neg e]
 refine W4c 1 (xs:=Xgn (vs.set a v')) (ver:=n) (sz:=1) (by rw[<- e1];rfl) ?_
 refine Kk 3 hnp hrf (by rfl) ?_
 have:=h v'
 rw[<- e2] at this
 exact this
end
theorem Yio {vs:List Value} {M:List (List Bool)} {n:Nat} (hv:vs.length=n) (hm:M.length=n):Wod (Xfd vs M) (Xgn vs) (Xjf M):=by
 refine⟨by simp[Xjf];omega,fun i x' hx'=>?_⟩
 unfold Xjf at hx'
 rw[List.getElem?_map] at hx'
 cases e:M[i]? with
 | none=>rw[e] at hx';cases hx'
 | some r =>
  rw[e] at hx';cases hx'
  obtain⟨v,hvi⟩:=Xai (l:=vs) (i:=i) (by have:=(List.getElem?_eq_some_iff.1 e).1;omega)
  refine⟨[.raw v],by rw[List.getElem?_map,hvi];rfl,rfl,fun j y' hy'=>?_⟩
  match j,hy' with
  | 0,h=>cases h;exact⟨_,rfl,.inr ⟨i,v,_,Xsh hvi e,rfl,rfl⟩⟩
set_option maxHeartbeats 4000000 in
theorem W0q (g:Gr) (hG:Good g) (hs:Xc7 g) (hF:Fine g.l) (hn:g.l.length<=1000):Xak QP gp 40 [g.v] (.one (.d (.sl (Xjf (Xsp g.l))))):=by
 refine Wzd ?_
 simp only[go_sem]
 repeat' first|refine Kn rfl ?_|((first|refine Ka ?_|refine Kb ?_|refine Kv ?_|refine Ke ?_);simp only[go_sem])|refine Kf ?_|refine Kg ?_|(apply Kp<;>intro _<;>try (exfalso;omega))|((first|refine Kh ?_|refine Ki rfl ?_);simp only[or_self,Qs,Qt,Qu,Qv,Qw,Qx,Qy,Qz,Za,go_sem])
 refine Xds 4 1 (by decide) rfl ?_
 simp only[go_sem]
 refine Xds 5 1 (by decide) rfl ?_
 simp only[go_sem]
 refine Y2x 1 ?_
 simp only[go_sem]
 refine Kt (fr 106 [(1,.one (.d (.bx [.int .i64 g.root,.sl (nds g.l)]))),(3,vi g.l.length),(4,.one (.own 0 0)),(5,.one (.own 1 0)),(6,vi ((0:Nat):Int))]) ?_
 refine Km (fun mz sz=>∃ (i:Nat) (vs:List Value),i<=g.l.length/\mz=g.l.length - i/\vs.length=i/\sz=⟨fr 106 [(1,.one (.d (.bx [.int .i64 g.root,.sl (nds g.l)]))),(3,vi g.l.length),(4,.one (.own 0 i)),(5,.one (.own 1 i)),(6,vi (i:Int))],[.row 1 i (Xei g i),.row 1 i (Xgn vs),.pool 1 (Xfd vs (X1q g.l))]⟩) g.l.length ⟨0,[],Nat.zero_le _,rfl,rfl,by simp[Xei,Xfd]⟩ ?_
 rintro _ _ ⟨i,vs,hi,rfl,hvs,rfl⟩
 simp only[go_sem]
 by_cases hil:i < g.l.length
 ·have e1:decide ((i:Int) < (g.l.length:Int))=true:=decide_eq_true (by omega)
  have k1:Xak QP gp 47 [g.v,vi (i:Int)] (.tup [.one (.d (.sl (Xag (kd g (i:Int))))),vi (atE g.l (i:Int))]):=Yif (gp:=gp) g i hs
  repeat' first|refine Kn rfl ?_|((first|refine Ka ?_|refine Kb ?_|refine Kv ?_|refine Ke ?_);simp only[e1,go_sem])|refine Kf ?_|refine Kg ?_|refine⟨_,k1,Kg ?_⟩|refine⟨_,⟨k1,rfl⟩,Kg ?_⟩|(apply Kp<;>intro _<;>try (exfalso;omega))|((first|refine Kh ?_|refine Ki rfl ?_);simp only[e1,or_self,Qs,Qt,Qu,Qv,Qw,Qx,Qy,Qz,Za,go_sem])
  refine⟨by simp,by rw[Xsg];omega,by rw[Xsg];unfold Xac;omega,?_⟩
  rw[X1e]
  repeat' first|refine Kn rfl ?_|((first|refine Ka ?_|refine Kb ?_|refine Kv ?_|refine Ke ?_);simp only[e1,go_sem])|refine Kf ?_|refine Kg ?_|refine⟨_,k1,Kg ?_⟩|refine⟨_,⟨k1,rfl⟩,Kg ?_⟩|(apply Kp<;>intro _<;>try (exfalso;omega))|((first|refine Kh ?_|refine Ki rfl ?_);simp only[e1,or_self,Qs,Qt,Qu,Qv,Qw,Qx,Qy,Qz,Za,go_sem])
  refine Xds 9 1 (by decide) rfl ?_
  simp only[go_sem]
  refine Kt (fr 106 [(1,.one (.d (.bx [.int .i64 g.root,.sl (nds g.l)]))),(3,vi g.l.length),(4,.one (.own 0 (i+1))),(5,.one (.own 1 i)),(6,vi (i:Int)),(9,.one (.own 3 0)),(10,vi ((0:Nat):Int))]) ?_
  refine Km (fun mz sz=>∃ j:Nat,j<=g.l.length/\mz=g.l.length - j/\sz=⟨fr 106 [(1,.one (.d (.bx [.int .i64 g.root,.sl (nds g.l)]))),(3,vi g.l.length),(4,.one (.own 0 (i+1))),(5,.one (.own 1 i)),(6,vi (i:Int)),(9,.one (.own 3 j)),(10,vi (j:Int))],[.row 1 (i+1) (Xei g (i+1)),.row 1 i (Xgn vs),.pool 1 (Xfd vs (X1q g.l)),.row 1 j (bls (Yj0 g.l i j))]⟩) g.l.length ⟨0,Nat.zero_le _,rfl,by simp[Yj0]⟩ ?_
  rintro _ _ ⟨j,hj,rfl,rfl⟩
  simp only[go_sem]
  by_cases hjl:j < g.l.length
  ·have e2:decide ((j:Int) < (g.l.length:Int))=true:=decide_eq_true (by omega)
   have f1:Xak QP gp 22 [g.v,vi (i:Int),g.v,vi (j:Int)] (vb (Xok (Xau g.l (i:Nat)) (Xau g.l (j:Nat)))):=W7y (gp:=gp) g g i j hs hs hil hjl
   repeat' first|refine Kn rfl ?_|((first|refine Ka ?_|refine Kb ?_|refine Kv ?_|refine Ke ?_);simp only[e2,go_sem])|refine Kf ?_|refine Kg ?_|refine⟨_,f1,Kg ?_⟩|refine⟨_,⟨f1,rfl⟩,Kg ?_⟩|(apply Kp<;>intro _<;>try (exfalso;omega))|((first|refine Kh ?_|refine Ki rfl ?_);simp only[e2,or_self,Qs,Qt,Qu,Qv,Qw,Qx,Qy,Qz,Za,go_sem])
   refine⟨by simp,by rw[Xzy];omega,by rw[Xzy];unfold Xac;omega,?_⟩
   rw[Yik]
   repeat' first|refine Kn rfl ?_|((first|refine Ka ?_|refine Kb ?_|refine Kv ?_|refine Ke ?_);simp only[e2,go_sem])|refine Kf ?_|refine Kg ?_|(apply Kp<;>intro _<;>try (exfalso;omega))|((first|refine Kh ?_|refine Ki rfl ?_);simp only[e2,or_self,Qs,Qt,Qu,Qv,Qw,Qx,Qy,Qz,Za,go_sem])
   refine⟨Xah hjl (by unfold Xac;omega),?_⟩
   refine Kt (fr 106 [(1,.one (.d (.bx [.int .i64 g.root,.sl (nds g.l)]))),(3,vi g.l.length),(4,.one (.own 0 (i+1))),(5,.one (.own 1 i)),(6,vi (i:Int)),(9,.one (.own 3 (j+1))),(10,vi (j+1))]) ?_
   exact Kl ⟨g.l.length - (j+1),by omega,j+1,by omega,rfl,rfl⟩
  ·obtain rfl:j=g.l.length:=by omega
   have e2:decide ((g.l.length:Int) < (g.l.length:Int))=false:=decide_eq_false (by omega)
   repeat' first|refine Ko rfl ?_|((first|refine Ka ?_|refine Kb ?_|refine Kv ?_|refine Ke ?_);simp only[e2,go_sem])|refine Kf ?_|refine Kg ?_|(apply Kp<;>intro _<;>try (exfalso;omega))|((first|refine Kh ?_|refine Ki rfl ?_);simp only[e2,or_self,Qs,Qt,Qu,Qv,Qw,Qx,Qy,Qz,Za,go_sem])
   refine Xc1 rfl ?_
   refine W4d 9 3 2 rfl rfl rfl fun v=>?_
   simp only[go_sem]
   repeat' first|refine Kn rfl ?_|((first|refine Ka ?_|refine Kb ?_|refine Kv ?_|refine Ke ?_);simp only[e2,go_sem])|refine Kf ?_|refine Kg ?_|(apply Kp<;>intro _<;>try (exfalso;omega))|((first|refine Kh ?_|refine Ki rfl ?_);simp only[e2,or_self,Qs,Qt,Qu,Qv,Qw,Qx,Qy,Qz,Za,go_sem])
   subst hvs
   refine⟨by simp,by omega,by unfold Xac;omega,?_⟩
   rw[show Xgn vs++[[.raw v]]=Xgn (vs++[v]) from by simp,show Xfd vs (X1q g.l)++[some (v,bls (Yj0 g.l vs.length g.l.length))]=Xfd (vs++[v]) (X1q g.l) from Xsf (fun (r:List Bool) (v:Value)=>(some (v,bls r):Option (Value × List (List D)))) (Yr0 g.l hil)]
   repeat' first|refine Kn rfl ?_|((first|refine Ka ?_|refine Kb ?_|refine Kv ?_|refine Ke ?_);simp only[go_sem])|refine Kf ?_|refine Kg ?_|(apply Kp<;>intro _<;>try (exfalso;omega))|((first|refine Kh ?_|refine Ki rfl ?_);simp only[or_self,Qs,Qt,Qu,Qv,Qw,Qx,Qy,Qz,Za,go_sem])
   refine⟨Xah hil (by unfold Xac;omega),?_⟩
   refine Kt (fr 106 [(1,.one (.d (.bx [.int .i64 g.root,.sl (nds g.l)]))),(3,vi g.l.length),(4,.one (.own 0 (vs.length+1))),(5,.one (.own 1 (vs.length+1))),(6,vi (vs.length+1))]) ?_
   simp only[go_sem]
   refine Ku 3 ?_
   simp only[go_sem]
   exact Kl ⟨g.l.length - (vs.length+1),by omega,vs.length+1,vs++[v],by omega,rfl,by simp,rfl⟩
 ·obtain rfl:i=g.l.length:=by omega
  have e1:decide ((g.l.length:Int) < (g.l.length:Int))=false:=decide_eq_false (by omega)
  repeat' first|refine Ko rfl ?_|((first|refine Ka ?_|refine Kb ?_|refine Kv ?_|refine Ke ?_);simp only[e1,go_sem])|refine Kf ?_|refine Kg ?_|(apply Kp<;>intro _<;>try (exfalso;omega))|((first|refine Kh ?_|refine Ki rfl ?_);simp only[e1,or_self,Qs,Qt,Qu,Qv,Qw,Qx,Qy,Qz,Za,go_sem])
  refine Xc1 rfl ?_
  refine Xar 0 ?_
  simp only[go_sem]
  repeat' first|refine Kn rfl ?_|((first|refine Ka ?_|refine Kb ?_|refine Kv ?_|refine Ke ?_);simp only[go_sem])|refine Kf ?_|refine Kg ?_|(apply Kp<;>intro _<;>try (exfalso;omega))|((first|refine Kh ?_|refine Ki rfl ?_);simp only[or_self,Qs,Qt,Qu,Qv,Qw,Qx,Qy,Qz,Za,go_sem])
  refine Kt (fr 106 [(1,.one (.d (.bx [.int .i64 g.root,.sl (nds g.l)]))),(3,vi g.l.length),(4,.one (.d (.sl (Xei g g.l.length)))),(5,.one (.own 1 g.l.length)),(11,vb true)]) ?_
  refine Km (fun mz sz=>∃ (M':List (List Bool)) (vs':List Value) (ch:Bool),mz=Yrz M'+(if ch=true then 1 else 0)/\vs'.length=g.l.length/\GrI g.l M'/\(ch=false->M'=Xsp g.l)/\sz=⟨fr 106 [(1,.one (.d (.bx [.int .i64 g.root,.sl (nds g.l)]))),(3,vi g.l.length),(4,.one (.d (.sl (Xei g g.l.length)))),(5,.one (.own 1 g.l.length)),(11,vb ch)],[.dead,.row 1 g.l.length (Xgn vs'),.pool 1 (Xfd vs' M')]⟩) (Yrz (X1q g.l)+1) ⟨X1q g.l,vs,true,rfl,hvs,GrI.first,(fun e=>by cases e),rfl⟩ ?_
  rintro _ _ ⟨Ms,vs0,ch,rfl,hv0,hgr,hcl,rfl⟩
  simp only[go_sem]
  cases ch with
  | false =>
   have hMs:=hcl rfl
   subst hMs
   repeat' first|refine Ko rfl ?_|((first|refine Ka ?_|refine Kb ?_|refine Kv ?_|refine Ke ?_);simp only[go_sem])|refine Kf ?_|refine Kg ?_|(apply Kp<;>intro _<;>try (exfalso;omega))|((first|refine Kh ?_|refine Ki rfl ?_);simp only[or_self,Qs,Qt,Qu,Qv,Qw,Qx,Qy,Qz,Za,go_sem])
   refine Xc1 rfl ?_
   refine Woe 1 2 (Xjf (Xsp g.l)) rfl rfl (Yio hv0 hgr.len) ?_
   simp only[go_sem]
   refine Xar 1 ?_
   simp only[go_sem]
   repeat' first|refine Kn rfl ?_|((first|refine Ka ?_|refine Kb ?_|refine Kv ?_|refine Ke ?_);simp only[go_sem])|refine Kf ?_|refine Kg ?_|(apply Kp<;>intro _<;>try (exfalso;omega))|((first|refine Kh ?_|refine Ki rfl ?_);simp only[or_self,Qs,Qt,Qu,Qv,Qw,Qx,Qy,Qz,Za,go_sem])
  | true =>
   repeat' first|refine Kn rfl ?_|((first|refine Ka ?_|refine Kb ?_|refine Kv ?_|refine Ke ?_);simp only[go_sem])|refine Kf ?_|refine Kg ?_|(apply Kp<;>intro _<;>try (exfalso;omega))|((first|refine Kh ?_|refine Ki rfl ?_);simp only[or_self,Qs,Qt,Qu,Qv,Qw,Qx,Qy,Qz,Za,go_sem])
   refine Kt (fr 106 [(1,.one (.d (.bx [.int .i64 g.root,.sl (nds g.l)]))),(3,vi g.l.length),(4,.one (.d (.sl (Xei g g.l.length)))),(5,.one (.own 1 g.l.length)),(11,vb false),(12,vi ((0:Nat):Int))]) ?_
   refine Km (fun mz sz=>∃ (i:Nat) (M':List (List Bool)) (vs':List Value) (c':Bool),i<=g.l.length/\mz=g.l.length - i/\vs'.length=g.l.length/\GrP g.l Ms M' c' i 0 0/\sz=⟨fr 106 [(1,.one (.d (.bx [.int .i64 g.root,.sl (nds g.l)]))),(3,vi g.l.length),(4,.one (.d (.sl (Xei g g.l.length)))),(5,.one (.own 1 g.l.length)),(11,vb c'),(12,vi (i:Int))],[.dead,.row 1 g.l.length (Xgn vs'),.pool 1 (Xfd vs' M')]⟩) g.l.length ⟨0,Ms,vs0,false,Nat.zero_le _,rfl,hv0,GrP.first hgr,rfl⟩ ?_
   rintro _ _ ⟨i,M1,vs1,c1,hi,rfl,hv1,hP1,rfl⟩
   simp only[go_sem]
   by_cases hil:i < g.l.length
   ·have e1:decide ((i:Int) < (g.l.length:Int))=true:=decide_eq_true (by omega)
    repeat' first|refine Kn rfl ?_|((first|refine Ka ?_|refine Kb ?_|refine Kv ?_|refine Ke ?_);simp only[e1,go_sem])|refine Kf ?_|refine Kg ?_|(apply Kp<;>intro _<;>try (exfalso;omega))|((first|refine Kh ?_|refine Ki rfl ?_);simp only[e1,or_self,Qs,Qt,Qu,Qv,Qw,Qx,Qy,Qz,Za,go_sem])
    refine Kt (fr 106 [(1,.one (.d (.bx [.int .i64 g.root,.sl (nds g.l)]))),(3,vi g.l.length),(4,.one (.d (.sl (Xei g g.l.length)))),(5,.one (.own 1 g.l.length)),(11,vb c1),(12,vi (i:Int)),(13,vi ((0:Nat):Int))]) ?_
    refine Km (fun mz sz=>∃ (j:Nat) (M':List (List Bool)) (vs':List Value) (c':Bool),j<=g.l.length/\mz=g.l.length - j/\vs'.length=g.l.length/\GrP g.l Ms M' c' i j 0/\sz=⟨fr 106 [(1,.one (.d (.bx [.int .i64 g.root,.sl (nds g.l)]))),(3,vi g.l.length),(4,.one (.d (.sl (Xei g g.l.length)))),(5,.one (.own 1 g.l.length)),(11,vb c'),(12,vi (i:Int)),(13,vi (j:Int))],[.dead,.row 1 g.l.length (Xgn vs'),.pool 1 (Xfd vs' M')]⟩) g.l.length ⟨0,M1,vs1,c1,Nat.zero_le _,rfl,hv1,hP1,rfl⟩ ?_
    rintro _ _ ⟨j,M2,vs2,c2,hj,rfl,hv2,hP2,rfl⟩
    simp only[go_sem]
    by_cases hjl:j < g.l.length
    ·have e2:decide ((j:Int) < (g.l.length:Int))=true:=decide_eq_true (by omega)
     repeat' first|refine Kn rfl ?_|((first|refine Ka ?_|refine Kb ?_|refine Kv ?_|refine Ke ?_);simp only[e2,go_sem])|refine Kf ?_|refine Kg ?_|(apply Kp<;>intro _<;>try (exfalso;omega))|((first|refine Kh ?_|refine Ki rfl ?_);simp only[e2,or_self,Qs,Qt,Qu,Qv,Qw,Qx,Qy,Qz,Za,go_sem])
     refine Kt (fr 106 [(1,.one (.d (.bx [.int .i64 g.root,.sl (nds g.l)]))),(3,vi g.l.length),(4,.one (.d (.sl (Xei g g.l.length)))),(5,.one (.own 1 g.l.length)),(11,vb c2),(12,vi (i:Int)),(13,vi (j:Int)),(14,vi ((0:Nat):Int))]) ?_
     refine Km (fun mz sz=>∃ (k:Nat) (M':List (List Bool)) (vs':List Value) (c':Bool),k<=(kd g (i:Nat)).length/\mz=(kd g (i:Nat)).length - k/\vs'.length=g.l.length/\GrP g.l Ms M' c' i j k/\sz=⟨fr 106 [(1,.one (.d (.bx [.int .i64 g.root,.sl (nds g.l)]))),(3,vi g.l.length),(4,.one (.d (.sl (Xei g g.l.length)))),(5,.one (.own 1 g.l.length)),(11,vb c'),(12,vi (i:Int)),(13,vi (j:Int)),(14,vi (k:Int))],[.dead,.row 1 g.l.length (Xgn vs'),.pool 1 (Xfd vs' M')]⟩) (kd g (i:Nat)).length ⟨0,M2,vs2,c2,Nat.zero_le _,rfl,hv2,hP2,rfl⟩ ?_
     rintro _ _ ⟨k,M3,vs3,c3,hk,rfl,hv3,hP3,rfl⟩
     simp only[go_sem]
     have hMl:=hP3.gr.len
     obtain⟨r,hr⟩:=Xai (l:=M3) (i:=i) (by omega)
     have hrl:=hP3.gr.row r (List.mem_of_getElem? hr)
     obtain⟨b,hb⟩:=Xai (l:=r) (i:=j) (by omega)
     have hmb:mAt M3 i j=b:=by unfold mAt;rw[hr,Option.getD_some,hb];rfl
     have hjr:j < r.length:=by omega
     have hMr:M3.set i r=M3:=Xiq hr
     have hlI:i < (Xkx vs3 i).length:=by rw[Xng];omega
     have hgI:=Xjh (vs:=vs3) (a:=i) (by omega)
     by_cases hkl:k < (kd g (i:Nat)).length
     ·have e3:decide ((k:Int) < ((kd g (i:Nat)).length:Int))=true:=decide_eq_true (by omega)
      refine Yim (a:=i) (by omega) hr ?_
      refine X2y ?_
      refine X2y ?_
      refine Yil rfl fun K hK=>?_
      repeat' first|refine Kn rfl ?_|((first|refine Ka ?_|refine Kb ?_|refine Kv ?_|refine Ke ?_);simp only[e3,go_sem])|refine Kf ?_|refine Kg ?_|refine⟨_,⟨Kq _,Xjg g hil,rfl⟩,Kg ?_⟩|refine⟨Kq _,hlI,_,⟨hgI,of_decide_eq_true rfl⟩,Kg ?_⟩|refine⟨Kq _,hjr,_,⟨Xab hb,of_decide_eq_true rfl⟩,Kg ?_⟩|refine⟨Kq _,hlI,?_⟩|refine⟨_,⟨hgI,of_decide_eq_true rfl⟩,Kg ?_⟩|refine⟨Kq _,hjr,?_⟩|refine⟨_,⟨Xab hb,of_decide_eq_true rfl⟩,Kg ?_⟩|(apply Kp<;>intro _<;>try (exfalso;omega))|((first|refine Kh ?_|refine Ki rfl ?_);simp only[e3,or_self,Qs,Qt,Qu,Qv,Qw,Qx,Qy,Qz,Za,go_sem])
      refine Yin r (by omega) (by omega) (fr':=fr 106 [(1,.one (.d (.bx [.int .i64 g.root,.sl (nds g.l)]))),(3,vi g.l.length),(4,.one (.d (.sl (Xei g g.l.length)))),(5,.one (.own 1 g.l.length)),(11,vb c3),(12,vi (i:Int)),(13,vi (j:Int)),(14,vi (k:Int)),(76,vb b)]) (by (simp only[go_sem];repeat' (first|refine Kp ?_ ?_|exact Or.inl rfl|exact Or.inr rfl|rfl))) (by simp only[go_sem]) (by exact Nat.zero_le _) fun v'=>?_
      rw[hMr]
      subst hK
      have hv4:(vs3.set i v').length=g.l.length:=by rw[List.length_set];exact hv3
      generalize vs3.set i v'=vs4 at hv4 ⊢
      cases b with
      | false =>
       repeat' first|refine Ko rfl ?_|((first|refine Ka ?_|refine Kb ?_|refine Kv ?_|refine Ke ?_);simp only[go_sem])|refine Kf ?_|refine Kg ?_|(apply Kp<;>intro _<;>try (exfalso;omega))|((first|refine Kh ?_|refine Ki rfl ?_);simp only[or_self,Qs,Qt,Qu,Qv,Qw,Qx,Qy,Qz,Za,go_sem])
       refine Xc1 rfl ?_
       repeat' first|refine Kn rfl ?_|((first|refine Ka ?_|refine Kb ?_|refine Kv ?_|refine Ke ?_);simp only[go_sem])|refine Kf ?_|refine Kg ?_|(apply Kp<;>intro _<;>try (exfalso;omega))|((first|refine Kh ?_|refine Ki rfl ?_);simp only[or_self,Qs,Qt,Qu,Qv,Qw,Qx,Qy,Qz,Za,go_sem])
       refine⟨Xah hjl (by unfold Xac;omega),?_⟩
       refine Kt (fr 106 [(1,.one (.d (.bx [.int .i64 g.root,.sl (nds g.l)]))),(3,vi g.l.length),(4,.one (.d (.sl (Xei g g.l.length)))),(5,.one (.own 1 g.l.length)),(11,vb c3),(12,vi (i:Int)),(13,vi (j+1))]) ?_
       exact Kl ⟨g.l.length - (j+1),by omega,j+1,M3,vs4,c3,by omega,rfl,hv4,hP3.jgo (.inr hmb),rfl⟩
      | true =>
       have hfit:=hP3.gr.fit i j hmb
       have hkl2:(kd g (i:Nat)).length=(kd g (j:Nat)).length:=Xzd (g:=g) (h:=g) hG hG (p:=((i:Int),(j:Int))) hfit
       obtain⟨p,hp⟩:=Xai (l:=kd g (i:Nat)) (i:=k) hkl
       obtain⟨q,hq⟩:=Xai (l:=kd g (j:Nat)) (i:=k) (by omega)
       have hpi:=hF.kid _ _ (List.mem_of_getElem? hp)
       have hqi:=hF.kid _ _ (List.mem_of_getElem? hq)
       unfold inL at hpi hqi
       obtain⟨p,rfl⟩:=Int.eq_ofNat_of_zero_le hpi.1
       obtain⟨q,rfl⟩:=Int.eq_ofNat_of_zero_le hqi.1
       obtain⟨r2,hr2⟩:=Xai (l:=M3) (i:=p) (by omega)
       have hrl2:=hP3.gr.row r2 (List.mem_of_getElem? hr2)
       obtain⟨b2,hb2⟩:=Xai (l:=r2) (i:=q) (by omega)
       have hmb2:mAt M3 (p:Int).toNat (q:Int).toNat=b2:=by rw[Int.toNat_natCast,Int.toNat_natCast];unfold mAt;rw[hr2,Option.getD_some,hb2];rfl
       have hqr:q < r2.length:=by omega
       have hMr2:M3.set p r2=M3:=Xiq hr2
       have hlP:p < (Xkx vs4 p).length:=by rw[Xng];omega
       have hgP:=Xjh (vs:=vs4) (a:=p) (by omega)
       repeat' first|refine Kn rfl ?_|(refine Ke ?_;simp only[go_sem])
       refine Yim (a:=p) (by omega) hr2 ?_
       refine Yil rfl fun K hK=>?_
       repeat' first|refine Kn rfl ?_|((first|refine Ka ?_|refine Kb ?_|refine Kv ?_|refine Ke ?_);simp only[go_sem])|refine Kf ?_|refine Kg ?_|refine⟨_,⟨Kq _,Xjg g hil,rfl⟩,Kg ?_⟩|refine⟨_,⟨Kq _,Xjg g hjl,rfl⟩,Kg ?_⟩|refine⟨_,⟨Kq _,Xab hp,rfl⟩,Kg ?_⟩|refine⟨_,⟨Kq _,Xab hq,rfl⟩,Kg ?_⟩|refine⟨Kq _,hlP,_,⟨hgP,of_decide_eq_true rfl⟩,Kg ?_⟩|refine⟨Kq _,hqr,_,⟨Xab hb2,of_decide_eq_true rfl⟩,Kg ?_⟩|refine⟨Kq _,hlP,?_⟩|refine⟨_,⟨hgP,of_decide_eq_true rfl⟩,Kg ?_⟩|refine⟨Kq _,hqr,?_⟩|refine⟨_,⟨Xab hb2,of_decide_eq_true rfl⟩,Kg ?_⟩|(apply Kp<;>intro _<;>try (exfalso;omega))|((first|refine Kh ?_|refine Ki rfl ?_);simp only[or_self,Qs,Qt,Qu,Qv,Qw,Qx,Qy,Qz,Za,go_sem])
       refine Yin r2 (by omega) (by omega) (fr':=fr 106 [(1,.one (.d (.bx [.int .i64 g.root,.sl (nds g.l)]))),(3,vi g.l.length),(4,.one (.d (.sl (Xei g g.l.length)))),(5,.one (.own 1 g.l.length)),(11,vb c3),(12,vi (i:Int)),(13,vi (j:Int)),(14,vi (k:Int)),(98,vb (!b2))]) (by (simp only[go_sem];repeat' (first|refine Kp ?_ ?_|exact Or.inl rfl|exact Or.inr rfl|rfl))) (by simp only[go_sem]) (by exact Nat.zero_le _) fun v'=>?_
       rw[hMr2]
       subst hK
       have hv5:(vs4.set p v').length=g.l.length:=by rw[List.length_set];exact hv4
       generalize vs4.set p v'=vs5 at hv5 ⊢
       have hlI5:i < (Xkx vs5 i).length:=by rw[Xng];omega
       have hgI5:=Xjh (vs:=vs5) (a:=i) (by omega)
       cases b2 with
       | true =>
        repeat' first|refine Kn rfl ?_|((first|refine Ka ?_|refine Kb ?_|refine Kv ?_|refine Ke ?_);simp only[go_sem])|refine Kf ?_|refine Kg ?_|(apply Kp<;>intro _<;>try (exfalso;omega))|((first|refine Kh ?_|refine Ki rfl ?_);simp only[or_self,Qs,Qt,Qu,Qv,Qw,Qx,Qy,Qz,Za,go_sem])
        refine⟨Xah (n:=1000) (by have:=Xm1 hs (i:Nat);omega) (by unfold Xac;omega),?_⟩
        refine Kt (fr 106 [(1,.one (.d (.bx [.int .i64 g.root,.sl (nds g.l)]))),(3,vi g.l.length),(4,.one (.d (.sl (Xei g g.l.length)))),(5,.one (.own 1 g.l.length)),(11,vb c3),(12,vi (i:Int)),(13,vi (j:Int)),(14,vi (k+1))]) ?_
        exact Kl ⟨(kd g (i:Nat)).length - (k+1),by omega,k+1,M3,vs5,c3,by omega,rfl,hv5,hP3.kgo hp hq hmb2,rfl⟩
       | false =>
        repeat' first|refine Kn rfl ?_|(refine Ke ?_;simp only[go_sem])
        refine Yim (a:=i) (by omega) hr ?_
        refine Yil rfl fun K hK=>?_
        repeat' first|refine Kn rfl ?_|((first|refine Ka ?_|refine Kb ?_|refine Kv ?_|refine Ke ?_);simp only[go_sem])|refine Kf ?_|refine Kg ?_|refine⟨Kq _,hlI5,_,⟨hgI5,of_decide_eq_true rfl⟩,Kg ?_⟩|refine⟨Kq _,hjr,_,⟨Xab hb,of_decide_eq_true rfl⟩,Kg ?_⟩|(apply Kp<;>intro _<;>try (exfalso;omega))|((first|refine Kh ?_|refine Ki rfl ?_);simp only[or_self,Qs,Qt,Qu,Qv,Qw,Qx,Qy,Qz,Za,go_sem])
        rw[show (bls r).set j (.bool false::List.drop 1 [.bool true])=bls (r.set j false) from by simp[List.map_set]]
        refine Yin (r.set j false) (by omega) (by omega) (fr':=fr 106 [(1,.one (.d (.bx [.int .i64 g.root,.sl (nds g.l)]))),(3,vi g.l.length),(4,.one (.d (.sl (Xei g g.l.length)))),(5,.one (.own 1 g.l.length)),(11,vb c3),(12,vi (i:Int)),(13,vi (j:Int)),(14,vi (k:Int))]) (by (simp only[go_sem];repeat' (first|refine Kp ?_ ?_|exact Or.inl rfl|exact Or.inr rfl|rfl))) (by simp only[go_sem]) (by exact Nat.zero_le _) fun v'=>?_
        rw[show M3.set i (r.set j false)=X1r M3 i j from by unfold X1r;rw[hr];rfl]
        subst hK
        have hv6:(vs5.set i v').length=g.l.length:=by rw[List.length_set];exact hv5
        generalize vs5.set i v'=vs6 at hv6 ⊢
        repeat' first|refine Kn rfl ?_|((first|refine Ka ?_|refine Kb ?_|refine Kv ?_|refine Ke ?_);simp only[go_sem])|refine Kf ?_|refine Kg ?_|(apply Kp<;>intro _<;>try (exfalso;omega))|((first|refine Kh ?_|refine Ki rfl ?_);simp only[or_self,Qs,Qt,Qu,Qv,Qw,Qx,Qy,Qz,Za,go_sem])
        refine⟨Xah (n:=1000) (by have:=Xm1 hs (i:Nat);omega) (by unfold Xac;omega),?_⟩
        refine Kt (fr 106 [(1,.one (.d (.bx [.int .i64 g.root,.sl (nds g.l)]))),(3,vi g.l.length),(4,.one (.d (.sl (Xei g g.l.length)))),(5,.one (.own 1 g.l.length)),(11,vb true),(12,vi (i:Int)),(13,vi (j:Int)),(14,vi (k+1))]) ?_
        exact Kl ⟨(kd g (i:Nat)).length - (k+1),by omega,k+1,X1r M3 i j,vs6,true,by omega,rfl,hv6,hP3.kcut hmb hp hq hmb2,rfl⟩
     ·obtain rfl:k=(kd g (i:Nat)).length:=by omega
      have e3:decide (((kd g (i:Nat)).length:Int) < ((kd g (i:Nat)).length:Int))=false:=decide_eq_false (by omega)
      repeat' first|refine Ko rfl ?_|((first|refine Ka ?_|refine Kb ?_|refine Kv ?_|refine Ke ?_);simp only[e3,go_sem])|refine Kf ?_|refine Kg ?_|refine⟨_,⟨Kq _,Xjg g hil,rfl⟩,Kg ?_⟩|(apply Kp<;>intro _<;>try (exfalso;omega))|((first|refine Kh ?_|refine Ki rfl ?_);simp only[e3,or_self,Qs,Qt,Qu,Qv,Qw,Qx,Qy,Qz,Za,go_sem])
      refine Xc1 rfl ?_
      repeat' first|refine Kn rfl ?_|((first|refine Ka ?_|refine Kb ?_|refine Kv ?_|refine Ke ?_);simp only[go_sem])|refine Kf ?_|refine Kg ?_|(apply Kp<;>intro _<;>try (exfalso;omega))|((first|refine Kh ?_|refine Ki rfl ?_);simp only[or_self,Qs,Qt,Qu,Qv,Qw,Qx,Qy,Qz,Za,go_sem])
      refine⟨Xah hjl (by unfold Xac;omega),?_⟩
      refine Kt (fr 106 [(1,.one (.d (.bx [.int .i64 g.root,.sl (nds g.l)]))),(3,vi g.l.length),(4,.one (.d (.sl (Xei g g.l.length)))),(5,.one (.own 1 g.l.length)),(11,vb c3),(12,vi (i:Int)),(13,vi (j+1))]) ?_
      exact Kl ⟨g.l.length - (j+1),by omega,j+1,M3,vs3,c3,by omega,rfl,hv3,hP3.jgo (.inl (Nat.le_refl _)),rfl⟩
    ·obtain rfl:j=g.l.length:=by omega
     have e2:decide ((g.l.length:Int) < (g.l.length:Int))=false:=decide_eq_false (by omega)
     repeat' first|refine Ko rfl ?_|((first|refine Ka ?_|refine Kb ?_|refine Kv ?_|refine Ke ?_);simp only[e2,go_sem])|refine Kf ?_|refine Kg ?_|(apply Kp<;>intro _<;>try (exfalso;omega))|((first|refine Kh ?_|refine Ki rfl ?_);simp only[e2,or_self,Qs,Qt,Qu,Qv,Qw,Qx,Qy,Qz,Za,go_sem])
     refine Xc1 rfl ?_
     repeat' first|refine Kn rfl ?_|((first|refine Ka ?_|refine Kb ?_|refine Kv ?_|refine Ke ?_);simp only[go_sem])|refine Kf ?_|refine Kg ?_|(apply Kp<;>intro _<;>try (exfalso;omega))|((first|refine Kh ?_|refine Ki rfl ?_);simp only[or_self,Qs,Qt,Qu,Qv,Qw,Qx,Qy,Qz,Za,go_sem])
     refine⟨Xah hil (by unfold Xac;omega),?_⟩
     refine Kt (fr 106 [(1,.one (.d (.bx [.int .i64 g.root,.sl (nds g.l)]))),(3,vi g.l.length),(4,.one (.d (.sl (Xei g g.l.length)))),(5,.one (.own 1 g.l.length)),(11,vb c2),(12,vi (i+1))]) ?_
     exact Kl ⟨g.l.length - (i+1),by omega,i+1,M2,vs2,c2,by omega,rfl,hv2,hP2.igo (Nat.le_refl _),rfl⟩
   ·obtain rfl:i=g.l.length:=by omega
    have e1:decide ((g.l.length:Int) < (g.l.length:Int))=false:=decide_eq_false (by omega)
    repeat' first|refine Ko rfl ?_|((first|refine Ka ?_|refine Kb ?_|refine Kv ?_|refine Ke ?_);simp only[e1,go_sem])|refine Kf ?_|refine Kg ?_|(apply Kp<;>intro _<;>try (exfalso;omega))|((first|refine Kh ?_|refine Ki rfl ?_);simp only[e1,or_self,Qs,Qt,Qu,Qv,Qw,Qx,Qy,Qz,Za,go_sem])
    refine Xc1 rfl ?_
    repeat' first|refine Kn rfl ?_|((first|refine Ka ?_|refine Kb ?_|refine Kv ?_|refine Ke ?_);simp only[go_sem])|refine Kf ?_|refine Kg ?_|(apply Kp<;>intro _<;>try (exfalso;omega))|((first|refine Kh ?_|refine Ki rfl ?_);simp only[or_self,Qs,Qt,Qu,Qv,Qw,Qx,Qy,Qz,Za,go_sem])
    refine Kt (fr 106 [(1,.one (.d (.bx [.int .i64 g.root,.sl (nds g.l)]))),(3,vi g.l.length),(4,.one (.d (.sl (Xei g g.l.length)))),(5,.one (.own 1 g.l.length)),(11,vb c1)]) ?_
    refine Kl ⟨Yrz M1+(if c1=true then 1 else 0),?_,M1,vs1,c1,rfl,hv1,hP1.gr,fun e=>?_,rfl⟩
    ·cases c1 with
     | true=>have:=hP1.up rfl;simp;omega
     | false=>have:=hP1.sm rfl;subst this;simp
    ·subst e;exact hP1.fin hF (Nat.le_refl _)
theorem Xnh:∀ (l:List Int) (k:Nat),k<=Xeq l k
 | [],k=>Nat.le_refl _
 | c::r,k=>by
  have:=Xnh r (if c < k then k else k+1)
  simp only[Xeq]
  split at this <;> rename_i h <;> simp only[h,if_true,if_false] <;> omega
theorem Xzz:∀ {l:List Int} {k:Nat},X1o l k->∀ z∈l,z < (Xeq l k:Int)
 | [],_,_,z,hz=>by cases hz
 | c::r,k,h,z,hz=>by
  simp only[Xeq]
  have hge:=Xnh r (if c < k then k else k+1)
  rcases List.mem_cons.1 hz with rfl|hz
  ·have:=h.2.1
   split at hge
   ·rename_i hc;rw[if_pos hc];omega
   ·rename_i hc;rw[if_neg hc];omega
  ·exact Xzz h.2.2 z hz
theorem Xqc:∀ {l:List Int} {k:Nat},X1o l k->∀ z:Int,(k:Int)<=z->z < (Xeq l k:Int)->z∈l
 | [],k,_,z,h1,h2=>by simp only[Xeq] at h2;omega
 | c::r,k,h,z,h1,h2=>by
  simp only[Xeq] at h2
  have h3:=h.2.2
  by_cases hc:c < (k:Int)
  ·rw[if_pos hc] at h2 h3
   exact List.mem_cons_of_mem _ (Xqc h3 z h1 h2)
  ·rw[if_neg hc] at h2 h3
   have:=h.2.1
   by_cases hz:z=c
   ·rw[hz];exact List.mem_cons_self
   ·exact List.mem_cons_of_mem _ (Xqc h3 z (by omega) h2)
theorem Xni:∀ {l:List Int} {k:Nat} (i:Nat),X1o l k->X1o (l.take i) k
 | [],_,i,_=>by simp[X1o]
 | c::r,k,0,_=>by simp[X1o]
 | c::r,k,i+1,h=>⟨h.1,h.2.1,Xni i h.2.2⟩
def W0r (l:List Nd) (i:Nat):List Bool:=(List.range l.length).map fun j=>decide ((Xaz l)[i]?=(Xaz l)[j]?)
theorem Yr1 (l:List Nd) {i:Nat} (h:i < l.length):(Xsp l)[i]?=some (W0r l i):=by unfold Xsp W0r;rw[List.getElem?_map,List.getElem?_range h];rfl
theorem Yr2 (l:List Nd) {i j:Nat} (h:j < l.length):(W0r l i)[j]?=some (decide ((Xaz l)[i]?=(Xaz l)[j]?)):=by unfold W0r;rw[List.getElem?_map,List.getElem?_range h];rfl
set_option maxHeartbeats 2000000 in
theorem Xqd (g:Gr) (hs:Xc7 g) (hst:∀ x∈g.l,x.short):Xak QP gp 15 [g.v] (.tup [.one (.d (.sl (Xag (cOf g)))),vi (Xfw g)]):=by
 refine Wyw ?_
 simp only[go_sem]
 have c1:=Yw0 (gp:=gp) g hst
 by_cases hc:chk g=none
 ·have hg:Good g:=⟨hc,hs⟩
  have hgl:=hg.len
  have hCl:=Xd1 hg.fine
  have hord:=Xkd hg.fine
  have c2:=W0q (gp:=gp) g hg hs hg.fine (by omega)
  rw[hc] at c1
  dsimp only [Option.getD_none] at c1
  rw[Xhh hg,Xbv hc]
  repeat' first|refine Kn rfl ?_|((first|refine Ka ?_|refine Kb ?_|refine Kv ?_|refine Ke ?_);simp only[go_sem])|refine Kf ?_|refine Kg ?_|refine⟨_,c1,Kg ?_⟩|refine⟨_,⟨c1,rfl⟩,Kg ?_⟩|refine⟨_,c2,Kg ?_⟩|refine⟨_,⟨c2,rfl⟩,Kg ?_⟩|(apply Kp<;>intro _<;>try (exfalso;omega))|((first|refine Kh ?_|refine Ki rfl ?_);simp only[or_self,Qs,Qt,Qu,Qv,Qw,Qx,Qy,Qz,Za,go_sem])
  refine Xds 7 1 (by decide) rfl ?_
  simp only[go_sem]
  refine Kt (fr 57 [(1,.one (.d (.bx [.int .i64 g.root,.sl (nds g.l)]))),(6,.one (.d (.sl (Xjf (Xsp g.l))))),(7,.one (.own 0 0)),(8,vi ((0:Nat):Int)),(9,vi ((0:Nat):Int))]) ?_
  refine Km (fun mz sz=>∃ i n:Nat,i<=g.l.length/\mz=g.l.length - i/\n=Xeq ((Xaz g.l).take i) 0/\sz=⟨fr 57 [(1,.one (.d (.bx [.int .i64 g.root,.sl (nds g.l)]))),(6,.one (.d (.sl (Xjf (Xsp g.l))))),(7,.one (.own 0 i)),(8,vi (n:Int)),(9,vi (i:Int))],[.row 1 i (Xag ((Xaz g.l).take i))]⟩) g.l.length ⟨0,0,Nat.zero_le _,rfl,by simp[Xeq],by simp[Xag]⟩ ?_
  rintro _ _ ⟨i,n,hi,rfl,hn,rfl⟩
  simp only[go_sem]
  have hni:n<=i:=by
   have:=Xt1 ((Xaz g.l).take i) 0
   rw[List.length_take] at this
   omega
  by_cases hil:i < g.l.length
  ·have e1:decide ((i:Int) < (g.l.length:Int))=true:=decide_eq_true (by omega)
   obtain⟨ci,hci⟩:=Xai (l:=Xaz g.l) (i:=i) (by omega)
   obtain⟨o1,o2,o3⟩:=Xnc hord hci
   rw[<- hn] at o2 o3
   have hM:(Xjf (Xsp g.l))[i]?=some [.sl (bls (W0r g.l i))]:=by unfold Xjf;rw[List.getElem?_map,Yr1 g.l hil];rfl
   repeat' first|refine Kn rfl ?_|((first|refine Ka ?_|refine Kb ?_|refine Kv ?_|refine Ke ?_);simp only[e1,go_sem])|refine Kf ?_|refine Kg ?_|(apply Kp<;>intro _<;>try (exfalso;omega))|((first|refine Kh ?_|refine Ki rfl ?_);simp only[e1,or_self,Qs,Qt,Qu,Qv,Qw,Qx,Qy,Qz,Za,go_sem])
   refine⟨Xj1 (by unfold Xac;omega),?_⟩
   repeat' first|refine Kn rfl ?_|((first|refine Ka ?_|refine Kb ?_|refine Kv ?_|refine Ke ?_);simp only[e1,go_sem])|refine Kf ?_|refine Kg ?_|(apply Kp<;>intro _<;>try (exfalso;omega))|((first|refine Kh ?_|refine Ki rfl ?_);simp only[e1,or_self,Qs,Qt,Qu,Qv,Qw,Qx,Qy,Qz,Za,go_sem])
   refine Kt (fr 57 [(1,.one (.d (.bx [.int .i64 g.root,.sl (nds g.l)]))),(6,.one (.d (.sl (Xjf (Xsp g.l))))),(7,.one (.own 0 i)),(8,vi (n:Int)),(9,vi (i:Int)),(10,vi (n:Int)),(11,vi ((i:Int) - 1))]) ?_
   refine Km (fun mz sz=>∃ (m:Nat) (z cc:Int),m<=i/\mz=m/\z=(m:Int) - 1/\((cc=ci/\∃ b,m<=b/\b < i/\(Xaz g.l)[b]?=some ci)\/(cc=n/\∀ b,m<=b->b < i->(Xaz g.l)[b]?≠some ci))/\sz=⟨fr 57 [(1,.one (.d (.bx [.int .i64 g.root,.sl (nds g.l)]))),(6,.one (.d (.sl (Xjf (Xsp g.l))))),(7,.one (.own 0 i)),(8,vi (n:Int)),(9,vi (i:Int)),(10,vi cc),(11,vi z)],[.row 1 i (Xag ((Xaz g.l).take i))]⟩) i ⟨i,_,_,Nat.le_refl _,rfl,rfl,.inr ⟨rfl,fun b h1 h2=>by omega⟩,rfl⟩ ?_
   rintro m _ ⟨m',z,cc,hm,hmm,hz,hcc,rfl⟩
   subst hmm
   simp only[go_sem]
   cases m with
   | zero =>
    have e2:decide (z >= 0)=false:=decide_eq_false (by omega)
    obtain⟨n',hn',hcase⟩:∃ n',n'=Xeq ((Xaz g.l).take (i+1)) 0/\cc=ci/\((ci==(n:Int))=false/\n'=n\/(ci==(n:Int))=true/\n'=n+1):=by
     refine⟨_,rfl,?_⟩
     rw[o3]
     rcases hcc with ⟨rfl,b,_,hbi,hb⟩|⟨rfl,hno⟩
     ·have h1:=Xzz (Xni i hord) cc (List.mem_of_getElem? (i:=b) (by rw[List.getElem?_take,if_pos hbi];exact hb))
      rw[<- hn] at h1
      rw[if_pos h1]
      exact⟨rfl,.inl ⟨by simp;omega,rfl⟩⟩
     ·by_cases hcn:ci < (n:Int)
      ·have h1:=Xqc (Xni i hord) ci (by omega) (by rw[<- hn];exact hcn)
       obtain⟨b,hb⟩:=List.mem_iff_getElem?.1 h1
       rw[List.getElem?_take] at hb
       split at hb
       ·rename_i hbi;exact absurd hb (hno b (Nat.zero_le _) hbi)
       ·cases hb
      ·rw[if_neg hcn]
       exact⟨by omega,.inr ⟨by simp;omega,rfl⟩⟩
    obtain⟨rfl,hcase⟩:=hcase
    have hsn:Xag ((Xaz g.l).take i)++[[.int .i64 cc]]=Xag ((Xaz g.l).take (i+1)):=Xcv hci
    rcases hcase with ⟨e4,hn1⟩|⟨e4,hn1⟩
    case' inl =>
     subst hn1
     repeat' first|refine Kn rfl ?_|((first|refine Ka ?_|refine Kb ?_|refine Kv ?_|refine Ke ?_);simp only[e2,e4,go_sem])|refine Kf ?_|refine Kg ?_|(apply Kp<;>intro _<;>try (exfalso;omega))|((first|refine Kh ?_|refine Ki rfl ?_);simp only[e2,e4,or_self,Qs,Qt,Qu,Qv,Qw,Qx,Qy,Qz,Za,go_sem])
    case' inr =>
     have hnI:(n:Int)+1=(n':Int):=by omega
     repeat' first|refine Kn rfl ?_|((first|refine Ka ?_|refine Kb ?_|refine Kv ?_|refine Ke ?_);simp only[e2,e4,hnI,go_sem])|refine Kf ?_|refine Kg ?_|(apply Kp<;>intro _<;>try (exfalso;omega))|((first|refine Kh ?_|refine Ki rfl ?_);simp only[e2,e4,hnI,or_self,Qs,Qt,Qu,Qv,Qw,Qx,Qy,Qz,Za,go_sem])
     refine⟨by rw[<- hnI];exact Xah (i:=n) (n:=1000) (by omega) (by unfold Xac;omega),?_⟩
     repeat' first|refine Kn rfl ?_|((first|refine Ka ?_|refine Kb ?_|refine Kv ?_|refine Ke ?_);simp only[e2,e4,hnI,go_sem])|refine Kf ?_|refine Kg ?_|(apply Kp<;>intro _<;>try (exfalso;omega))|((first|refine Kh ?_|refine Ki rfl ?_);simp only[e2,e4,hnI,or_self,Qs,Qt,Qu,Qv,Qw,Qx,Qy,Qz,Za,go_sem])
    all_goals
     refine⟨by simp,by simp[List.length_take];omega,by simp[List.length_take,Xac];omega,?_⟩
     rw[hsn]
     repeat' first|refine Kn rfl ?_|((first|refine Ka ?_|refine Kb ?_|refine Kv ?_|refine Ke ?_);simp only[go_sem])|refine Kf ?_|refine Kg ?_|(apply Kp<;>intro _<;>try (exfalso;omega))|((first|refine Kh ?_|refine Ki rfl ?_);simp only[or_self,Qs,Qt,Qu,Qv,Qw,Qx,Qy,Qz,Za,go_sem])
     refine⟨Xah hil (by unfold Xac;omega),?_⟩
     refine Kt (fr 57 [(1,.one (.d (.bx [.int .i64 g.root,.sl (nds g.l)]))),(6,.one (.d (.sl (Xjf (Xsp g.l))))),(7,.one (.own 0 (i+1))),(8,vi (n':Int)),(9,vi (i+1))]) ?_
     exact Kl ⟨g.l.length - (i+1),by omega,i+1,n',by omega,rfl,hn',rfl⟩
   | succ k =>
    obtain rfl:z=(k:Int):=by omega
    have e2:decide ((k:Int) >= 0)=true:=decide_eq_true (by omega)
    obtain⟨ck,hck⟩:=Xai (l:=Xaz g.l) (i:=k) (by omega)
    have hR:=Yr2 g.l (i:=i) (j:=k) (by omega)
    rw[hci,hck] at hR
    have hO:((Xaz g.l).take i)[k]?=some ck:=by rw[List.getElem?_take,if_pos (by omega)];exact hck
    have hkO:k < ((Xaz g.l).take i).length:=by rw[List.length_take];omega
    by_cases hcc2:ci=ck
    ·subst hcc2
     rw[decide_eq_true rfl] at hR
     repeat' first|refine Kn rfl ?_|((first|refine Ka ?_|refine Kb ?_|refine Kv ?_|refine Ke ?_);simp only[e2,go_sem])|refine Kf ?_|refine Kg ?_|refine⟨_,⟨Kq _,hM,rfl⟩,Kg ?_⟩|refine⟨_,⟨Kq _,Xab hR,rfl⟩,Kg ?_⟩|refine⟨Kq _,hkO,_,⟨Xab hO,of_decide_eq_true rfl⟩,Kg ?_⟩|(apply Kp<;>intro _<;>try (exfalso;omega))|((first|refine Kh ?_|refine Ki rfl ?_);simp only[e2,or_self,Qs,Qt,Qu,Qv,Qw,Qx,Qy,Qz,Za,go_sem])
     refine⟨Xj1 (by unfold Xac;omega),?_⟩
     refine Kt (fr 57 [(1,.one (.d (.bx [.int .i64 g.root,.sl (nds g.l)]))),(6,.one (.d (.sl (Xjf (Xsp g.l))))),(7,.one (.own 0 i)),(8,vi (n:Int)),(9,vi (i:Int)),(10,vi ci),(11,vi ((k:Int) - 1))]) ?_
     exact Kl ⟨k,by omega,k,_,ci,by omega,rfl,rfl,.inl ⟨rfl,k,Nat.le_refl _,by omega,hck⟩,rfl⟩
    ·rw[decide_eq_false (by simpa using hcc2)] at hR
     repeat' first|refine Kn rfl ?_|((first|refine Ka ?_|refine Kb ?_|refine Kv ?_|refine Ke ?_);simp only[e2,go_sem])|refine Kf ?_|refine Kg ?_|refine⟨_,⟨Kq _,hM,rfl⟩,Kg ?_⟩|refine⟨_,⟨Kq _,Xab hR,rfl⟩,Kg ?_⟩|refine⟨Kq _,hkO,_,⟨Xab hO,of_decide_eq_true rfl⟩,Kg ?_⟩|(apply Kp<;>intro _<;>try (exfalso;omega))|((first|refine Kh ?_|refine Ki rfl ?_);simp only[e2,or_self,Qs,Qt,Qu,Qv,Qw,Qx,Qy,Qz,Za,go_sem])
     refine⟨Xj1 (by unfold Xac;omega),?_⟩
     refine Kt (fr 57 [(1,.one (.d (.bx [.int .i64 g.root,.sl (nds g.l)]))),(6,.one (.d (.sl (Xjf (Xsp g.l))))),(7,.one (.own 0 i)),(8,vi (n:Int)),(9,vi (i:Int)),(10,vi cc),(11,vi ((k:Int) - 1))]) ?_
     refine Kl ⟨k,by omega,k,_,cc,by omega,rfl,rfl,?_,rfl⟩
     rcases hcc with ⟨e,b,h1,h2,h3⟩|⟨e,hno⟩
     ·exact .inl ⟨e,b,by omega,h2,h3⟩
     ·refine .inr ⟨e,fun b h1 h2 h3=>?_⟩
      by_cases hbk:b=k
      ·subst hbk;rw[hck] at h3;exact hcc2 (Option.some.inj h3).symm
      ·exact hno b (by omega) h2 h3
  ·obtain rfl:i=g.l.length:=by omega
   have e1:decide ((g.l.length:Int) < (g.l.length:Int))=false:=decide_eq_false (by omega)
   rw[List.take_of_length_le (by omega)]
   repeat' first|refine Ko rfl ?_|((first|refine Ka ?_|refine Kb ?_|refine Kv ?_|refine Ke ?_);simp only[e1,go_sem])|refine Kf ?_|refine Kg ?_|(apply Kp<;>intro _<;>try (exfalso;omega))|((first|refine Kh ?_|refine Ki rfl ?_);simp only[e1,or_self,Qs,Qt,Qu,Qv,Qw,Qx,Qy,Qz,Za,go_sem])
   refine Xc1 rfl ?_
   refine Xar 0 ?_
   simp only[go_sem]
   repeat' first|refine Kn rfl ?_|((first|refine Ka ?_|refine Kb ?_|refine Kv ?_|refine Ke ?_);simp only[go_sem])|refine Kf ?_|refine Kg ?_|(apply Kp<;>intro _<;>try (exfalso;omega))|((first|refine Kh ?_|refine Ki rfl ?_);simp only[or_self,Qs,Qt,Qu,Qv,Qw,Qx,Qy,Qz,Za,go_sem])
   all_goals trace_state
 ·have he:=Xdc hc
  have e0:cOf g=[]:=by unfold cOf;rw[if_neg hc]
  rw[e0]
  have c1:Xak QP gp 39 [g.v] (.tup [vi ((chk g).getD (0,0)).1,vi (Xfw g)]):=c1
  generalize Xfw g=e at *
  have hne:(e != 0)=true:=by simpa using he
  repeat' first|refine Kn rfl ?_|((first|refine Ka ?_|refine Kb ?_|refine Kv ?_|refine Ke ?_);simp only[hne,go_sem])|refine Kf ?_|refine Kg ?_|refine⟨_,c1,Kg ?_⟩|refine⟨_,⟨c1,rfl⟩,Kg ?_⟩|(apply Kp<;>intro _<;>try (exfalso;omega))|((first|refine Kh ?_|refine Ki rfl ?_);simp only[hne,or_self,Qs,Qt,Qu,Qv,Qw,Qx,Qy,Qz,Za,go_sem])
  all_goals trace_state
end Go.Fw.L07
