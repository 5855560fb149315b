/- Chapter 10,plain: which nodes say the same,by definition. -/
import Derived.Test.YtejnfjophhnaeaaGreatDoorJa
import Derived.Test.YtejnfjophhnaeaaGreatDoorVy
import Derived.Test.YtejnfjophhnaeaaGreatDoorIa
import Derived.Test.YtejnfjophhnaeaaGreatDoorL07L10Mini
import Derived.Test.YtejnfjophhnaeaaGreatDoorVa
import Derived.Test.YtejnfjophhnaeaaGreatDoorJc
set_option linter.all false
namespace Go.Fw.L07
open Go Go.Fw
open Go.Fw.Sh renaming intro->Kg
open Go.Fw renaming Xhi->Ka,Xef->Ka,Xed->Kb,Xhm->Kv,Xee->Ke,Xeg->Kf,Xhk->Kh,Xhj->Ki,Yoy->Kj,Xdf->Kt,Xnx->Kk,Xff->Ku,Xdd->Kl,Xe9->Km,Gx->Kn,Gw->Ko
open Int renaming natCast_nonneg->Kq
open And renaming intro->Kp
open Go.Fw.V.one renaming injEq->Qs
open Go.Fw.V.agg renaming injEq->Qt
open Go.Fw.V.tup renaming injEq->Qu
open Go.Fw.A.d renaming injEq->Qv
open Go.Fw.D.bool renaming injEq->Qw
open Go.Fw.D.int renaming injEq->Qx
open Go.Fw.D.str renaming injEq->Qy
open Go.Fw.D.sl renaming injEq->Qz
open List.cons renaming injEq->Za
set_option maxRecDepth 4000
def mAt (M:List (List Bool)) (i j:Nat):Bool:=(((M[i]?).getD [])[j]?).getD false
def X0p (l:List Nd):List (List Bool):=(List.range l.length).map fun i=>(List.range l.length).map fun j=>Xpf (Xbg l (i:Nat)) (Xbg l (j:Nat))
def Xp1 (l:List Nd):List (List Bool):=(List.range l.length).map fun i=>(List.range l.length).map fun j=>decide ((Xc5 l)[i]?=(Xc5 l)[j]?)
def X0q (M:List (List Bool)) (i j:Nat):List (List Bool):=M.set i (((M[i]?).getD []).set j false)
def Yoj (M:List (List Bool)):Nat:=(M.map fun r=>r.count true).sum
theorem Ygt (M:List (List Bool)) (i j a b:Nat):mAt (X0q M i j) a b=if a=i/\b=j then false else mAt M a b:=by
 unfold mAt X0q
 rw[List.getElem?_set]
 by_cases ha:i=a
 ·subst ha
  rw[if_pos rfl]
  by_cases hl:i < M.length
  ·rw[if_pos hl]
   simp only[Option.getD_some,true_and]
   rw[List.getElem?_set]
   by_cases hb:j=b
   ·subst hb;rw[if_pos rfl,if_pos rfl];split <;> rfl
   ·rw[if_neg hb,if_neg (Ne.symm hb)]
  ·rw[if_neg hl,List.getElem?_eq_none (show M.length<=i by omega)]
   simp
 ·rw[if_neg ha,if_neg (fun h=>ha h.1.symm)]
theorem count_set:∀ {r:List Bool} {j:Nat},r[j]?=some true->(r.set j false).count true+1=r.count true
 | [],_,h=>by simp at h
 | a::r,0,h=>by simp at h;subst h;simp
 | a::r,j+1,h=>by
  have ih:=count_set (r:=r) (j:=j) (by simpa using h)
  simp only[List.set_cons_succ,List.count_cons]
  omega
theorem Ygu:∀ {M:List (List Bool)} {i j:Nat},mAt M i j=true->Yoj (X0q M i j) < Yoj M
 | [],i,j,h=>by simp[mAt] at h
 | r::M,0,j,h=>by
  have h1:r[j]?=some true:=by
   simp[mAt] at h
   cases e:r[j]? with
   | none=>rw[e] at h;cases h
   | some b=>rw[e] at h;simp at h;rw[h]
  have:=count_set h1
  simp[Yoj,X0q];omega
 | r::M,i+1,j,h=>by
  have:=Ygu (M:=M) (i:=i) (j:=j) (by simpa [mAt] using h)
  simp only[Yoj,X0q,List.getElem?_cons_succ,List.set_cons_succ,List.map_cons,List.sum_cons] at this ⊢
  omega
structure GrI (l:List Nd) (M:List (List Bool)):Prop where
 len:M.length=l.length
 row:∀ r∈M,r.length=l.length
 fit:∀ i j:Nat,mAt M i j=true->Xpf (Xbg l i) (Xbg l j)=true
 sim:∀ i j:Nat,Sim l l i j->mAt M i j=true
theorem Ygv (l:List Nd) (i j:Nat):mAt (X0p l) i j=(decide (i < l.length) && (decide (j < l.length) && Xpf (Xbg l i) (Xbg l j))):=by
 unfold mAt X0p
 rw[List.getElem?_map]
 by_cases hi:i < l.length
 ·rw[List.getElem?_range hi]
  simp only[Option.map_some,Option.getD_some]
  rw[List.getElem?_map]
  by_cases hj:j < l.length
  ·rw[List.getElem?_range hj];simp[hi,hj]
  ·rw[List.getElem?_eq_none (show (List.range l.length).length<=j by simpa using hj)];simp[hj]
 ·rw[List.getElem?_eq_none (show (List.range l.length).length<=i by simpa using hi)];simp[hi]
theorem GrI.first {l:List Nd}:GrI l (X0p l):=by
 refine⟨by simp[X0p],fun r hr=>?_,fun i j h=>?_,fun i j h=>?_⟩
 ·obtain⟨i,_,rfl⟩:=List.mem_map.1 hr
  simp
 ·rw[Ygv] at h
  simp only[Bool.and_eq_true] at h
  exact h.2.2
 ·have h1:=h.inn
  unfold inL at h1
  rw[Ygv,h.fit,decide_eq_true (by omega),decide_eq_true (by omega)]
  rfl
theorem GrI.set {l:List Nd} {M:List (List Bool)} (h:GrI l M) {i j k:Nat} {p q:Int} (hp:(kdL l i)[k]?=some p) (hq:(kdL l j)[k]?=some q) (hm:mAt M p.toNat q.toNat=false):GrI l (X0q M i j):=by
 refine⟨by simp[X0q,h.len],fun r hr=>?_,fun a b hab=>?_,fun a b hab=>?_⟩
 ·unfold X0q at hr
  by_cases hi:i < M.length
  ·rcases List.mem_or_eq_of_mem_set hr with hr|rfl
   ·exact h.row r hr
   ·rw[List.length_set]
    exact h.row _ (by rw[List.getElem?_eq_getElem hi];exact List.getElem_mem hi)
  ·rw[List.set_eq_of_length_le (by omega)] at hr
   exact h.row r hr
 ·rw[Ygt] at hab
  split at hab
  ·cases hab
  ·exact h.fit a b hab
 ·rw[Ygt,if_neg]
  ·exact h.sim a b hab
  ·rintro⟨rfl,rfl⟩
   have h1:=hab.kid hp hq
   have h2:=h1.inn
   unfold inL at h2
   have:=h.sim p.toNat q.toNat (by rw[Int.toNat_of_nonneg h2.1.1,Int.toNat_of_nonneg h2.2.1];exact h1)
   rw[hm] at this;cases this
theorem GrI.done {l:List Nd} (hl:Fine l) {M:List (List Bool)} (h:GrI l M) (hk:∀ (i j:Nat),i < l.length->j < l.length->mAt M i j=true->∀ (k:Nat) (p q:Int),(kdL l i)[k]?=some p->(kdL l j)[k]?=some q->mAt M p.toNat q.toNat=true):M=Xp1 l:=by
 have key:∀ i j:Nat,i < l.length->j < l.length->(mAt M i j=true↔Sim l l i j):=fun i j hi hj=>by
  refine⟨fun hm=>?_,h.sim i j⟩
  refine⟨fun a b=>inL l a/\inL l b/\mAt M a.toNat b.toNat=true,⟨fun a b r=>⟨r.1,r.2.1⟩,fun a b r=>?_,fun a b r n p q hp hq=>?_⟩,by unfold inL;omega,by unfold inL;omega,by simpa using hm⟩
  ·have:=h.fit _ _ r.2.2
   rwa [Int.toNat_of_nonneg r.1.1,Int.toNat_of_nonneg r.2.1.1] at this
  ·refine⟨hl.kid _ _ (List.mem_of_getElem? hp),hl.kid _ _ (List.mem_of_getElem? hq),?_⟩
   have ha:=r.1
   have hb:=r.2.1
   unfold inL at ha hb
   exact hk a.toNat b.toNat (by omega) (by omega) r.2.2 n p q (by rw[Int.toNat_of_nonneg ha.1];exact hp) (by rw[Int.toNat_of_nonneg hb.1];exact hq)
 refine List.ext_getElem? fun i=>?_
 unfold Xp1
 rw[List.getElem?_map]
 by_cases hi:i < l.length
 ·rw[List.getElem?_range hi,Option.map_some,List.getElem?_eq_getElem (by rw[h.len];exact hi)]
  congr 1
  have hrl:=h.row _ (List.getElem_mem (l:=M) (n:=i) (by rw[h.len];exact hi))
  refine List.ext_getElem? fun j=>?_
  rw[List.getElem?_map]
  by_cases hj:j < l.length
  ·rw[List.getElem?_range hj,Option.map_some,List.getElem?_eq_getElem (by rw[hrl];exact hj)]
   congr 1
   have e:mAt M i j=(M[i]'(by rw[h.len];exact hi))[j]'(by rw[hrl];exact hj):=by
    unfold mAt
    have hiM:i < M.length:=by rw[h.len];exact hi
    have hjM:j < M[i].length:=by rw[hrl];exact hj
    rw[List.getElem?_eq_getElem hiM,Option.getD_some,List.getElem?_eq_getElem hjM,Option.getD_some]
   rw[<- e,Bool.eq_iff_iff,key i j hi hj,decide_eq_true_eq]
   have:=Y9g hl (a:=(i:Int)) (b:=(j:Int)) (by unfold inL;omega) (by unfold inL;omega)
   rw[Int.toNat_natCast,Int.toNat_natCast] at this
   exact this.symm
  ·rw[List.getElem?_eq_none (show (M[i]'(by rw[h.len];exact hi)).length<=j by omega),List.getElem?_eq_none (show (List.range l.length).length<=j by simpa using hj)];rfl
 ·rw[List.getElem?_eq_none (show M.length<=i by rw[h.len];omega),List.getElem?_eq_none (show (List.range l.length).length<=i by simpa using hi)];rfl
def Wuo (l:List Nd) (M:List (List Bool)) (a b:Nat):Prop:=mAt M a b=true->∀ (k:Nat) (p q:Int),(kdL l a)[k]?=some p->(kdL l b)[k]?=some q->mAt M p.toNat q.toNat=true
structure GrP (l:List Nd) (Ms M:List (List Bool)) (ch:Bool) (i j k:Nat):Prop where
 gr:GrI l M
 up:ch=true->Yoj M < Yoj Ms
 sm:ch=false->M=Ms
 old:ch=false->∀ a b:Nat,(a < i\/a=i/\b < j)->a < l.length->b < l.length->Wuo l M a b
 now:ch=false->mAt M i j=true->∀ k':Nat,k' < k->∀ p q:Int,(kdL l i)[k']?=some p->(kdL l j)[k']?=some q->mAt M p.toNat q.toNat=true
theorem GrP.first {l:List Nd} {M:List (List Bool)} (h:GrI l M):GrP l M M false 0 0 0 :=
 ⟨h,(fun e=>by cases e),fun _=>rfl,fun _ a b hab=>by omega,fun _ _ k' hk=>by omega⟩
theorem GrP.kgo {l:List Nd} {Ms M:List (List Bool)} {ch:Bool} {i j k:Nat} (h:GrP l Ms M ch i j k) {p q:Int} (hp:(kdL l i)[k]?=some p) (hq:(kdL l j)[k]?=some q) (hm:mAt M p.toNat q.toNat=true):GrP l Ms M ch i j (k+1) :=
 ⟨h.gr,h.up,h.sm,h.old,fun e hij k' hk' p' q' hp' hq'=>by
  by_cases e2:k'=k
  ·subst e2;rw[hp] at hp';rw[hq] at hq';cases hp';cases hq';exact hm
  ·exact h.now e hij k' (by omega) p' q' hp' hq'⟩
theorem GrP.kcut {l:List Nd} {Ms M:List (List Bool)} {ch:Bool} {i j k:Nat} (h:GrP l Ms M ch i j k) (hij:mAt M i j=true) {p q:Int} (hp:(kdL l i)[k]?=some p) (hq:(kdL l j)[k]?=some q) (hm:mAt M p.toNat q.toNat=false):GrP l Ms (X0q M i j) true i j (k+1):=by
 have h1:=Ygu hij
 refine⟨h.gr.set hp hq hm,fun _=>?_,(fun e=>by cases e),(fun e=>by cases e),(fun e=>by cases e)⟩
 cases ch with
 | true=>have:=h.up rfl;omega
 | false=>rw[<- h.sm rfl];exact h1
theorem GrP.jgo {l:List Nd} {Ms M:List (List Bool)} {ch:Bool} {i j k:Nat} (h:GrP l Ms M ch i j k) (hs:(kdL l i).length<=k\/mAt M i j=false):GrP l Ms M ch i (j+1) 0 :=
 ⟨h.gr,h.up,h.sm,fun e a b hab ha hb=>by
  by_cases e2:a=i/\b=j
  ·obtain⟨rfl,rfl⟩:=e2
   intro hm k' p q hp hq
   rcases hs with hs|hs
   ·exact h.now e hm k' (by have:=(List.getElem?_eq_some_iff.1 hp).1;omega) p q hp hq
   ·rw[hs] at hm;cases hm
  ·exact h.old e a b (by omega) ha hb,fun _ _ k' hk=>by omega⟩
theorem GrP.igo {l:List Nd} {Ms M:List (List Bool)} {ch:Bool} {i j:Nat} (h:GrP l Ms M ch i j 0) (hj:l.length<=j):GrP l Ms M ch (i+1) 0 0 :=
 ⟨h.gr,h.up,h.sm,fun e a b hab ha hb=>h.old e a b (by omega) ha hb,fun _ _ k' hk=>by omega⟩
theorem GrP.fin {l:List Nd} (hl:Fine l) {Ms M:List (List Bool)} {i:Nat} (h:GrP l Ms M false i 0 0) (hi:l.length<=i):M=Xp1 l :=
 h.gr.done hl fun a b ha hb=>h.old rfl a b (by omega) ha hb
open Go.Proofs.Tryz renaming prog->QP
variable {gp:Xag}
abbrev Xge (vs:List Value):List (List D):=vs.map fun v=>[D.raw v]
def Xe4 (vs:List Value) (M:List (List Bool)):List (Option (Value × List (List D))):=List.zipWith (fun r v=>some (v,bls r)) M vs
def Xko (vs:List Value) (a:Nat):List (List A):=((Xge vs).map fun x=>x.map A.d).set a [.own 3 0]
def Xg4 (M:List (List Bool)):List (List D):=M.map fun r=>[D.sl (bls r)]
def Xd5 (g:Gr) (i:Nat):List (List D):=(List.range i).map fun j=>[D.sl (Xai (kd g (j:Nat)))]
def Yha (l:List Nd) (i j:Nat):List Bool:=(List.range j).map fun b=>Xpf (Xbg l (i:Nat)) (Xbg l (b:Nat))
theorem Xrx {α β γ:Type} (f:α->β->γ):∀ {l:List α} {vs:List β} {x:α} {v:β},l[vs.length]?=some x->List.zipWith f l vs++[f x v]=List.zipWith f l (vs++[v])
 | a::l,[],x,v,h=>by simp at h;subst h;simp
 | [],[],x,v,h=>by simp at h
 | a::l,b::vs,x,v,h=>by
  have ih:=Xrx f (l:=l) (vs:=vs) (x:=x) (v:=v) (by simpa using h)
  simp only[List.zipWith_cons_cons,List.cons_append,ih]
 | [],b::vs,x,v,h=>by simp at h
theorem X0i (g:Gr) (i:Nat):Xd5 g i++[[D.sl (Xai (kd g (i:Nat)))]]=Xd5 g (i+1):=by simp[Xd5,List.range_succ]
theorem Xjf (g:Gr) {i n:Nat} (h:i < n):(Xd5 g n)[i]?=some [D.sl (Xai (kd g (i:Nat)))]:=by simp[Xd5,List.getElem?_map,List.getElem?_range h]
theorem Xry (g:Gr) (n:Nat):(Xd5 g n).length=n:=by simp[Xd5]
theorem Ygw (l:List Nd) (i j:Nat):bls (Yha l i j)++[[D.bool (Xpf (Xbg l (i:Nat)) (Xbg l (j:Nat)))]]=bls (Yha l i (j+1)):=by simp[Yha,List.range_succ]
theorem Xy0 (l:List Nd) (i j:Nat):(Yha l i j).length=j:=by simp[Yha]
theorem Yok (l:List Nd) {i:Nat} (h:i < l.length):(X0p l)[i]?=some (Yha l i l.length):=by unfold X0p Yha;rw[List.getElem?_map,List.getElem?_range h];rfl
theorem Ygx {S:Sx} {m:MI} {l K:List MI} {s:St} (hl:l=K) (h:∀ K',K'=K->G S (m::K') s):G S (m::l) s:=h l hl
section
variable {S:Sx} {k:List MI} {fr fr':List V} {vs:List Value} {M:List (List Bool)} {a n:Nat} {r:List Bool}
theorem Xrz {v:Value} (hv:vs[a]?=some v) (hr:M[a]?=some r):(Xe4 vs M)[a]?=some (some (v,bls r)):=by unfold Xe4;rw[List.getElem?_zipWith,hr,hv]
theorem Xjg (h:a < vs.length):(Xko vs a)[a]?=some [.own 3 0]:=by
 unfold Xko
 rw[List.getElem?_set,if_pos rfl,if_pos (by simpa using h)]
theorem Xmx:(Xko vs a).length=vs.length:=by simp[Xko]
theorem Ygy (ha:a < vs.length) (hr:M[a]?=some r) (h:G S k ⟨fr,[.dead,.rowA 1 n (Xko vs a),.pool 1 ((Xe4 vs M).set a none),.row 1 0 (bls r)]⟩):G S k ⟨fr,[.dead,.row 1 n (Xge vs),.pool 1 (Xe4 vs M)]⟩:=by
 obtain⟨v,hv⟩:=Xaj ha
 refine Wsd 1 (xs:=Xge vs) rfl (fun e=>by have:=congrArg List.length e;simp at this;subst this;simp at ha) ?_
 exact Wfs 1 a 0 2 a (x:=[.d (.raw v)]) (xs:=(Xge vs).map fun (x:List D)=>x.map A.d) (sz:=1) (rz:=1) (rv:=n) rfl (by rw[List.getElem?_map,List.getElem?_map,hv];rfl) rfl rfl (Xrz hv hr) h
theorem Ygz (r':List Bool) (hl:vs.length=M.length) (ha:a < vs.length) (hw:Xqz fr fr') (hrf:(fr'.all fun v=>Xhl 3 v.refsT)=true) (hnp:S.np<=3)
  (h:∀ v',G S k ⟨fr',[.dead,.row 1 n (Xge (vs.set a v')),.pool 1 (Xe4 (vs.set a v') (M.set a r'))]⟩):G S k ⟨fr,[.dead,.rowA 1 n (Xko vs a),.pool 1 ((Xe4 vs M).set a none),.row 1 0 (bls r')]⟩:=by
 have hgl:(Xe4 vs M).length=vs.length:=by unfold Xe4;rw[List.length_zipWith];omega
 refine Kj fr' hw ?_
 refine Wfr 1 a 0 3 2 a (x:=[.own 3 0]) (xs:=Xko vs a) (L:=(Xe4 vs M).set a none) rfl (Xjg ha) rfl rfl rfl (by rw[List.getElem?_set,if_pos rfl,if_pos (by omega)]) fun v'=>?_
 have e1:(Xko vs a).set a [.d (.raw v')]=(Xge (vs.set a v')).map fun x=>x.map A.d:=by
  unfold Xko
  rw[List.set_set,Xge,Xge,List.map_set,List.map_set];rfl
 have e2:((Xe4 vs M).set a none).set a (some (v',bls r'))=Xe4 (vs.set a v') (M.set a r'):=by
  rw[List.set_set]
  unfold Xe4
  refine List.ext_getElem? fun i=>?_
  rw[List.getElem?_zipWith,List.getElem?_set,List.getElem?_set,List.getElem?_set,List.length_zipWith,List.getElem?_zipWith]
  by_cases e:a=i
  ·subst e
   rw[if_pos rfl,if_pos rfl,if_pos rfl,if_pos (by omega),if_pos (by omega),if_pos (by omega)]
  ·rw[if_neg e,if_neg e,if_neg e]
 refine Wse 1 (xs:=Xge (vs.set a v')) (ver:=n) (sz:=1) (by rw[<- e1];rfl) ?_
 refine Kk 3 hnp hrf (by rfl) ?_
 have:=h v'
 rw[<- e2] at this
 exact this
end
theorem Yg0 {vs:List Value} {M:List (List Bool)} {n:Nat} (hv:vs.length=n) (hm:M.length=n):Wft (Xe4 vs M) (Xge vs) (Xg4 M):=by
 refine⟨by simp[Xg4];omega,fun i x' hx'=>?_⟩
 unfold Xg4 at hx'
 rw[List.getElem?_map] at hx'
 cases e:M[i]? with
 | none=>rw[e] at hx';cases hx'
 | some r =>
  rw[e] at hx';cases hx'
  obtain⟨v,hvi⟩:=Xaj (l:=vs) (i:=i) (by have:=(List.getElem?_eq_some_iff.1 e).1;omega)
  refine⟨[.raw v],by rw[List.getElem?_map,hvi];rfl,rfl,fun j y' hy'=>?_⟩
  match j,hy' with
  | 0,h=>cases h;exact⟨_,rfl,.inr ⟨i,v,_,Xrz hvi e,rfl,rfl⟩⟩
set_option maxHeartbeats 4000000 in
theorem Yvv (g:Gr) (hG:Good g) (hs:Xd9 g) (hF:Fine g.l) (hn:g.l.length<=1000):Xam QP gp 40 [g.v] (.one (.d (.sl (Xg4 (Xp1 g.l))))):=by
 refine Wpn ?_
 simp only[go_sem]
 repeat' first|refine Kn rfl ?_|((first|refine Ka ?_|refine Kb ?_|refine Kv ?_|refine Ke ?_);simp only[go_sem])|refine Kf ?_|refine Kg ?_|(apply Kp<;>intro _<;>try (exfalso;omega))|((first|refine Kh ?_|refine Ki rfl ?_);simp only[or_self,Qs,Qt,Qu,Qv,Qw,Qx,Qy,Qz,Za,go_sem])
 refine Xeu 4 1 (by decide) rfl ?_
 simp only[go_sem]
 refine Xeu 5 1 (by decide) rfl ?_
 simp only[go_sem]
 refine Yws 1 ?_
 simp only[go_sem]
 refine Kt (fr 106 [(1,.one (.d (.bx [.int .i64 g.root,.sl (nds g.l)]))),(3,vi g.l.length),(4,.one (.own 0 0)),(5,.one (.own 1 0)),(6,vi ((0:Nat):Int))]) ?_
 refine Km (fun mz sz=>∃ (i:Nat) (vs:List Value),i<=g.l.length/\mz=g.l.length - i/\vs.length=i/\sz=⟨fr 106 [(1,.one (.d (.bx [.int .i64 g.root,.sl (nds g.l)]))),(3,vi g.l.length),(4,.one (.own 0 i)),(5,.one (.own 1 i)),(6,vi (i:Int))],[.row 1 i (Xd5 g i),.row 1 i (Xge vs),.pool 1 (Xe4 vs (X0p g.l))]⟩) g.l.length ⟨0,[],Nat.zero_le _,rfl,rfl,by simp[Xd5,Xe4]⟩ ?_
 rintro _ _ ⟨i,vs,hi,rfl,hvs,rfl⟩
 simp only[go_sem]
 by_cases hil:i < g.l.length
 ·have e1:decide ((i:Int) < (g.l.length:Int))=true:=decide_eq_true (by omega)
  have k1:Xam QP gp 47 [g.v,vi (i:Int)] (.tup [.one (.d (.sl (Xai (kd g (i:Int))))),vi (atE g.l (i:Int))]):=Wep (gp:=gp) g i hs
  repeat' first|refine Kn rfl ?_|((first|refine Ka ?_|refine Kb ?_|refine Kv ?_|refine Ke ?_);simp only[e1,go_sem])|refine Kf ?_|refine Kg ?_|refine⟨_,k1,Kg ?_⟩|refine⟨_,⟨k1,rfl⟩,Kg ?_⟩|(apply Kp<;>intro _<;>try (exfalso;omega))|((first|refine Kh ?_|refine Ki rfl ?_);simp only[e1,or_self,Qs,Qt,Qu,Qv,Qw,Qx,Qy,Qz,Za,go_sem])
  refine⟨by simp,by rw[Xry];omega,by rw[Xry];unfold Xab;omega,?_⟩
  rw[X0i]
  repeat' first|refine Kn rfl ?_|((first|refine Ka ?_|refine Kb ?_|refine Kv ?_|refine Ke ?_);simp only[e1,go_sem])|refine Kf ?_|refine Kg ?_|refine⟨_,k1,Kg ?_⟩|refine⟨_,⟨k1,rfl⟩,Kg ?_⟩|(apply Kp<;>intro _<;>try (exfalso;omega))|((first|refine Kh ?_|refine Ki rfl ?_);simp only[e1,or_self,Qs,Qt,Qu,Qv,Qw,Qx,Qy,Qz,Za,go_sem])
  refine Xeu 9 1 (by decide) rfl ?_
  simp only[go_sem]
  refine Kt (fr 106 [(1,.one (.d (.bx [.int .i64 g.root,.sl (nds g.l)]))),(3,vi g.l.length),(4,.one (.own 0 (i+1))),(5,.one (.own 1 i)),(6,vi (i:Int)),(9,.one (.own 3 0)),(10,vi ((0:Nat):Int))]) ?_
  refine Km (fun mz sz=>∃ j:Nat,j<=g.l.length/\mz=g.l.length - j/\sz=⟨fr 106 [(1,.one (.d (.bx [.int .i64 g.root,.sl (nds g.l)]))),(3,vi g.l.length),(4,.one (.own 0 (i+1))),(5,.one (.own 1 i)),(6,vi (i:Int)),(9,.one (.own 3 j)),(10,vi (j:Int))],[.row 1 (i+1) (Xd5 g (i+1)),.row 1 i (Xge vs),.pool 1 (Xe4 vs (X0p g.l)),.row 1 j (bls (Yha g.l i j))]⟩) g.l.length ⟨0,Nat.zero_le _,rfl,by simp[Yha]⟩ ?_
  rintro _ _ ⟨j,hj,rfl,rfl⟩
  simp only[go_sem]
  by_cases hjl:j < g.l.length
  ·have e2:decide ((j:Int) < (g.l.length:Int))=true:=decide_eq_true (by omega)
   have f1:Xam QP gp 22 [g.v,vi (i:Int),g.v,vi (j:Int)] (vb (Xpf (Xbg g.l (i:Nat)) (Xbg g.l (j:Nat)))):=Wu2 (gp:=gp) g g i j hs hs hil hjl
   repeat' first|refine Kn rfl ?_|((first|refine Ka ?_|refine Kb ?_|refine Kv ?_|refine Ke ?_);simp only[e2,go_sem])|refine Kf ?_|refine Kg ?_|refine⟨_,f1,Kg ?_⟩|refine⟨_,⟨f1,rfl⟩,Kg ?_⟩|(apply Kp<;>intro _<;>try (exfalso;omega))|((first|refine Kh ?_|refine Ki rfl ?_);simp only[e2,or_self,Qs,Qt,Qu,Qv,Qw,Qx,Qy,Qz,Za,go_sem])
   refine⟨by simp,by rw[Xy0];omega,by rw[Xy0];unfold Xab;omega,?_⟩
   rw[Ygw]
   repeat' first|refine Kn rfl ?_|((first|refine Ka ?_|refine Kb ?_|refine Kv ?_|refine Ke ?_);simp only[e2,go_sem])|refine Kf ?_|refine Kg ?_|(apply Kp<;>intro _<;>try (exfalso;omega))|((first|refine Kh ?_|refine Ki rfl ?_);simp only[e2,or_self,Qs,Qt,Qu,Qv,Qw,Qx,Qy,Qz,Za,go_sem])
   refine⟨Xaf hjl (by unfold Xab;omega),?_⟩
   refine Kt (fr 106 [(1,.one (.d (.bx [.int .i64 g.root,.sl (nds g.l)]))),(3,vi g.l.length),(4,.one (.own 0 (i+1))),(5,.one (.own 1 i)),(6,vi (i:Int)),(9,.one (.own 3 (j+1))),(10,vi (j+1))]) ?_
   exact Kl ⟨g.l.length - (j+1),by omega,j+1,by omega,rfl,rfl⟩
  ·obtain rfl:j=g.l.length:=by omega
   have e2:decide ((g.l.length:Int) < (g.l.length:Int))=false:=decide_eq_false (by omega)
   repeat' first|refine Ko rfl ?_|((first|refine Ka ?_|refine Kb ?_|refine Kv ?_|refine Ke ?_);simp only[e2,go_sem])|refine Kf ?_|refine Kg ?_|(apply Kp<;>intro _<;>try (exfalso;omega))|((first|refine Kh ?_|refine Ki rfl ?_);simp only[e2,or_self,Qs,Qt,Qu,Qv,Qw,Qx,Qy,Qz,Za,go_sem])
   refine Xc3 rfl ?_
   refine Wsf 9 3 2 rfl rfl rfl fun v=>?_
   simp only[go_sem]
   repeat' first|refine Kn rfl ?_|((first|refine Ka ?_|refine Kb ?_|refine Kv ?_|refine Ke ?_);simp only[e2,go_sem])|refine Kf ?_|refine Kg ?_|(apply Kp<;>intro _<;>try (exfalso;omega))|((first|refine Kh ?_|refine Ki rfl ?_);simp only[e2,or_self,Qs,Qt,Qu,Qv,Qw,Qx,Qy,Qz,Za,go_sem])
   subst hvs
   refine⟨by simp,by omega,by unfold Xab;omega,?_⟩
   rw[show Xge vs++[[.raw v]]=Xge (vs++[v]) from by simp,show Xe4 vs (X0p g.l)++[some (v,bls (Yha g.l vs.length g.l.length))]=Xe4 (vs++[v]) (X0p g.l) from Xrx (fun (r:List Bool) (v:Value)=>(some (v,bls r):Option (Value × List (List D)))) (Yok g.l hil)]
   repeat' first|refine Kn rfl ?_|((first|refine Ka ?_|refine Kb ?_|refine Kv ?_|refine Ke ?_);simp only[go_sem])|refine Kf ?_|refine Kg ?_|(apply Kp<;>intro _<;>try (exfalso;omega))|((first|refine Kh ?_|refine Ki rfl ?_);simp only[or_self,Qs,Qt,Qu,Qv,Qw,Qx,Qy,Qz,Za,go_sem])
   refine⟨Xaf hil (by unfold Xab;omega),?_⟩
   refine Kt (fr 106 [(1,.one (.d (.bx [.int .i64 g.root,.sl (nds g.l)]))),(3,vi g.l.length),(4,.one (.own 0 (vs.length+1))),(5,.one (.own 1 (vs.length+1))),(6,vi (vs.length+1))]) ?_
   simp only[go_sem]
   refine Ku 3 ?_
   simp only[go_sem]
   exact Kl ⟨g.l.length - (vs.length+1),by omega,vs.length+1,vs++[v],by omega,rfl,by simp,rfl⟩
 ·obtain rfl:i=g.l.length:=by omega
  have e1:decide ((g.l.length:Int) < (g.l.length:Int))=false:=decide_eq_false (by omega)
  repeat' first|refine Ko rfl ?_|((first|refine Ka ?_|refine Kb ?_|refine Kv ?_|refine Ke ?_);simp only[e1,go_sem])|refine Kf ?_|refine Kg ?_|(apply Kp<;>intro _<;>try (exfalso;omega))|((first|refine Kh ?_|refine Ki rfl ?_);simp only[e1,or_self,Qs,Qt,Qu,Qv,Qw,Qx,Qy,Qz,Za,go_sem])
  refine Xc3 rfl ?_
  refine Xat 0 ?_
  simp only[go_sem]
  repeat' first|refine Kn rfl ?_|((first|refine Ka ?_|refine Kb ?_|refine Kv ?_|refine Ke ?_);simp only[go_sem])|refine Kf ?_|refine Kg ?_|(apply Kp<;>intro _<;>try (exfalso;omega))|((first|refine Kh ?_|refine Ki rfl ?_);simp only[or_self,Qs,Qt,Qu,Qv,Qw,Qx,Qy,Qz,Za,go_sem])
  refine Kt (fr 106 [(1,.one (.d (.bx [.int .i64 g.root,.sl (nds g.l)]))),(3,vi g.l.length),(4,.one (.d (.sl (Xd5 g g.l.length)))),(5,.one (.own 1 g.l.length)),(11,vb true)]) ?_
  refine Km (fun mz sz=>∃ (M':List (List Bool)) (vs':List Value) (ch:Bool),mz=Yoj M'+(if ch=true then 1 else 0)/\vs'.length=g.l.length/\GrI g.l M'/\(ch=false->M'=Xp1 g.l)/\sz=⟨fr 106 [(1,.one (.d (.bx [.int .i64 g.root,.sl (nds g.l)]))),(3,vi g.l.length),(4,.one (.d (.sl (Xd5 g g.l.length)))),(5,.one (.own 1 g.l.length)),(11,vb ch)],[.dead,.row 1 g.l.length (Xge vs'),.pool 1 (Xe4 vs' M')]⟩) (Yoj (X0p g.l)+1) ⟨X0p g.l,vs,true,rfl,hvs,GrI.first,(fun e=>by cases e),rfl⟩ ?_
  rintro _ _ ⟨Ms,vs0,ch,rfl,hv0,hgr,hcl,rfl⟩
  simp only[go_sem]
  cases ch with
  | false =>
   have hMs:=hcl rfl
   subst hMs
   repeat' first|refine Ko rfl ?_|((first|refine Ka ?_|refine Kb ?_|refine Kv ?_|refine Ke ?_);simp only[go_sem])|refine Kf ?_|refine Kg ?_|(apply Kp<;>intro _<;>try (exfalso;omega))|((first|refine Kh ?_|refine Ki rfl ?_);simp only[or_self,Qs,Qt,Qu,Qv,Qw,Qx,Qy,Qz,Za,go_sem])
   refine Xc3 rfl ?_
   refine Wfu 1 2 (Xg4 (Xp1 g.l)) rfl rfl (Yg0 hv0 hgr.len) ?_
   simp only[go_sem]
   refine Xat 1 ?_
   simp only[go_sem]
   repeat' first|refine Kn rfl ?_|((first|refine Ka ?_|refine Kb ?_|refine Kv ?_|refine Ke ?_);simp only[go_sem])|refine Kf ?_|refine Kg ?_|(apply Kp<;>intro _<;>try (exfalso;omega))|((first|refine Kh ?_|refine Ki rfl ?_);simp only[or_self,Qs,Qt,Qu,Qv,Qw,Qx,Qy,Qz,Za,go_sem])
  | true =>
   repeat' first|refine Kn rfl ?_|((first|refine Ka ?_|refine Kb ?_|refine Kv ?_|refine Ke ?_);simp only[go_sem])|refine Kf ?_|refine Kg ?_|(apply Kp<;>intro _<;>try (exfalso;omega))|((first|refine Kh ?_|refine Ki rfl ?_);simp only[or_self,Qs,Qt,Qu,Qv,Qw,Qx,Qy,Qz,Za,go_sem])
   refine Kt (fr 106 [(1,.one (.d (.bx [.int .i64 g.root,.sl (nds g.l)]))),(3,vi g.l.length),(4,.one (.d (.sl (Xd5 g g.l.length)))),(5,.one (.own 1 g.l.length)),(11,vb false),(12,vi ((0:Nat):Int))]) ?_
   refine Km (fun mz sz=>∃ (i:Nat) (M':List (List Bool)) (vs':List Value) (c':Bool),i<=g.l.length/\mz=g.l.length - i/\vs'.length=g.l.length/\GrP g.l Ms M' c' i 0 0/\sz=⟨fr 106 [(1,.one (.d (.bx [.int .i64 g.root,.sl (nds g.l)]))),(3,vi g.l.length),(4,.one (.d (.sl (Xd5 g g.l.length)))),(5,.one (.own 1 g.l.length)),(11,vb c'),(12,vi (i:Int))],[.dead,.row 1 g.l.length (Xge vs'),.pool 1 (Xe4 vs' M')]⟩) g.l.length ⟨0,Ms,vs0,false,Nat.zero_le _,rfl,hv0,GrP.first hgr,rfl⟩ ?_
   rintro _ _ ⟨i,M1,vs1,c1,hi,rfl,hv1,hP1,rfl⟩
   simp only[go_sem]
   by_cases hil:i < g.l.length
   ·have e1:decide ((i:Int) < (g.l.length:Int))=true:=decide_eq_true (by omega)
    repeat' first|refine Kn rfl ?_|((first|refine Ka ?_|refine Kb ?_|refine Kv ?_|refine Ke ?_);simp only[e1,go_sem])|refine Kf ?_|refine Kg ?_|(apply Kp<;>intro _<;>try (exfalso;omega))|((first|refine Kh ?_|refine Ki rfl ?_);simp only[e1,or_self,Qs,Qt,Qu,Qv,Qw,Qx,Qy,Qz,Za,go_sem])
    refine Kt (fr 106 [(1,.one (.d (.bx [.int .i64 g.root,.sl (nds g.l)]))),(3,vi g.l.length),(4,.one (.d (.sl (Xd5 g g.l.length)))),(5,.one (.own 1 g.l.length)),(11,vb c1),(12,vi (i:Int)),(13,vi ((0:Nat):Int))]) ?_
    refine Km (fun mz sz=>∃ (j:Nat) (M':List (List Bool)) (vs':List Value) (c':Bool),j<=g.l.length/\mz=g.l.length - j/\vs'.length=g.l.length/\GrP g.l Ms M' c' i j 0/\sz=⟨fr 106 [(1,.one (.d (.bx [.int .i64 g.root,.sl (nds g.l)]))),(3,vi g.l.length),(4,.one (.d (.sl (Xd5 g g.l.length)))),(5,.one (.own 1 g.l.length)),(11,vb c'),(12,vi (i:Int)),(13,vi (j:Int))],[.dead,.row 1 g.l.length (Xge vs'),.pool 1 (Xe4 vs' M')]⟩) g.l.length ⟨0,M1,vs1,c1,Nat.zero_le _,rfl,hv1,hP1,rfl⟩ ?_
    rintro _ _ ⟨j,M2,vs2,c2,hj,rfl,hv2,hP2,rfl⟩
    simp only[go_sem]
    by_cases hjl:j < g.l.length
    ·have e2:decide ((j:Int) < (g.l.length:Int))=true:=decide_eq_true (by omega)
     repeat' first|refine Kn rfl ?_|((first|refine Ka ?_|refine Kb ?_|refine Kv ?_|refine Ke ?_);simp only[e2,go_sem])|refine Kf ?_|refine Kg ?_|(apply Kp<;>intro _<;>try (exfalso;omega))|((first|refine Kh ?_|refine Ki rfl ?_);simp only[e2,or_self,Qs,Qt,Qu,Qv,Qw,Qx,Qy,Qz,Za,go_sem])
     refine Kt (fr 106 [(1,.one (.d (.bx [.int .i64 g.root,.sl (nds g.l)]))),(3,vi g.l.length),(4,.one (.d (.sl (Xd5 g g.l.length)))),(5,.one (.own 1 g.l.length)),(11,vb c2),(12,vi (i:Int)),(13,vi (j:Int)),(14,vi ((0:Nat):Int))]) ?_
     refine Km (fun mz sz=>∃ (k:Nat) (M':List (List Bool)) (vs':List Value) (c':Bool),k<=(kd g (i:Nat)).length/\mz=(kd g (i:Nat)).length - k/\vs'.length=g.l.length/\GrP g.l Ms M' c' i j k/\sz=⟨fr 106 [(1,.one (.d (.bx [.int .i64 g.root,.sl (nds g.l)]))),(3,vi g.l.length),(4,.one (.d (.sl (Xd5 g g.l.length)))),(5,.one (.own 1 g.l.length)),(11,vb c'),(12,vi (i:Int)),(13,vi (j:Int)),(14,vi (k:Int))],[.dead,.row 1 g.l.length (Xge vs'),.pool 1 (Xe4 vs' M')]⟩) (kd g (i:Nat)).length ⟨0,M2,vs2,c2,Nat.zero_le _,rfl,hv2,hP2,rfl⟩ ?_
     rintro _ _ ⟨k,M3,vs3,c3,hk,rfl,hv3,hP3,rfl⟩
     simp only[go_sem]
     have hMl:=hP3.gr.len
     obtain⟨r,hr⟩:=Xaj (l:=M3) (i:=i) (by omega)
     have hrl:=hP3.gr.row r (List.mem_of_getElem? hr)
     obtain⟨b,hb⟩:=Xaj (l:=r) (i:=j) (by omega)
     have hmb:mAt M3 i j=b:=by unfold mAt;rw[hr,Option.getD_some,hb];rfl
     have hjr:j < r.length:=by omega
     have hMr:M3.set i r=M3:=Xiu hr
     have hlI:i < (Xko vs3 i).length:=by rw[Xmx];omega
     have hgI:=Xjg (vs:=vs3) (a:=i) (by omega)
     by_cases hkl:k < (kd g (i:Nat)).length
     ·have e3:decide ((k:Int) < ((kd g (i:Nat)).length:Int))=true:=decide_eq_true (by omega)
      refine Ygy (a:=i) (by omega) hr ?_
      refine Xzl ?_
      refine Xzl ?_
      refine Ygx rfl fun K hK=>?_
      repeat' first|refine Kn rfl ?_|((first|refine Ka ?_|refine Kb ?_|refine Kv ?_|refine Ke ?_);simp only[e3,go_sem])|refine Kf ?_|refine Kg ?_|refine⟨_,⟨Kq _,Xjf g hil,rfl⟩,Kg ?_⟩|refine⟨Kq _,hlI,_,⟨hgI,of_decide_eq_true rfl⟩,Kg ?_⟩|refine⟨Kq _,hjr,_,⟨Xad hb,of_decide_eq_true rfl⟩,Kg ?_⟩|refine⟨Kq _,hlI,?_⟩|refine⟨_,⟨hgI,of_decide_eq_true rfl⟩,Kg ?_⟩|refine⟨Kq _,hjr,?_⟩|refine⟨_,⟨Xad hb,of_decide_eq_true rfl⟩,Kg ?_⟩|(apply Kp<;>intro _<;>try (exfalso;omega))|((first|refine Kh ?_|refine Ki rfl ?_);simp only[e3,or_self,Qs,Qt,Qu,Qv,Qw,Qx,Qy,Qz,Za,go_sem])
      refine Ygz r (by omega) (by omega) (fr':=fr 106 [(1,.one (.d (.bx [.int .i64 g.root,.sl (nds g.l)]))),(3,vi g.l.length),(4,.one (.d (.sl (Xd5 g g.l.length)))),(5,.one (.own 1 g.l.length)),(11,vb c3),(12,vi (i:Int)),(13,vi (j:Int)),(14,vi (k:Int)),(76,vb b)]) (by (simp only[go_sem];repeat' (first|refine Kp ?_ ?_|exact Or.inl rfl|exact Or.inr rfl|rfl))) (by simp only[go_sem]) (by exact Nat.zero_le _) fun v'=>?_
      rw[hMr]
      subst hK
      have hv4:(vs3.set i v').length=g.l.length:=by rw[List.length_set];exact hv3
      generalize vs3.set i v'=vs4 at hv4 ⊢
      cases b with
      | false =>
       repeat' first|refine Ko rfl ?_|((first|refine Ka ?_|refine Kb ?_|refine Kv ?_|refine Ke ?_);simp only[go_sem])|refine Kf ?_|refine Kg ?_|(apply Kp<;>intro _<;>try (exfalso;omega))|((first|refine Kh ?_|refine Ki rfl ?_);simp only[or_self,Qs,Qt,Qu,Qv,Qw,Qx,Qy,Qz,Za,go_sem])
       refine Xc3 rfl ?_
       repeat' first|refine Kn rfl ?_|((first|refine Ka ?_|refine Kb ?_|refine Kv ?_|refine Ke ?_);simp only[go_sem])|refine Kf ?_|refine Kg ?_|(apply Kp<;>intro _<;>try (exfalso;omega))|((first|refine Kh ?_|refine Ki rfl ?_);simp only[or_self,Qs,Qt,Qu,Qv,Qw,Qx,Qy,Qz,Za,go_sem])
       refine⟨Xaf hjl (by unfold Xab;omega),?_⟩
       refine Kt (fr 106 [(1,.one (.d (.bx [.int .i64 g.root,.sl (nds g.l)]))),(3,vi g.l.length),(4,.one (.d (.sl (Xd5 g g.l.length)))),(5,.one (.own 1 g.l.length)),(11,vb c3),(12,vi (i:Int)),(13,vi (j+1))]) ?_
       exact Kl ⟨g.l.length - (j+1),by omega,j+1,M3,vs4,c3,by omega,rfl,hv4,hP3.jgo (.inr hmb),rfl⟩
      | true =>
       have hfit:=hP3.gr.fit i j hmb
       have hkl2:(kd g (i:Nat)).length=(kd g (j:Nat)).length:=Xrl (g:=g) (h:=g) hG hG (p:=((i:Int),(j:Int))) hfit
       obtain⟨p,hp⟩:=Xaj (l:=kd g (i:Nat)) (i:=k) hkl
       obtain⟨q,hq⟩:=Xaj (l:=kd g (j:Nat)) (i:=k) (by omega)
       have hpi:=hF.kid _ _ (List.mem_of_getElem? hp)
       have hqi:=hF.kid _ _ (List.mem_of_getElem? hq)
       unfold inL at hpi hqi
       obtain⟨p,rfl⟩:=Int.eq_ofNat_of_zero_le hpi.1
       obtain⟨q,rfl⟩:=Int.eq_ofNat_of_zero_le hqi.1
       obtain⟨r2,hr2⟩:=Xaj (l:=M3) (i:=p) (by omega)
       have hrl2:=hP3.gr.row r2 (List.mem_of_getElem? hr2)
       obtain⟨b2,hb2⟩:=Xaj (l:=r2) (i:=q) (by omega)
       have hmb2:mAt M3 (p:Int).toNat (q:Int).toNat=b2:=by rw[Int.toNat_natCast,Int.toNat_natCast];unfold mAt;rw[hr2,Option.getD_some,hb2];rfl
       have hqr:q < r2.length:=by omega
       have hMr2:M3.set p r2=M3:=Xiu hr2
       have hlP:p < (Xko vs4 p).length:=by rw[Xmx];omega
       have hgP:=Xjg (vs:=vs4) (a:=p) (by omega)
       repeat' first|refine Kn rfl ?_|(refine Ke ?_;simp only[go_sem])
       refine Ygy (a:=p) (by omega) hr2 ?_
       refine Ygx rfl fun K hK=>?_
       repeat' first|refine Kn rfl ?_|((first|refine Ka ?_|refine Kb ?_|refine Kv ?_|refine Ke ?_);simp only[go_sem])|refine Kf ?_|refine Kg ?_|refine⟨_,⟨Kq _,Xjf g hil,rfl⟩,Kg ?_⟩|refine⟨_,⟨Kq _,Xjf g hjl,rfl⟩,Kg ?_⟩|refine⟨_,⟨Kq _,Xad hp,rfl⟩,Kg ?_⟩|refine⟨_,⟨Kq _,Xad hq,rfl⟩,Kg ?_⟩|refine⟨Kq _,hlP,_,⟨hgP,of_decide_eq_true rfl⟩,Kg ?_⟩|refine⟨Kq _,hqr,_,⟨Xad hb2,of_decide_eq_true rfl⟩,Kg ?_⟩|refine⟨Kq _,hlP,?_⟩|refine⟨_,⟨hgP,of_decide_eq_true rfl⟩,Kg ?_⟩|refine⟨Kq _,hqr,?_⟩|refine⟨_,⟨Xad hb2,of_decide_eq_true rfl⟩,Kg ?_⟩|(apply Kp<;>intro _<;>try (exfalso;omega))|((first|refine Kh ?_|refine Ki rfl ?_);simp only[or_self,Qs,Qt,Qu,Qv,Qw,Qx,Qy,Qz,Za,go_sem])
       refine Ygz r2 (by omega) (by omega) (fr':=fr 106 [(1,.one (.d (.bx [.int .i64 g.root,.sl (nds g.l)]))),(3,vi g.l.length),(4,.one (.d (.sl (Xd5 g g.l.length)))),(5,.one (.own 1 g.l.length)),(11,vb c3),(12,vi (i:Int)),(13,vi (j:Int)),(14,vi (k:Int)),(98,vb (!b2))]) (by (simp only[go_sem];repeat' (first|refine Kp ?_ ?_|exact Or.inl rfl|exact Or.inr rfl|rfl))) (by simp only[go_sem]) (by exact Nat.zero_le _) fun v'=>?_
       rw[hMr2]
       subst hK
       have hv5:(vs4.set p v').length=g.l.length:=by rw[List.length_set];exact hv4
       generalize vs4.set p v'=vs5 at hv5 ⊢
       have hlI5:i < (Xko vs5 i).length:=by rw[Xmx];omega
       have hgI5:=Xjg (vs:=vs5) (a:=i) (by omega)
       cases b2 with
       | true =>
        repeat' first|refine Kn rfl ?_|((first|refine Ka ?_|refine Kb ?_|refine Kv ?_|refine Ke ?_);simp only[go_sem])|refine Kf ?_|refine Kg ?_|(apply Kp<;>intro _<;>try (exfalso;omega))|((first|refine Kh ?_|refine Ki rfl ?_);simp only[or_self,Qs,Qt,Qu,Qv,Qw,Qx,Qy,Qz,Za,go_sem])
        refine⟨Xaf (n:=1000) (by have:=Xri hs (i:Nat);omega) (by unfold Xab;omega),?_⟩
        refine Kt (fr 106 [(1,.one (.d (.bx [.int .i64 g.root,.sl (nds g.l)]))),(3,vi g.l.length),(4,.one (.d (.sl (Xd5 g g.l.length)))),(5,.one (.own 1 g.l.length)),(11,vb c3),(12,vi (i:Int)),(13,vi (j:Int)),(14,vi (k+1))]) ?_
        exact Kl ⟨(kd g (i:Nat)).length - (k+1),by omega,k+1,M3,vs5,c3,by omega,rfl,hv5,hP3.kgo hp hq hmb2,rfl⟩
       | false =>
        repeat' first|refine Kn rfl ?_|(refine Ke ?_;simp only[go_sem])
        refine Ygy (a:=i) (by omega) hr ?_
        refine Ygx rfl fun K hK=>?_
        repeat' first|refine Kn rfl ?_|((first|refine Ka ?_|refine Kb ?_|refine Kv ?_|refine Ke ?_);simp only[go_sem])|refine Kf ?_|refine Kg ?_|refine⟨Kq _,hlI5,_,⟨hgI5,of_decide_eq_true rfl⟩,Kg ?_⟩|refine⟨Kq _,hjr,_,⟨Xad hb,of_decide_eq_true rfl⟩,Kg ?_⟩|(apply Kp<;>intro _<;>try (exfalso;omega))|((first|refine Kh ?_|refine Ki rfl ?_);simp only[or_self,Qs,Qt,Qu,Qv,Qw,Qx,Qy,Qz,Za,go_sem])
        rw[show (bls r).set j (.bool false::List.drop 1 [.bool true])=bls (r.set j false) from by simp[List.map_set]]
        refine Ygz (r.set j false) (by omega) (by omega) (fr':=fr 106 [(1,.one (.d (.bx [.int .i64 g.root,.sl (nds g.l)]))),(3,vi g.l.length),(4,.one (.d (.sl (Xd5 g g.l.length)))),(5,.one (.own 1 g.l.length)),(11,vb c3),(12,vi (i:Int)),(13,vi (j:Int)),(14,vi (k:Int))]) (by (simp only[go_sem];repeat' (first|refine Kp ?_ ?_|exact Or.inl rfl|exact Or.inr rfl|rfl))) (by simp only[go_sem]) (by exact Nat.zero_le _) fun v'=>?_
        rw[show M3.set i (r.set j false)=X0q M3 i j from by unfold X0q;rw[hr];rfl]
        subst hK
        have hv6:(vs5.set i v').length=g.l.length:=by rw[List.length_set];exact hv5
        generalize vs5.set i v'=vs6 at hv6 ⊢
        repeat' first|refine Kn rfl ?_|((first|refine Ka ?_|refine Kb ?_|refine Kv ?_|refine Ke ?_);simp only[go_sem])|refine Kf ?_|refine Kg ?_|(apply Kp<;>intro _<;>try (exfalso;omega))|((first|refine Kh ?_|refine Ki rfl ?_);simp only[or_self,Qs,Qt,Qu,Qv,Qw,Qx,Qy,Qz,Za,go_sem])
        refine⟨Xaf (n:=1000) (by have:=Xri hs (i:Nat);omega) (by unfold Xab;omega),?_⟩
        refine Kt (fr 106 [(1,.one (.d (.bx [.int .i64 g.root,.sl (nds g.l)]))),(3,vi g.l.length),(4,.one (.d (.sl (Xd5 g g.l.length)))),(5,.one (.own 1 g.l.length)),(11,vb true),(12,vi (i:Int)),(13,vi (j:Int)),(14,vi (k+1))]) ?_
        exact Kl ⟨(kd g (i:Nat)).length - (k+1),by omega,k+1,X0q M3 i j,vs6,true,by omega,rfl,hv6,hP3.kcut hmb hp hq hmb2,rfl⟩
     ·obtain rfl:k=(kd g (i:Nat)).length:=by omega
      have e3:decide (((kd g (i:Nat)).length:Int) < ((kd g (i:Nat)).length:Int))=false:=decide_eq_false (by omega)
      repeat' first|refine Ko rfl ?_|((first|refine Ka ?_|refine Kb ?_|refine Kv ?_|refine Ke ?_);simp only[e3,go_sem])|refine Kf ?_|refine Kg ?_|refine⟨_,⟨Kq _,Xjf g hil,rfl⟩,Kg ?_⟩|(apply Kp<;>intro _<;>try (exfalso;omega))|((first|refine Kh ?_|refine Ki rfl ?_);simp only[e3,or_self,Qs,Qt,Qu,Qv,Qw,Qx,Qy,Qz,Za,go_sem])
      refine Xc3 rfl ?_
      repeat' first|refine Kn rfl ?_|((first|refine Ka ?_|refine Kb ?_|refine Kv ?_|refine Ke ?_);simp only[go_sem])|refine Kf ?_|refine Kg ?_|(apply Kp<;>intro _<;>try (exfalso;omega))|((first|refine Kh ?_|refine Ki rfl ?_);simp only[or_self,Qs,Qt,Qu,Qv,Qw,Qx,Qy,Qz,Za,go_sem])
      refine⟨Xaf hjl (by unfold Xab;omega),?_⟩
      refine Kt (fr 106 [(1,.one (.d (.bx [.int .i64 g.root,.sl (nds g.l)]))),(3,vi g.l.length),(4,.one (.d (.sl (Xd5 g g.l.length)))),(5,.one (.own 1 g.l.length)),(11,vb c3),(12,vi (i:Int)),(13,vi (j+1))]) ?_
      exact Kl ⟨g.l.length - (j+1),by omega,j+1,M3,vs3,c3,by omega,rfl,hv3,hP3.jgo (.inl (Nat.le_refl _)),rfl⟩
    ·obtain rfl:j=g.l.length:=by omega
     have e2:decide ((g.l.length:Int) < (g.l.length:Int))=false:=decide_eq_false (by omega)
     repeat' first|refine Ko rfl ?_|((first|refine Ka ?_|refine Kb ?_|refine Kv ?_|refine Ke ?_);simp only[e2,go_sem])|refine Kf ?_|refine Kg ?_|(apply Kp<;>intro _<;>try (exfalso;omega))|((first|refine Kh ?_|refine Ki rfl ?_);simp only[e2,or_self,Qs,Qt,Qu,Qv,Qw,Qx,Qy,Qz,Za,go_sem])
     refine Xc3 rfl ?_
     repeat' first|refine Kn rfl ?_|((first|refine Ka ?_|refine Kb ?_|refine Kv ?_|refine Ke ?_);simp only[go_sem])|refine Kf ?_|refine Kg ?_|(apply Kp<;>intro _<;>try (exfalso;omega))|((first|refine Kh ?_|refine Ki rfl ?_);simp only[or_self,Qs,Qt,Qu,Qv,Qw,Qx,Qy,Qz,Za,go_sem])
     refine⟨Xaf hil (by unfold Xab;omega),?_⟩
     refine Kt (fr 106 [(1,.one (.d (.bx [.int .i64 g.root,.sl (nds g.l)]))),(3,vi g.l.length),(4,.one (.d (.sl (Xd5 g g.l.length)))),(5,.one (.own 1 g.l.length)),(11,vb c2),(12,vi (i+1))]) ?_
     exact Kl ⟨g.l.length - (i+1),by omega,i+1,M2,vs2,c2,by omega,rfl,hv2,hP2.igo (Nat.le_refl _),rfl⟩
   ·obtain rfl:i=g.l.length:=by omega
    have e1:decide ((g.l.length:Int) < (g.l.length:Int))=false:=decide_eq_false (by omega)
    repeat' first|refine Ko rfl ?_|((first|refine Ka ?_|refine Kb ?_|refine Kv ?_|refine Ke ?_);simp only[e1,go_sem])|refine Kf ?_|refine Kg ?_|(apply Kp<;>intro _<;>try (exfalso;omega))|((first|refine Kh ?_|refine Ki rfl ?_);simp only[e1,or_self,Qs,Qt,Qu,Qv,Qw,Qx,Qy,Qz,Za,go_sem])
    refine Xc3 rfl ?_
    repeat' first|refine Kn rfl ?_|((first|refine Ka ?_|refine Kb ?_|refine Kv ?_|refine Ke ?_);simp only[go_sem])|refine Kf ?_|refine Kg ?_|(apply Kp<;>intro _<;>try (exfalso;omega))|((first|refine Kh ?_|refine Ki rfl ?_);simp only[or_self,Qs,Qt,Qu,Qv,Qw,Qx,Qy,Qz,Za,go_sem])
    refine Kt (fr 106 [(1,.one (.d (.bx [.int .i64 g.root,.sl (nds g.l)]))),(3,vi g.l.length),(4,.one (.d (.sl (Xd5 g g.l.length)))),(5,.one (.own 1 g.l.length)),(11,vb c1)]) ?_
    refine Kl ⟨Yoj M1+(if c1=true then 1 else 0),?_,M1,vs1,c1,rfl,hv1,hP1.gr,fun e=>?_,rfl⟩
    ·cases c1 with
     | true=>have:=hP1.up rfl;simp;omega
     | false=>have:=hP1.sm rfl;subst this;simp
    ·subst e;exact hP1.fin hF (Nat.le_refl _)
theorem Xr0:∀ (l:List Int) (k:Nat),k<=Xn6 l k
 | [],k=>Nat.le_refl _
 | c::r,k=>by
  have:=Xr0 r (if c < k then k else k+1)
  simp only[Xn6]
  split at this <;> rename_i h <;> simp only[h,if_true,if_false] <;> omega
theorem Xy1:∀ {l:List Int} {k:Nat},X0n l k->∀ z∈l,z < (Xn6 l k:Int)
 | [],_,_,z,hz=>by cases hz
 | c::r,k,h,z,hz=>by
  simp only[Xn6]
  have hge:=Xr0 r (if c < k then k else k+1)
  rcases List.mem_cons.1 hz with rfl|hz
  ·have:=h.2.1
   split at hge
   ·rename_i hc;rw[if_pos hc];omega
   ·rename_i hc;rw[if_neg hc];omega
  ·exact Xy1 h.2.2 z hz
theorem Xpu:∀ {l:List Int} {k:Nat},X0n l k->∀ z:Int,(k:Int)<=z->z < (Xn6 l k:Int)->z∈l
 | [],k,_,z,h1,h2=>by simp only[Xn6] at h2;omega
 | c::r,k,h,z,h1,h2=>by
  simp only[Xn6] at h2
  have h3:=h.2.2
  by_cases hc:c < (k:Int)
  ·rw[if_pos hc] at h2 h3
   exact List.mem_cons_of_mem _ (Xpu h3 z h1 h2)
  ·rw[if_neg hc] at h2 h3
   have:=h.2.1
   by_cases hz:z=c
   ·rw[hz];exact List.mem_cons_self
   ·exact List.mem_cons_of_mem _ (Xpu h3 z (by omega) h2)
theorem Xmy:∀ {l:List Int} {k:Nat} (i:Nat),X0n l k->X0n (l.take i) k
 | [],_,i,_=>by simp[X0n]
 | c::r,k,0,_=>by simp[X0n]
 | c::r,k,i+1,h=>⟨h.1,h.2.1,Xmy i h.2.2⟩
def Yvw (l:List Nd) (i:Nat):List Bool:=(List.range l.length).map fun j=>decide ((Xc5 l)[i]?=(Xc5 l)[j]?)
theorem Xy2 (l:List Nd) {i:Nat} (h:i < l.length):(Xp1 l)[i]?=some (Yvw l i):=by unfold Xp1 Yvw;rw[List.getElem?_map,List.getElem?_range h];rfl
theorem Xy3 (l:List Nd) {i j:Nat} (h:j < l.length):(Yvw l i)[j]?=some (decide ((Xc5 l)[i]?=(Xc5 l)[j]?)):=by unfold Yvw;rw[List.getElem?_map,List.getElem?_range h];rfl
set_option maxHeartbeats 2000000 in
theorem Yol (g:Gr) (hs:Xd9 g) (hst:∀ x∈g.l,x.short):Xam QP gp 15 [g.v] (.tup [.one (.d (.sl (Xai (cOf g)))),vi (Xf3 g)]):=by
 refine Wof ?_
 simp only[go_sem]
 have c1:=Xyf (gp:=gp) g hst
 by_cases hc:chk g=none
 ·have hg:Good g:=⟨hc,hs⟩
  have hgl:=hg.len
  have hCl:=Xk6 hg.fine
  have hord:=Xte hg.fine
  have c2:=Yvv (gp:=gp) g hg hs hg.fine (by omega)
  rw[hc] at c1
  dsimp only [Option.getD_none] at c1
  rw[Xps hg,Xcu hc]
  repeat' first|refine Kn rfl ?_|((first|refine Ka ?_|refine Kb ?_|refine Kv ?_|refine Ke ?_);simp only[go_sem])|refine Kf ?_|refine Kg ?_|refine⟨_,c1,Kg ?_⟩|refine⟨_,⟨c1,rfl⟩,Kg ?_⟩|refine⟨_,c2,Kg ?_⟩|refine⟨_,⟨c2,rfl⟩,Kg ?_⟩|(apply Kp<;>intro _<;>try (exfalso;omega))|((first|refine Kh ?_|refine Ki rfl ?_);simp only[or_self,Qs,Qt,Qu,Qv,Qw,Qx,Qy,Qz,Za,go_sem])
  refine Xeu 7 1 (by decide) rfl ?_
  simp only[go_sem]
  refine Kt (fr 57 [(1,.one (.d (.bx [.int .i64 g.root,.sl (nds g.l)]))),(6,.one (.d (.sl (Xg4 (Xp1 g.l))))),(7,.one (.own 0 0)),(8,vi ((0:Nat):Int)),(9,vi ((0:Nat):Int))]) ?_
  refine Km (fun mz sz=>∃ i n:Nat,i<=g.l.length/\mz=g.l.length - i/\n=Xn6 ((Xc5 g.l).take i) 0/\sz=⟨fr 57 [(1,.one (.d (.bx [.int .i64 g.root,.sl (nds g.l)]))),(6,.one (.d (.sl (Xg4 (Xp1 g.l))))),(7,.one (.own 0 i)),(8,vi (n:Int)),(9,vi (i:Int))],[.row 1 i (Xai ((Xc5 g.l).take i))]⟩) g.l.length ⟨0,0,Nat.zero_le _,rfl,by simp[Xn6],by simp[Xai]⟩ ?_
  rintro _ _ ⟨i,n,hi,rfl,hn,rfl⟩
  simp only[go_sem]
  have hni:n<=i:=by
   have:=Ycs ((Xc5 g.l).take i) 0
   rw[List.length_take] at this
   omega
  by_cases hil:i < g.l.length
  ·have e1:decide ((i:Int) < (g.l.length:Int))=true:=decide_eq_true (by omega)
   obtain⟨ci,hci⟩:=Xaj (l:=Xc5 g.l) (i:=i) (by omega)
   obtain⟨o1,o2,o3⟩:=Ycr hord hci
   rw[<- hn] at o2 o3
   have hM:(Xg4 (Xp1 g.l))[i]?=some [.sl (bls (Yvw g.l i))]:=by unfold Xg4;rw[List.getElem?_map,Xy2 g.l hil];rfl
   repeat' first|refine Kn rfl ?_|((first|refine Ka ?_|refine Kb ?_|refine Kv ?_|refine Ke ?_);simp only[e1,go_sem])|refine Kf ?_|refine Kg ?_|(apply Kp<;>intro _<;>try (exfalso;omega))|((first|refine Kh ?_|refine Ki rfl ?_);simp only[e1,or_self,Qs,Qt,Qu,Qv,Qw,Qx,Qy,Qz,Za,go_sem])
   refine⟨Xoy (by unfold Xab;omega),?_⟩
   repeat' first|refine Kn rfl ?_|((first|refine Ka ?_|refine Kb ?_|refine Kv ?_|refine Ke ?_);simp only[e1,go_sem])|refine Kf ?_|refine Kg ?_|(apply Kp<;>intro _<;>try (exfalso;omega))|((first|refine Kh ?_|refine Ki rfl ?_);simp only[e1,or_self,Qs,Qt,Qu,Qv,Qw,Qx,Qy,Qz,Za,go_sem])
   refine Kt (fr 57 [(1,.one (.d (.bx [.int .i64 g.root,.sl (nds g.l)]))),(6,.one (.d (.sl (Xg4 (Xp1 g.l))))),(7,.one (.own 0 i)),(8,vi (n:Int)),(9,vi (i:Int)),(10,vi (n:Int)),(11,vi ((i:Int) - 1))]) ?_
   refine Km (fun mz sz=>∃ (m:Nat) (z cc:Int),m<=i/\mz=m/\z=(m:Int) - 1/\((cc=ci/\∃ b,m<=b/\b < i/\(Xc5 g.l)[b]?=some ci)\/(cc=n/\∀ b,m<=b->b < i->(Xc5 g.l)[b]?≠some ci))/\sz=⟨fr 57 [(1,.one (.d (.bx [.int .i64 g.root,.sl (nds g.l)]))),(6,.one (.d (.sl (Xg4 (Xp1 g.l))))),(7,.one (.own 0 i)),(8,vi (n:Int)),(9,vi (i:Int)),(10,vi cc),(11,vi z)],[.row 1 i (Xai ((Xc5 g.l).take i))]⟩) i ⟨i,_,_,Nat.le_refl _,rfl,rfl,.inr ⟨rfl,fun b h1 h2=>by omega⟩,rfl⟩ ?_
   rintro m _ ⟨m',z,cc,hm,hmm,hz,hcc,rfl⟩
   subst hmm
   simp only[go_sem]
   cases m with
   | zero =>
    have e2:decide (z >= 0)=false:=decide_eq_false (by omega)
    obtain⟨n',hn',hcase⟩:∃ n',n'=Xn6 ((Xc5 g.l).take (i+1)) 0/\cc=ci/\((ci==(n:Int))=false/\n'=n\/(ci==(n:Int))=true/\n'=n+1):=by
     refine⟨_,rfl,?_⟩
     rw[o3]
     rcases hcc with ⟨rfl,b,_,hbi,hb⟩|⟨rfl,hno⟩
     ·have h1:=Xy1 (Xmy i hord) cc (List.mem_of_getElem? (i:=b) (by rw[List.getElem?_take,if_pos hbi];exact hb))
      rw[<- hn] at h1
      rw[if_pos h1]
      exact⟨rfl,.inl ⟨by simp;omega,rfl⟩⟩
     ·by_cases hcn:ci < (n:Int)
      ·have h1:=Xpu (Xmy i hord) ci (by omega) (by rw[<- hn];exact hcn)
       obtain⟨b,hb⟩:=List.mem_iff_getElem?.1 h1
       rw[List.getElem?_take] at hb
       split at hb
       ·rename_i hbi;exact absurd hb (hno b (Nat.zero_le _) hbi)
       ·cases hb
      ·rw[if_neg hcn]
       exact⟨by omega,.inr ⟨by simp;omega,rfl⟩⟩
    obtain⟨rfl,hcase⟩:=hcase
    have hsn:Xai ((Xc5 g.l).take i)++[[.int .i64 cc]]=Xai ((Xc5 g.l).take (i+1)):=Xea hci
    rcases hcase with ⟨e4,hn1⟩|⟨e4,hn1⟩
    case' inl =>
     subst hn1
     repeat' first|refine Kn rfl ?_|((first|refine Ka ?_|refine Kb ?_|refine Kv ?_|refine Ke ?_);simp only[e2,e4,go_sem])|refine Kf ?_|refine Kg ?_|(apply Kp<;>intro _<;>try (exfalso;omega))|((first|refine Kh ?_|refine Ki rfl ?_);simp only[e2,e4,or_self,Qs,Qt,Qu,Qv,Qw,Qx,Qy,Qz,Za,go_sem])
    case' inr =>
     have hnI:(n:Int)+1=(n':Int):=by omega
     repeat' first|refine Kn rfl ?_|((first|refine Ka ?_|refine Kb ?_|refine Kv ?_|refine Ke ?_);simp only[e2,e4,hnI,go_sem])|refine Kf ?_|refine Kg ?_|(apply Kp<;>intro _<;>try (exfalso;omega))|((first|refine Kh ?_|refine Ki rfl ?_);simp only[e2,e4,hnI,or_self,Qs,Qt,Qu,Qv,Qw,Qx,Qy,Qz,Za,go_sem])
     refine⟨by rw[<- hnI];exact Xaf (i:=n) (n:=1000) (by omega) (by unfold Xab;omega),?_⟩
     repeat' first|refine Kn rfl ?_|((first|refine Ka ?_|refine Kb ?_|refine Kv ?_|refine Ke ?_);simp only[e2,e4,hnI,go_sem])|refine Kf ?_|refine Kg ?_|(apply Kp<;>intro _<;>try (exfalso;omega))|((first|refine Kh ?_|refine Ki rfl ?_);simp only[e2,e4,hnI,or_self,Qs,Qt,Qu,Qv,Qw,Qx,Qy,Qz,Za,go_sem])
    all_goals
     refine⟨by simp,by simp[List.length_take];omega,by simp[List.length_take,Xab];omega,?_⟩
     rw[hsn]
     repeat' first|refine Kn rfl ?_|((first|refine Ka ?_|refine Kb ?_|refine Kv ?_|refine Ke ?_);simp only[go_sem])|refine Kf ?_|refine Kg ?_|(apply Kp<;>intro _<;>try (exfalso;omega))|((first|refine Kh ?_|refine Ki rfl ?_);simp only[or_self,Qs,Qt,Qu,Qv,Qw,Qx,Qy,Qz,Za,go_sem])
     refine⟨Xaf hil (by unfold Xab;omega),?_⟩
     refine Kt (fr 57 [(1,.one (.d (.bx [.int .i64 g.root,.sl (nds g.l)]))),(6,.one (.d (.sl (Xg4 (Xp1 g.l))))),(7,.one (.own 0 (i+1))),(8,vi (n':Int)),(9,vi (i+1))]) ?_
     exact Kl ⟨g.l.length - (i+1),by omega,i+1,n',by omega,rfl,hn',rfl⟩
   | succ k =>
    obtain rfl:z=(k:Int):=by omega
    have e2:decide ((k:Int) >= 0)=true:=decide_eq_true (by omega)
    obtain⟨ck,hck⟩:=Xaj (l:=Xc5 g.l) (i:=k) (by omega)
    have hR:=Xy3 g.l (i:=i) (j:=k) (by omega)
    rw[hci,hck] at hR
    have hO:((Xc5 g.l).take i)[k]?=some ck:=by rw[List.getElem?_take,if_pos (by omega)];exact hck
    have hkO:k < ((Xc5 g.l).take i).length:=by rw[List.length_take];omega
    by_cases hcc2:ci=ck
    ·subst hcc2
     rw[decide_eq_true rfl] at hR
     repeat' first|refine Kn rfl ?_|((first|refine Ka ?_|refine Kb ?_|refine Kv ?_|refine Ke ?_);simp only[e2,go_sem])|refine Kf ?_|refine Kg ?_|refine⟨_,⟨Kq _,hM,rfl⟩,Kg ?_⟩|refine⟨_,⟨Kq _,Xad hR,rfl⟩,Kg ?_⟩|refine⟨Kq _,hkO,_,⟨Xad hO,of_decide_eq_true rfl⟩,Kg ?_⟩|(apply Kp<;>intro _<;>try (exfalso;omega))|((first|refine Kh ?_|refine Ki rfl ?_);simp only[e2,or_self,Qs,Qt,Qu,Qv,Qw,Qx,Qy,Qz,Za,go_sem])
     refine⟨Xoy (by unfold Xab;omega),?_⟩
     refine Kt (fr 57 [(1,.one (.d (.bx [.int .i64 g.root,.sl (nds g.l)]))),(6,.one (.d (.sl (Xg4 (Xp1 g.l))))),(7,.one (.own 0 i)),(8,vi (n:Int)),(9,vi (i:Int)),(10,vi ci),(11,vi ((k:Int) - 1))]) ?_
     exact Kl ⟨k,by omega,k,_,ci,by omega,rfl,rfl,.inl ⟨rfl,k,Nat.le_refl _,by omega,hck⟩,rfl⟩
    ·rw[decide_eq_false (by simpa using hcc2)] at hR
     repeat' first|refine Kn rfl ?_|((first|refine Ka ?_|refine Kb ?_|refine Kv ?_|refine Ke ?_);simp only[e2,go_sem])|refine Kf ?_|refine Kg ?_|refine⟨_,⟨Kq _,hM,rfl⟩,Kg ?_⟩|refine⟨_,⟨Kq _,Xad hR,rfl⟩,Kg ?_⟩|refine⟨Kq _,hkO,_,⟨Xad hO,of_decide_eq_true rfl⟩,Kg ?_⟩|(apply Kp<;>intro _<;>try (exfalso;omega))|((first|refine Kh ?_|refine Ki rfl ?_);simp only[e2,or_self,Qs,Qt,Qu,Qv,Qw,Qx,Qy,Qz,Za,go_sem])
     refine⟨Xoy (by unfold Xab;omega),?_⟩
     refine Kt (fr 57 [(1,.one (.d (.bx [.int .i64 g.root,.sl (nds g.l)]))),(6,.one (.d (.sl (Xg4 (Xp1 g.l))))),(7,.one (.own 0 i)),(8,vi (n:Int)),(9,vi (i:Int)),(10,vi cc),(11,vi ((k:Int) - 1))]) ?_
     refine Kl ⟨k,by omega,k,_,cc,by omega,rfl,rfl,?_,rfl⟩
     rcases hcc with ⟨e,b,h1,h2,h3⟩|⟨e,hno⟩
     ·exact .inl ⟨e,b,by omega,h2,h3⟩
     ·refine .inr ⟨e,fun b h1 h2 h3=>?_⟩
      by_cases hbk:b=k
      ·subst hbk;rw[hck] at h3;exact hcc2 (Option.some.inj h3).symm
      ·exact hno b (by omega) h2 h3
  ·obtain rfl:i=g.l.length:=by omega
   have e1:decide ((g.l.length:Int) < (g.l.length:Int))=false:=decide_eq_false (by omega)
   rw[List.take_of_length_le (by omega)]
   repeat' first|refine Ko rfl ?_|((first|refine Ka ?_|refine Kb ?_|refine Kv ?_|refine Ke ?_);simp only[e1,go_sem])|refine Kf ?_|refine Kg ?_|(apply Kp<;>intro _<;>try (exfalso;omega))|((first|refine Kh ?_|refine Ki rfl ?_);simp only[e1,or_self,Qs,Qt,Qu,Qv,Qw,Qx,Qy,Qz,Za,go_sem])
   refine Xc3 rfl ?_
   refine Xat 0 ?_
   simp only[go_sem]
   repeat' first|refine Kn rfl ?_|((first|refine Ka ?_|refine Kb ?_|refine Kv ?_|refine Ke ?_);simp only[go_sem])|refine Kf ?_|refine Kg ?_|(apply Kp<;>intro _<;>try (exfalso;omega))|((first|refine Kh ?_|refine Ki rfl ?_);simp only[or_self,Qs,Qt,Qu,Qv,Qw,Qx,Qy,Qz,Za,go_sem])
   all_goals trace_state
 ·have he:=Xk1 hc
  have e0:cOf g=[]:=by unfold cOf;rw[if_neg hc]
  rw[e0]
  have c1:Xam QP gp 39 [g.v] (.tup [vi ((chk g).getD (0,0)).1,vi (Xf3 g)]):=c1
  generalize Xf3 g=e at *
  have hne:(e != 0)=true:=by simpa using he
  repeat' first|refine Kn rfl ?_|((first|refine Ka ?_|refine Kb ?_|refine Kv ?_|refine Ke ?_);simp only[hne,go_sem])|refine Kf ?_|refine Kg ?_|refine⟨_,c1,Kg ?_⟩|refine⟨_,⟨c1,rfl⟩,Kg ?_⟩|(apply Kp<;>intro _<;>try (exfalso;omega))|((first|refine Kh ?_|refine Ki rfl ?_);simp only[hne,or_self,Qs,Qt,Qu,Qv,Qw,Qx,Qy,Qz,Za,go_sem])
  all_goals trace_state
end Go.Fw.L07
