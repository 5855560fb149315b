/- Chapter 10,plain: paths on which nodes say unlike things. -/
import Derived.Test.YtejnfjophhnaeaaGreatDoorJa
import Derived.Test.YtejnfjophhnaeaaGreatDoorJc
import Derived.Test.YtejnfjophhnaeaaGreatDoorL07L10Mini
import Derived.Test.YtejnfjophhnaeaaGreatDoorIb
set_option linter.all false
namespace Go.Fw.L07
open Go Go.Fw
open Go.Fw.Sh renaming intro->Kg
open Go.Fw renaming Xhi->Ka,Xef->Ka,Xed->Kb,Xhm->Kv,Xee->Ke,Xeg->Kf,Xhk->Kh,Xhj->Ki,Xdf->Kt,Xnx->Kk,Xff->Ku,Xdd->Kl,Xe9->Km,Gx->Kn,Gw->Ko
open List renaming getElem?_eq_some_iff->Kr
open And renaming intro->Kp
open Nat renaming reduceAdd->Qa,reduceSub->Qb,reduceMul->Qc,reduceLeDiff->Qd,reduceLT->Qe,reduceEqDiff->Qf
open Int renaming reduceToNat->Qg,reduceLT->Qh,reduceLE->Qi,reduceGT->Qj,reduceGE->Qk,reduceEq->Ql,reduceNe->Qm,reduceBEq->Qn,reduceBNe->Qo,reduceAdd->Qp,reduceSub->Qq,reduceNeg->Qr
open Go.Fw.V.one renaming injEq->Qs
open Go.Fw.V.agg renaming injEq->Qt
open Go.Fw.V.tup renaming injEq->Qu
open Go.Fw.A.d renaming injEq->Qv
open Go.Fw.D.bool renaming injEq->Qw
open Go.Fw.D.int renaming injEq->Qx
open Go.Fw.D.str renaming injEq->Qy
open Go.Fw.D.sl renaming injEq->Qz
open List.cons renaming injEq->Za
set_option maxRecDepth 4000
abbrev Stp:=Pp × List Int
def Xgf (path:List Int):List Pp->Nat->List Stp->List Stp
 | [],_,l=>l
 | q::r,k,l=>Xgf path r (k+1) (if q∈l.map Prod.fst then l else l++[(q,path++[(k:Int)])])
def apF (g:Gr):Nat->List Stp->Nat->Option (List Int)
 | 0,_,_=>none
 | f+1,l,at_=>match l[at_]? with
  | none=>none
  | some e=>if Xrk g g e.1=true then apF g f (Xgf e.2 (kdP g g e.1) 0 l) (at_+1) else some e.2
def apG (g:Gr) (i j:Int):Option (List Int):=apF g 40001 [((i,j),[])] 0
structure ApI (g:Gr) (i j:Int) (l:List Stp) (at_:Nat):Prop where
 nd:(l.map Prod.fst).Nodup
 inn:∀ e∈l,inL g.l e.1.1/\inL g.l e.1.2
 path:∀ e∈l,atF (kd g) e.2 i=some e.1.1/\atF (kd g) e.2 j=some e.1.2
 root:(i,j)∈l.map Prod.fst
 done:∀ (n:Nat) (e:Stp),n < at_->l[n]?=some e->Xrk g g e.1=true/\∀ q∈kdP g g e.1,q∈l.map Prod.fst
 plen:∀ (n:Nat) (e:Stp),l[n]?=some e->e.2.length<=n
 le:at_<=l.length
theorem Yoq {n:Nat} {l:List Pp} (hn:l.Nodup) (h:∀ p∈l,(0<=p.1/\p.1 < (n:Int))/\(0<=p.2/\p.2 < (n:Int))):l.length<=n*n:=by
 have h1:(l.map fun p:Pp=>p.1*(n:Int)+p.2).Nodup:=Yb5 hn fun p hp q hq e=>by
  have e:p.1*n+p.2=q.1*n+q.2:=e
  have h2:=h p hp
  have h3:=h q hq
  have e1:(p.1*n+p.2) / n=p.1:=by
   rw[Int.add_comm,Int.add_mul_ediv_right _ _ (by omega),Int.ediv_eq_zero_of_lt h2.2.1 h2.2.2,Int.zero_add]
  have e2:(q.1*n+q.2) / n=q.1:=by
   rw[Int.add_comm,Int.add_mul_ediv_right _ _ (by omega),Int.ediv_eq_zero_of_lt h3.2.1 h3.2.2,Int.zero_add]
  have e3:p.1=q.1:=by
   have:=congrArg (fun z:Int=>z / (n:Int)) e
   rw[e1,e2] at this;exact this
  rw[e3] at e
  exact Prod.ext e3 (by omega)
 have h2:=Xfo (n:=n*n) h1 fun z hz=>by
  obtain⟨p,hp,rfl⟩:=List.mem_map.1 hz
  have h2:=h p hp
  have h3:0<=p.1*n:=Int.mul_nonneg h2.1.1 (by omega)
  have h4:p.1*n+n<=n*n:=by
   have:(p.1+1)*n<=n*n:=Int.mul_le_mul_of_nonneg_right (by omega) (by omega)
   rwa [Int.add_mul,Int.one_mul] at this
  refine⟨by omega,?_⟩
  rw[Int.natCast_mul]
  omega
 simpa using h2
theorem ApI.len {g:Gr} {i j:Int} {l:List Stp} {at_:Nat} (hg:Good g) (h:ApI g i j l at_):l.length<=40000:=by
 have h1:=Yoq (n:=g.l.length) h.nd fun p hp=>by
  obtain⟨e,he,rfl⟩:=List.mem_map.1 hp
  exact h.inn e he
 rw[List.length_map] at h1
 have h2:=hg.len
 have h3:g.l.length*g.l.length<=200*200:=Nat.mul_le_mul h2 h2
 omega
theorem Xmz (path:List Int):∀ (r:List Pp) (k:Nat) (l:List Stp),∃ t,Xgf path r k l=l++t
 | [],_,l=>⟨[],by simp[Xgf]⟩
 | q::r,k,l=>by
  simp only[Xgf]
  obtain⟨t,ht⟩:=Xmz path r (k+1) (if q∈l.map Prod.fst then l else l++[(q,path++[(k:Int)])])
  rw[ht]
  split
  ·exact⟨t,rfl⟩
  ·exact⟨(q,path++[(k:Int)])::t,by simp⟩
theorem Weu {l:List Stp} {q:Pp} {p:List Int} (h:(l.map Prod.fst).Nodup) (hq:q ∉ l.map Prod.fst):((l++[(q,p)]).map Prod.fst).Nodup:=by
 rw[List.map_append,List.nodup_append]
 refine⟨h,by simp,fun a ha b hb=>?_⟩
 simp at hb;subst hb;rintro rfl;exact hq ha
theorem ApI.push1 {g:Gr} (hg:Good g) {i j:Int} {l:List Stp} {at_:Nat} (h:ApI g i j l at_) {e:Stp} {m:Nat} (hm:l[m]?=some e) {k:Nat} {a b:Int} (ha:(kd g e.1.1)[k]?=some a) (hb:(kd g e.1.2)[k]?=some b) :
  ApI g i j (if (a,b)∈l.map Prod.fst then l else l++[((a,b),e.2++[(k:Int)])]) at_:=by
 split
 ·exact h
 ·rename_i hq
  have hme:=List.mem_of_getElem? hm
  refine⟨Weu h.nd hq,fun x hx=>?_,fun x hx=>?_,by rw[List.map_append];exact List.mem_append_left _ h.root,fun n x hn hx=>?_,fun n x hx=>?_,by simp;have:=h.le;omega⟩
  ·rcases List.mem_append.1 hx with hx|hx
   ·exact h.inn x hx
   ·simp at hx;subst hx
    exact⟨hg.fine.kid _ _ (List.mem_of_getElem? ha),hg.fine.kid _ _ (List.mem_of_getElem? hb)⟩
  ·rcases List.mem_append.1 hx with hx|hx
   ·exact h.path x hx
   ·simp at hx;subst hx
    obtain⟨h1,h2⟩:=h.path e hme
    dsimp only
    rw[Xpe,Xpe,h1,h2]
    simp only[Option.bind_some,Int.natCast_nonneg,if_true,Int.toNat_natCast]
    exact⟨ha,hb⟩
  ·rw[List.getElem?_append_left (by have:=h.le;omega)] at hx
   obtain⟨h1,h2⟩:=h.done n x hn hx
   exact⟨h1,fun q hq=>by rw[List.map_append];exact List.mem_append_left _ (h2 q hq)⟩
  ·by_cases hn:n < l.length
   ·rw[List.getElem?_append_left hn] at hx
    exact h.plen n x hx
   ·rw[List.getElem?_append_right (by omega)] at hx
    have:n - l.length=0:=by
     rcases Nat.eq_zero_or_pos (n - l.length) with e|e
     ·exact e
     ·rw[List.getElem?_eq_none (by simp;omega)] at hx;cases hx
    rw[this] at hx
    simp at hx;subst hx
    have h1:=h.plen m e hm
    have h2:=(Kr.1 hm).1
    simp;omega
theorem Xy5 {A B:List Int} {k:Nat} {a b:Int} (ha:A[k]?=some a) (hb:B[k]?=some b):(List.zip A B).drop k=(a,b)::(List.zip A B).drop (k+1):=by
 have:(List.zip A B)[k]?=some (a,b):=List.getElem?_zip_eq_some.2 ⟨ha,hb⟩
 obtain⟨h1,h2⟩:=Kr.1 this
 rw[List.drop_eq_getElem_cons h1,h2]
theorem Xj6 {path:List Int} {A B:List Int} {k:Nat} {a b:Int} {l:List Stp} (ha:A[k]?=some a) (hb:B[k]?=some b) :
  Xgf path ((List.zip A B).drop k) k l=Xgf path ((List.zip A B).drop (k+1)) (k+1) (if (a,b)∈l.map Prod.fst then l else l++[((a,b),path++[(k:Int)])]):=by
 rw[Xy5 ha hb];rfl
theorem ApI.pushes {g:Gr} (hg:Good g) {i j:Int} {at_:Nat} {e:Stp} {m:Nat}:∀ (f k:Nat) {l:List Stp},(kdP g g e.1).length - k<=f->ApI g i j l at_->l[m]?=some e ->
   ApI g i j (Xgf e.2 ((kdP g g e.1).drop k) k l) at_/\∀ q∈(kdP g g e.1).drop k,q∈(Xgf e.2 ((kdP g g e.1).drop k) k l).map Prod.fst
 | f,k,l,hf,h,hm=>by
  by_cases hk:k < (kdP g g e.1).length
  ·have hk':=hk
   simp only[kdP,List.length_zip] at hk'
   obtain⟨a,ha⟩:=Xaj (l:=kd g e.1.1) (i:=k) (by omega)
   obtain⟨b,hb⟩:=Xaj (l:=kd g e.1.2) (i:=k) (by omega)
   have h1:=h.push1 hg hm ha hb
   match f with
   | 0=>omega
   | f+1 =>
    have hm':(if (a,b)∈l.map Prod.fst then l else l++[((a,b),e.2++[(k:Int)])])[m]?=some e:=by
     split
     ·exact hm
     ·rw[List.getElem?_append_left (Kr.1 hm).1];exact hm
    obtain⟨h2,h3⟩:=ApI.pushes hg f (k+1) (by omega) h1 hm'
    unfold kdP at h2 h3 ⊢
    rw[Xj6 ha hb]
    refine⟨h2,fun q hq=>?_⟩
    rw[Xy5 ha hb] at hq
    rcases List.mem_cons.1 hq with rfl|hq
    ·obtain⟨t,ht⟩:=Xmz e.2 ((List.zip (kd g e.1.1) (kd g e.1.2)).drop (k+1)) (k+1) (if (a,b)∈l.map Prod.fst then l else l++[((a,b),e.2++[(k:Int)])])
     rw[ht,List.map_append]
     refine List.mem_append_left _ ?_
     split
     ·assumption
     ·simp
    ·exact h3 q hq
  ·rw[List.drop_of_length_le (by omega)]
   exact⟨h,by simp⟩
theorem ApI.next {g:Gr} (hg:Good g) {i j:Int} {l:List Stp} {at_:Nat} (h:ApI g i j l at_) {e:Stp} (he:l[at_]?=some e) (hf:Xrk g g e.1=true):ApI g i j (Xgf e.2 (kdP g g e.1) 0 l) (at_+1):=by
 obtain⟨h1,h2⟩:=ApI.pushes hg _ 0 (Nat.le_refl _) h he
 rw[List.drop_zero] at h1 h2
 obtain⟨t,ht⟩:=Xmz e.2 (kdP g g e.1) 0 l
 have hlt:=(Kr.1 he).1
 refine⟨h1.nd,h1.inn,h1.path,h1.root,fun n x hn hx=>?_,h1.plen,by rw[ht];simp;omega⟩
 by_cases hna:n < at_
 ·exact h1.done n x hna hx
 ·obtain rfl:n=at_:=by omega
  rw[ht,List.getElem?_append_left hlt,he] at hx
  cases hx
  exact⟨hf,h2⟩
theorem ApI.first {g:Gr} {i j:Int} (hi:inL g.l i) (hj:inL g.l j):ApI g i j [((i,j),[])] 0:=by
 refine⟨by simp,by simp[hi,hj],by simp[atF],by simp,fun n e h=>by omega,fun n e he=>?_,by simp⟩
 cases n with
 | zero=>simp at he;subst he;simp
 | succ n=>simp at he
open Go.Proofs.Tryz renaming prog->QP
variable {gp:Xag}
abbrev stD (e:Stp):List D:=[.int .i64 e.1.1,.int .i64 e.1.2,.sl (Xai e.2)]
abbrev stV (e:Stp):V:=.agg [.d (.int .i64 e.1.1),.d (.int .i64 e.1.2),.d (.sl (Xai e.2))]
abbrev Xr2 (l:List Stp):List (List D):=l.map stD
set_option maxHeartbeats 1000000 in
theorem Wrw (e:Stp) (k:Nat) (q:Pp) (out:List Pp) (t:List Stp) (v:Nat) (hp:e.2.length<=50000) (ht:t.length<=50000):Tri QP gp 43 [stV e,vi k,pv q,.one (.ptr 2 0),.one (.ptr 3 0)] [.map (Xyi out),.row 3 v (Xr2 t),.cells [.own 0 0],.cells [.own 1 v]] fun r post =>
  r=.tup []/\post=if q∈out then [.map (Xyi out),.row 3 v (Xr2 t),.cells [.own 0 0],.cells [.own 1 v]]
   else [.map (Xyi (out++[q])),.row 3 (v+1) (Xr2 (t++[(q,e.2++[(k:Int)])])),.cells [.own 0 0],.cells [.own 1 (v+1)]]:=by
 refine Wdd ?_
 simp only[go_sem]
 have cc:=Xmt (gp:=gp) e.2 (by omega)
 by_cases hm:q∈out
 ·have hf:=Yop hm
  rw[if_pos hm]
  repeat' first|refine Ko rfl ?_|((first|refine Ka ?_|refine Kb ?_|refine Kv ?_|refine Ke ?_);simp only[go_sem])|refine Kf ?_|refine⟨_,⟨hf,rfl⟩,Kg ?_⟩|refine Kg ?_
  refine Kt (fr 25 []) ?_
  simp only[go_sem]
  refine Kk 4 (by simp only[List.length_nil,List.length_cons];decide) (by simp only[go_sem]) (by simp only[List.take_succ_cons,List.take_zero,List.all_cons,List.all_nil,Xec];simp only[go_sem]) ?_
  simp only[go_sem]
  repeat' first|refine Kn rfl ?_|((first|refine Ka ?_|refine Kb ?_|refine Kv ?_|refine Ke ?_);simp only[go_sem])|refine Kf ?_|refine Kg ?_|apply Kp<;>intro _|((first|refine Kh ?_|refine Ki rfl ?_);simp only[or_self,Qs,Qt,Qu,Qv,Qw,Qx,Qy,Qz,Za,go_sem])
  all_goals trace_state
 ·have hf:=Wet hm
  have hput:=Xy4 hm
  rw[if_neg hm]
  repeat' first|refine Ko rfl ?_|((first|refine Ka ?_|refine Kb ?_|refine Kv ?_|refine Ke ?_);simp only[go_sem])|refine Kf ?_|refine Kg ?_|refine⟨_,⟨hf,rfl⟩,Kg ?_⟩|refine⟨_,hput,Kg ?_⟩|apply Kp<;>intro _|((first|refine Kh ?_|refine Ki rfl ?_);simp only[or_self,Qs,Qt,Qu,Qv,Qw,Qx,Qy,Qz,Za,go_sem])
  refine⟨.one (.own 0 1),[.row 1 1 (Xai e.2)],(by simp only[Xbu,Xfh,rnV,rnA,Xfr,rn0,Xfq,Xct,Xfd,rnC,Xao,List.isEmpty_nil,reduceCtorEq,↓reduceIte,Qa,Qb,Qc,Qd,Qe,Qf,Qg,Qh,Qi,Qj,Qk,Ql,Qm,Qn,Qo,Qp,Qq,Qr];simp only[go_sem];exact⟨Xup,cc⟩),Kg ?_⟩
  simp only[go_sem]
  repeat' first|refine Ko rfl ?_|((first|refine Ka ?_|refine Kb ?_|refine Kv ?_|refine Ke ?_);simp only[go_sem])|refine Kf ?_|refine Kg ?_|apply Kp<;>intro _|((first|refine Kh ?_|refine Ki rfl ?_);simp only[or_self,Qs,Qt,Qu,Qv,Qw,Qx,Qy,Qz,Za,go_sem])
  refine⟨by simp,by omega,by unfold Xab;omega,by simp,by omega,by unfold Xab;omega,?_⟩
  rw[show Xai e.2++[[D.int .i64 (k:Int)]]=Xai (e.2++[(k:Int)]) from by simp[Xai],show Xr2 t++[[D.int .i64 q.1,D.int .i64 q.2,D.sl (Xai (e.2++[(k:Int)]))]]=Xr2 (t++[(q,e.2++[(k:Int)])]) from by simp]
  refine Kt (fr 25 []) ?_
  simp only[go_sem]
  refine Kk 4 (by simp only[List.length_nil,List.length_cons];decide) (by simp only[go_sem]) (by simp only[List.take_succ_cons,List.take_zero,List.all_cons,List.all_nil,Xec];simp only[go_sem]) ?_
  simp only[go_sem]
  repeat' first|refine Kn rfl ?_|((first|refine Ka ?_|refine Kb ?_|refine Kv ?_|refine Ke ?_);simp only[go_sem])|refine Kf ?_|refine Kg ?_|apply Kp<;>intro _|((first|refine Kh ?_|refine Ki rfl ?_);simp only[or_self,Qs,Qt,Qu,Qv,Qw,Qx,Qy,Qz,Za,go_sem])
  all_goals trace_state
theorem Yor {g:Gr} (hg:Good g) (hn:Neat g) {a b:Int} (ha:inL g.l a) (hb:inL g.l b):Xyw (Xb1 g.l.length) (Xbg g.l a)=Xyw (Xb1 g.l.length) (Xbg g.l b)↔Xrk g g (a,b)=true:=by
 rw[Yvu hn Xk7 ha hb,Xj3]
 unfold Xrk
 rw[Xcn]
 have e1:=Xpg hg a
 have e2:=Xpg hg b
 constructor
 ·rintro⟨h1,h2,h3,h4,_⟩
  exact⟨h1,h2,h3,by rw[<- e1,<- e2];exact h4⟩
 ·rintro⟨h1,h2,h3,h4⟩
  refine⟨h1,h2,h3,by rw[<- e1,<- e2] at h4;exact h4,fun n p q hp hq=>?_⟩
  have hp:=hg.fine.kid _ _ (List.mem_of_getElem? hp)
  have hq:=hg.fine.kid _ _ (List.mem_of_getElem? hq)
  unfold inL at hp hq
  simp only[Xb1,List.getElem?_replicate]
  rw[if_pos (by omega),if_pos (by omega)]
theorem Xjh (a b:SayT):(a.k==b.k && (a.x.k==b.x.k && (a.x.n==b.x.n && (decide (a.x.s=b.x.s) && (decide (bT a.ks=bT b.ks) && decide (bT a.ns=bT b.ns))))))=decide (a=b):=by
 obtain⟨k,⟨k2,n,s⟩,u,v⟩:=a
 obtain⟨k',⟨k2',n',s'⟩,u',v'⟩:=b
 rw[Bool.eq_iff_iff]
 simp[Yvt,and_assoc]
def apO (g:Gr) (i j:Int):Option (List Int):=if chk g=none/\inL g.l i/\inL g.l j then apG g i j else none
set_option maxHeartbeats 4000000 in
theorem Yg5 (h:Env10 gp) (g:Gr) (i j:Int) (hs:Xd9 g) (hst:∀ x∈g.l,x.short):Xam QP gp 18 [g.v,vi i,vi j] (.tup [.one (.d (.sl (Xai ((apO g i j).getD [])))),vb (apO g i j).isSome]):=by
 refine Wo1 ?_
 simp only[go_sem]
 have c1:Xam QP gp 36 [g.v] (.tup [vi ((chk g).getD (0,0)).1,vi (Xf3 g)]):=Xwt h.e g
 refine Xgv 50 ?_
 simp only[go_sem]
 by_cases hc:chk g=none
 ·have hg:Good g:=⟨hc,hs⟩
  have hn:=hg.neat hst
  rw[Xcu hc] at c1
  by_cases hij:inL g.l i/\inL g.l j
  ·have ea:apO g i j=apG g i j:=by unfold apO;rw[if_pos ⟨hc,hij⟩]
   rw[ea]
   obtain⟨hi,hj⟩:=hij
   have hi':=hi
   have hj':=hj
   unfold inL at hi' hj'
   have d1:decide (i < 0)=false:=decide_eq_false (by omega)
   have d2:decide (j < 0)=false:=decide_eq_false (by omega)
   have d3:decide (i >= (g.l.length:Int))=false:=decide_eq_false (by omega)
   have d4:decide (j >= (g.l.length:Int))=false:=decide_eq_false (by omega)
   repeat' first|refine Kn rfl ?_|((first|refine Ka ?_|refine Kb ?_|refine Kv ?_|refine Ke ?_);simp only[d1,d2,d3,d4,go_sem])|refine Kf ?_|refine Kg ?_|refine⟨_,c1,Kg ?_⟩|refine⟨_,⟨c1,rfl⟩,Kg ?_⟩|apply Kp<;>intro _|((first|refine Kh ?_|refine Ki rfl ?_);simp only[d1,d2,d3,d4,or_self,Qs,Qt,Qu,Qv,Qw,Qx,Qy,Qz,Za,go_sem])
   refine Or.inr ⟨[],.one (.ptr 1 0),[.row 1 0 (Xai (Xb1 g.l.length)),.cells [.d (.int .i64 g.root),.d (.sl (nds g.l)),.own 0 0]],(by simp only[Xbu,Xfh,rnV,rnA,Xfr,rn0,Xfq,Xct,Xfd,rnC,Xao,List.isEmpty_nil,reduceCtorEq,↓reduceIte,Qa,Qb,Qc,Qd,Qe,Qf,Qg,Qh,Qi,Qj,Qk,Ql,Qm,Qn,Qo,Qp,Qq,Qr];simp only[go_sem];exact⟨Yel,Wun g hn.len⟩),Kg ?_⟩
   simp only[go_sem]
   repeat' first|((first|refine Kb ?_|refine Kv ?_);simp only[go_sem])|refine Kf ?_|refine Kg ?_
   refine Xat 0 ?_
   simp only[go_sem]
   refine Xat 1 ?_
   simp only[go_sem]
   refine Kt (fr 118 [(1,vi i),(2,vi j),(3,.one (.d (.bx [.int .i64 g.root,.sl (nds g.l)]))),(10,pD g (Xb1 g.l.length))]) ?_
   refine Ku 0 ?_
   simp only[go_sem]
   have hput:=Xy4 (out:=[]) (p:=(i,j)) (by simp)
   repeat' first|refine Kn rfl ?_|((first|refine Ka ?_|refine Kb ?_|refine Kv ?_|refine Ke ?_);simp only[go_sem])|refine Kf ?_|refine Kg ?_|refine⟨_,hput,Kg ?_⟩|apply Kp<;>intro _|((first|refine Kh ?_|refine Ki rfl ?_);simp only[or_self,Qs,Qt,Qu,Qv,Qw,Qx,Qy,Qz,Za,go_sem])
   refine Kt (fr 118 [(10,pD g (Xb1 g.l.length)),(11,.one (.ptr 2 0)),(12,.one (.ptr 3 0)),(13,.one (.clo (.func 43) [.ptr 3 0,.ptr 2 0])),(3,.one (.d (.bx [.int .i64 g.root,.sl (nds g.l)])))]) ?_
   refine Km (fun mz sz=>∃ (f:Nat) (l:List Stp) (at_ v:Nat),mz=f/\ApI g i j l at_/\40001<=f+at_/\apF g f l at_=apG g i j/\sz=⟨fr 118 [(10,pD g (Xb1 g.l.length)),(11,.one (.ptr 2 0)),(12,.one (.ptr 3 0)),(13,.one (.clo (.func 43) [.ptr 3 0,.ptr 2 0])),(3,.one (.d (.bx [.int .i64 g.root,.sl (nds g.l)])))],[.map (Xyi (l.map Prod.fst)),.row 3 v (Xr2 (l.drop at_)),.cells [.own 1 v],.cells [.own 0 0]]⟩) 40001 ⟨40001,[((i,j),[])],0,0,rfl,ApI.first hi hj,by omega,rfl,rfl⟩ ?_
   rintro f _ ⟨f',l,at_,v,hmz,hA,hf,hap,rfl⟩
   subst hmz
   simp only[go_sem]
   have hll:=hA.len hg
   have hal:=hA.le
   obtain⟨f,rfl⟩:∃ f',f=f'+1:=⟨f - 1,by omega⟩
   cases hla:l[at_]? with
   | none =>
    have hdr:l.drop at_=[]:=List.drop_of_length_le (List.getElem?_eq_none_iff.1 hla)
    have hno:apG g i j=none:=by rw[<- hap];simp only[apF,hla]
    rw[hno,hdr]
    repeat' first|refine Kn rfl ?_|((first|refine Ka ?_|refine Kb ?_|refine Kv ?_|refine Ke ?_);simp only[go_sem])|refine Kf ?_|refine Kg ?_|apply Kp<;>intro _|((first|refine Kh ?_|refine Ki rfl ?_);simp only[or_self,Qs,Qt,Qu,Qv,Qw,Qx,Qy,Qz,Za,go_sem])
    all_goals trace_state
   | some e =>
    have hlt:=(Kr.1 hla).1
    have hdr:l.drop at_=e::l.drop (at_+1):=by rw[List.drop_eq_getElem_cons hlt];congr 1;exact (Kr.1 hla).2
    rw[hdr]
    have hin:=hA.inn e (List.mem_of_getElem? hla)
    have cn:∀ m:Int,inL g.l m->Xam QP gp 45 [pD g (Xb1 g.l.length),vi m] (Yvr (Xyw (Xb1 g.l.length) (Xbg g.l m))):=fun m hm =>
     Yvs h.e.u h.p g _ hs m hm (hn.keys hm) (Xk7.kid hn.f m)
    have n1:=cn e.1.1 hin.1
    have n2:=cn e.1.2 hin.2
    have hz:=Yor hg hn hin.1 hin.2
    have hpl:=hA.plen at_ e hla
    have e0:decide (((l.drop (at_+1)).length:Int)+1 > 0)=true:=decide_eq_true (by omega)
    have k1:Xam QP gp 21 [g.v,vi e.1.1] (.tup [.one (.d (.sl (Xai (kd g e.1.1)))),vi (atE g.l e.1.1)]):=kids (gp:=gp) g e.1.1 hs
    have k2:Xam QP gp 21 [g.v,vi e.1.2] (.tup [.one (.d (.sl (Xai (kd g e.1.2)))),vi (atE g.l e.1.2)]):=kids (gp:=gp) g e.1.2 hs
    have hstp:apF g (f+1) l at_=if Xrk g g e.1=true then apF g f (Xgf e.2 (kdP g g e.1) 0 l) (at_+1) else some e.2:=by simp only[apF,hla]
    by_cases hfit:Xrk g g e.1=true
    ·have hd:decide (Xyw (Xb1 g.l.length) (Xbg g.l e.1.1)=Xyw (Xb1 g.l.length) (Xbg g.l e.1.2))=true:=decide_eq_true (hz.2 hfit)
     rw[if_pos hfit] at hstp
     repeat' first|refine Kn rfl ?_|((first|refine Ka ?_|refine Kb ?_|refine Kv ?_|refine Ke ?_);simp only[e0,Xjh,hd,go_sem])|refine Kf ?_|refine Kg ?_|refine⟨_,n1,Kg ?_⟩|refine⟨_,⟨n1,rfl⟩,Kg ?_⟩|refine⟨_,n2,Kg ?_⟩|refine⟨_,⟨n2,rfl⟩,Kg ?_⟩|refine⟨_,k1,Kg ?_⟩|refine⟨_,⟨k1,rfl⟩,Kg ?_⟩|refine⟨_,k2,Kg ?_⟩|refine⟨_,⟨k2,rfl⟩,Kg ?_⟩|refine⟨Nat.succ_pos _,_,⟨rfl,by simp⟩,Kg ?_⟩|refine⟨1,_,⟨rfl,rfl,by omega,Nat.le_refl _⟩,Kg ?_⟩|(apply Kp<;>intro _<;>try (exfalso;omega))|((first|refine Kh ?_|refine Ki rfl ?_);simp only[e0,Xjh,hd,or_self,Qs,Qt,Qu,Qv,Qw,Qx,Qy,Qz,Za,go_sem])
     rw[List.take_of_length_le (by rw[List.length_map];exact Nat.le_refl _)]
     have hkl:(kd g e.1.1).length=(kd g e.1.2).length:=Xrl hg hg (p:=e.1) hfit
     have hk12:(kd g e.1.1).length<=12:=Xri hs e.1.1
     have hnx:=hA.next hg hla hfit
     have hzl:kdP g g e.1=List.zip (kd g e.1.1) (kd g e.1.2):=rfl
     have hp1:=fun {l':List Stp} (hA':ApI g i j l' at_) (hla':l'[at_]?=some e) {k:Nat} {a b:Int} (ha:(kd g e.1.1)[k]?=some a) (hb:(kd g e.1.2)[k]?=some b)=>hA'.push1 hg hla' ha hb
     rw[hzl] at hstp hnx
     generalize kd g e.1.1=A at *
     generalize kd g e.1.2=B at *
     refine Kt (fr 118 [(10,pD g (Xb1 g.l.length)),(11,.one (.ptr 2 0)),(12,.one (.ptr 3 0)),(13,.one (.clo (.func 43) [.ptr 3 0,.ptr 2 0])),(3,.one (.d (.bx [.int .i64 g.root,.sl (nds g.l)]))),(14,.one (.ptr 4 0)),(15,.one (.d (.sl (Xai A)))),(17,.one (.d (.sl (Xai B)))),(100,vi (A.length:Int)),(101,vi ((0:Nat):Int))]) ?_
     refine Km (fun mz sz=>∃ (k:Nat) (l':List Stp) (v':Nat),k<=A.length/\mz=A.length - k/\Xgf e.2 ((List.zip A B).drop k) k l'=Xgf e.2 (List.zip A B) 0 l/\ApI g i j l' at_/\l'[at_]?=some e/\sz=⟨fr 118 [(10,pD g (Xb1 g.l.length)),(11,.one (.ptr 2 0)),(12,.one (.ptr 3 0)),(13,.one (.clo (.func 43) [.ptr 3 0,.ptr 2 0])),(3,.one (.d (.bx [.int .i64 g.root,.sl (nds g.l)]))),(14,.one (.ptr 4 0)),(15,.one (.d (.sl (Xai A)))),(17,.one (.d (.sl (Xai B)))),(100,vi (A.length:Int)),(101,vi (k:Int))],[.map (Xyi (l'.map Prod.fst)),.row 3 v' (Xr2 (l'.drop (at_+1))),.cells [.own 1 v'],.cells [.own 0 0],.cells [.d (.int .i64 e.1.1),.d (.int .i64 e.1.2),.d (.sl (Xai e.2))]]⟩) A.length ⟨0,l,v+1,Nat.zero_le _,rfl,by rw[List.drop_zero],hA,hla,rfl⟩ ?_
     rintro _ _ ⟨k,l',v',hk,rfl,hpu,hA',hla',rfl⟩
     simp only[go_sem]
     have hll':=hA'.len hg
     have hlt':=(Kr.1 hla').1
     by_cases hka:k < A.length
     ·obtain⟨a,ha⟩:=Xaj hka
      obtain⟨b,hb⟩:=Xaj (l:=B) (i:=k) (by omega)
      have e6:decide ((k:Int) < (A.length:Int))=true:=decide_eq_true (by omega)
      have pc:=Wrw (gp:=gp) e k (a,b) (l'.map Prod.fst) (l'.drop (at_+1)) v' (by omega) (by rw[List.length_drop];omega)
      rw[Xj6 ha hb] at hpu
      have hA2:=hp1 hA' hla' ha hb
      repeat' first|refine Kn rfl ?_|((first|refine Ka ?_|refine Kb ?_|refine Kv ?_|refine Ke ?_);simp only[e6,go_sem])|refine Kf ?_|refine Kg ?_|refine⟨_,⟨Int.natCast_nonneg _,Xel ha,rfl⟩,Kg ?_⟩|refine⟨_,⟨Int.natCast_nonneg _,Xel hb,rfl⟩,Kg ?_⟩|(apply Kp<;>intro _<;>try (exfalso;omega))|((first|refine Kh ?_|refine Ki rfl ?_);simp only[e6,or_self,Qs,Qt,Qu,Qv,Qw,Qx,Qy,Qz,Za,go_sem])
      by_cases hq:(a,b)∈l'.map Prod.fst
      ·simp only[if_pos hq] at pc hpu hA2
       refine Or.inr (Or.inr ⟨[0,1,3,2],.tup [],[.map (Xyi (l'.map Prod.fst)),.row 3 v' (Xr2 (l'.drop (at_+1))),.cells [.own 0 0],.cells [.own 1 v']],(by simp only[Xbu,Xfd,Xao,Yg4];simp only[go_sem];exact⟨Yum,pc⟩),Kg ?_⟩)
       simp only[bkO,bkC,Xec]
       simp only[go_sem]
       repeat' first|refine Kn rfl ?_|((first|refine Ka ?_|refine Kb ?_|refine Kv ?_|refine Ke ?_);simp only[e6,go_sem])|refine Kf ?_|refine Kg ?_|(apply Kp<;>intro _<;>try (exfalso;omega))|((first|refine Kh ?_|refine Ki rfl ?_);simp only[e6,or_self,Qs,Qt,Qu,Qv,Qw,Qx,Qy,Qz,Za,go_sem])
       refine⟨Xaf hka (by unfold Xab;omega),?_⟩
       refine Kt (fr 118 [(10,pD g (Xb1 g.l.length)),(11,.one (.ptr 2 0)),(12,.one (.ptr 3 0)),(13,.one (.clo (.func 43) [.ptr 3 0,.ptr 2 0])),(3,.one (.d (.bx [.int .i64 g.root,.sl (nds g.l)]))),(14,.one (.ptr 4 0)),(15,.one (.d (.sl (Xai A)))),(17,.one (.d (.sl (Xai B)))),(100,vi (A.length:Int)),(101,vi (k+1))]) ?_
       simp only[go_sem]
       refine Kk 5 (by simp only[List.length_nil,List.length_cons];decide) (by simp only[go_sem]) (by simp only[List.take_succ_cons,List.take_zero,List.all_cons,List.all_nil,Xec];simp only[go_sem]) ?_
       simp only[go_sem]
       exact Kl ⟨A.length - (k+1),by omega,k+1,l',v',by omega,rfl,hpu,hA2,hla',rfl⟩
      ·simp only[if_neg hq] at pc hpu hA2
       refine Or.inr (Or.inr ⟨[0,1,3,2],.tup [],[.map (Xyi (l'.map Prod.fst++[(a,b)])),.row 3 (v'+1) (Xr2 (l'.drop (at_+1)++[((a,b),e.2++[(k:Int)])])),.cells [.own 0 0],.cells [.own 1 (v'+1)]],(by simp only[Xbu,Xfd,Xao,Yg4];simp only[go_sem];exact⟨Yum,pc⟩),Kg ?_⟩)
       simp only[bkO,bkC,Xec]
       simp only[go_sem]
       repeat' first|refine Kn rfl ?_|((first|refine Ka ?_|refine Kb ?_|refine Kv ?_|refine Ke ?_);simp only[e6,go_sem])|refine Kf ?_|refine Kg ?_|(apply Kp<;>intro _<;>try (exfalso;omega))|((first|refine Kh ?_|refine Ki rfl ?_);simp only[e6,or_self,Qs,Qt,Qu,Qv,Qw,Qx,Qy,Qz,Za,go_sem])
       refine⟨Xaf hka (by unfold Xab;omega),?_⟩
       refine Kt (fr 118 [(10,pD g (Xb1 g.l.length)),(11,.one (.ptr 2 0)),(12,.one (.ptr 3 0)),(13,.one (.clo (.func 43) [.ptr 3 0,.ptr 2 0])),(3,.one (.d (.bx [.int .i64 g.root,.sl (nds g.l)]))),(14,.one (.ptr 4 0)),(15,.one (.d (.sl (Xai A)))),(17,.one (.d (.sl (Xai B)))),(100,vi (A.length:Int)),(101,vi (k+1))]) ?_
       simp only[go_sem]
       refine Kk 5 (by simp only[List.length_nil,List.length_cons];decide) (by simp only[go_sem]) (by simp only[List.take_succ_cons,List.take_zero,List.all_cons,List.all_nil,Xec];simp only[go_sem]) ?_
       simp only[go_sem]
       rw[show List.drop (at_+1) l'++[((a,b),e.2++[(k:Int)])]=List.drop (at_+1) (l'++[((a,b),e.2++[(k:Int)])]) from (List.drop_append_of_le_length (by omega)).symm,show List.map Prod.fst l'++[(a,b)]=List.map Prod.fst (l'++[((a,b),e.2++[(k:Int)])]) from by simp]
       exact Kl ⟨A.length - (k+1),by omega,k+1,l'++[((a,b),e.2++[(k:Int)])],v'+1,by omega,rfl,hpu,hA2,by rw[List.getElem?_append_left hlt'];exact hla',rfl⟩
     ·obtain rfl:k=A.length:=by omega
      have e6:decide ((A.length:Int) < (A.length:Int))=false:=decide_eq_false (by omega)
      rw[List.drop_of_length_le (by rw[List.length_zip];omega)] at hpu
      have hl':Xgf e.2 (List.zip A B) 0 l=l':=hpu.symm
      rw[hl'] at hnx hstp
      repeat' first|refine Kn rfl ?_|((first|refine Ka ?_|refine Kb ?_|refine Kv ?_|refine Ke ?_);simp only[e6,go_sem])|refine Kf ?_|refine Kg ?_|(apply Kp<;>intro _<;>try (exfalso;omega))|((first|refine Kh ?_|refine Ki rfl ?_);simp only[e6,or_self,Qs,Qt,Qu,Qv,Qw,Qx,Qy,Qz,Za,go_sem])
      refine Kt (fr 118 [(10,pD g (Xb1 g.l.length)),(11,.one (.ptr 2 0)),(12,.one (.ptr 3 0)),(13,.one (.clo (.func 43) [.ptr 3 0,.ptr 2 0])),(3,.one (.d (.bx [.int .i64 g.root,.sl (nds g.l)])))]) ?_
      simp only[go_sem]
      refine Kk 4 (by simp only[List.length_nil,List.length_cons];decide) (by simp only[go_sem]) (by simp only[List.take_succ_cons,List.take_zero,List.all_cons,List.all_nil,Xec];simp only[go_sem]) ?_
      simp only[go_sem]
      exact Kl ⟨f,by omega,f,l',at_+1,v',rfl,hnx,by omega,by rw[<- hstp];exact hap,rfl⟩
    ·have hd:decide (Xyw (Xb1 g.l.length) (Xbg g.l e.1.1)=Xyw (Xb1 g.l.length) (Xbg g.l e.1.2))=false:=decide_eq_false (fun hh=>hfit (hz.1 hh))
     rw[if_neg hfit] at hstp
     have hres:apG g i j=some e.2:=by rw[<- hap,hstp]
     rw[hres]
     repeat' first|refine Kn rfl ?_|((first|refine Ka ?_|refine Kb ?_|refine Kv ?_|refine Ke ?_);simp only[e0,Xjh,hd,go_sem])|refine Kf ?_|refine Kg ?_|refine⟨_,n1,Kg ?_⟩|refine⟨_,⟨n1,rfl⟩,Kg ?_⟩|refine⟨_,n2,Kg ?_⟩|refine⟨_,⟨n2,rfl⟩,Kg ?_⟩|refine⟨Nat.succ_pos _,_,⟨rfl,by simp⟩,Kg ?_⟩|refine⟨1,_,⟨rfl,rfl,by omega,Nat.le_refl _⟩,Kg ?_⟩|(apply Kp<;>intro _<;>try (exfalso;omega))|((first|refine Kh ?_|refine Ki rfl ?_);simp only[e0,Xjh,hd,or_self,Qs,Qt,Qu,Qv,Qw,Qx,Qy,Qz,Za,go_sem])
     all_goals trace_state
  ·have ea:apO g i j=none:=by unfold apO;rw[if_neg (fun hh=>hij hh.2)]
   rw[ea]
   unfold inL at hij
   repeat' first|refine Kn rfl ?_|((first|refine Ka ?_|refine Kb ?_|refine Kv ?_|refine Ke ?_);simp only[go_sem])|refine Kf ?_|refine Kg ?_|refine⟨_,c1,Kg ?_⟩|refine⟨_,⟨c1,rfl⟩,Kg ?_⟩|(apply Kp<;>intro _<;>try (exfalso;omega))|((first|refine Kh ?_|refine Ki rfl ?_);simp only[or_self,Qs,Qt,Qu,Qv,Qw,Qx,Qy,Qz,Za,go_sem])
   all_goals first|(exfalso;omega)|rfl|trace_state
 ·have he:=Xk1 hc
  have ea:apO g i j=none:=by unfold apO;rw[if_neg (fun hh=>hc hh.1)]
  rw[ea]
  generalize Xf3 g=e at *
  have hne:(e != 0)=true:=by simpa using he
  repeat' first|refine Kn rfl ?_|((first|refine Ka ?_|refine Kb ?_|refine Kv ?_|refine Ke ?_);simp only[hne,go_sem])|refine Kf ?_|refine Kg ?_|refine⟨_,c1,Kg ?_⟩|refine⟨_,⟨c1,rfl⟩,Kg ?_⟩|apply Kp<;>intro _|((first|refine Kh ?_|refine Ki rfl ?_);simp only[hne,or_self,Qs,Qt,Qu,Qv,Qw,Qx,Qy,Qz,Za,go_sem])
  all_goals trace_state
end Go.Fw.L07
