/- Chapter 10: paths to nodes that differ,by definition. -/
import Derived.Test.YtejnfjophhnaeaaGreatDoorL07JB10
import Derived.Test.YtejnfjophhnaeaaGreatDoorJe
set_option linter.all false
namespace Go.Fw.L07
open Go Go.Fw
open Go.Fw.Sh renaming intro->Kg
open Go.Fw renaming Xhi->Ka,Xef->Ka,Xed->Kb,Xhm->Kv,Xee->Ke,Xeg->Kf,Xhk->Kh,Xhj->Ki,Xdf->Kt,Xff->Ku,Xdd->Kl,Xe9->Km,Gx->Kn
open Int renaming natCast_nonneg->Kq
open And renaming intro->Kp
open Go.Proofs.Tryz renaming prog->QP
open Go.Fw.V.one renaming injEq->Qs
open Go.Fw.V.agg renaming injEq->Qt
open Go.Fw.V.tup renaming injEq->Qu
open Go.Fw.A.d renaming injEq->Qv
open Go.Fw.D.bool renaming injEq->Qw
open Go.Fw.D.int renaming injEq->Qx
open Go.Fw.D.str renaming injEq->Qy
open Go.Fw.D.sl renaming injEq->Qz
open List.cons renaming injEq->Za
set_option maxRecDepth 4000
variable {gp:Xag}
theorem Wup (l:List Stp) (q:Pp) (hl:l.length<=100000):Xam QP gp 48 [.one (.d (.sl (Xr2 l))),pv q] (vb (decide (q∈l.map Prod.fst))):=by
 refine Wqn ?_
 simp only[go_sem]
 repeat' first|refine Kn rfl ?_|((first|refine Ka ?_|refine Kb ?_|refine Kv ?_|refine Ke ?_);simp only[go_sem])|refine Kf ?_|refine Kg ?_|apply Kp<;>intro _|((first|refine Kh ?_|refine Ki rfl ?_);simp only[or_self,Qs,Qt,Qu,Qv,Qw,Qx,Qy,Qz,Za,go_sem])
 refine Kt (fr 19 [(0,.one (.d (.sl (Xr2 l)))),(3,.one (.d (.bx [.int .i64 q.1,.int .i64 q.2]))),(5,vi (0:Nat))]) ?_
 refine Km (fun mz sz=>∃ i:Nat,i<=l.length/\mz=l.length - i/\(q ∉ (l.take i).map Prod.fst)/\sz=⟨fr 19 [(0,.one (.d (.sl (Xr2 l)))),(3,.one (.d (.bx [.int .i64 q.1,.int .i64 q.2]))),(5,vi i)],[]⟩) (l.length) ⟨0,Nat.zero_le _,(Nat.sub_zero _).symm,?_,rfl⟩ ?_
 ·simp
 rintro _ _ ⟨i,hi,rfl,hq,rfl⟩
 simp only[go_sem]
 by_cases hil:i < l.length
 ·obtain⟨e,he⟩:=Xaj hil
  have e1:decide ((i:Int) < (l.length:Int))=true:=decide_eq_true (by omega)
  by_cases heq:e.1=q
  ·have e2:(e.1.1==q.1 && e.1.2==q.2)=true:=by rw[heq];simp
   have hm:decide (q∈l.map Prod.fst)=true:=decide_eq_true (List.mem_map.2 ⟨e,List.mem_of_getElem? he,heq⟩)
   rw[hm]
   repeat' first|refine Kn rfl ?_|((first|refine Ka ?_|refine Kb ?_|refine Kv ?_|refine Ke ?_);simp only[e1,e2,go_sem])|refine Kf ?_|refine Kg ?_|refine⟨_,⟨Kq _,Xad he,rfl⟩,Kg ?_⟩|(apply Kp<;>intro _<;>try (exfalso;omega))|((first|refine Kh ?_|refine Ki rfl ?_);simp only[e1,e2,or_self,Qs,Qt,Qu,Qv,Qw,Qx,Qy,Qz,Za,go_sem])
  ·have e2:(e.1.1==q.1 && e.1.2==q.2)=false:=by
    rw[Bool.eq_false_iff]
    intro h
    simp only[Bool.and_eq_true,beq_iff_eq] at h
    exact heq (Prod.ext h.1 h.2)
   repeat' first|refine Kn rfl ?_|((first|refine Ka ?_|refine Kb ?_|refine Kv ?_|refine Ke ?_);simp only[e1,e2,go_sem])|refine Kf ?_|refine Kg ?_|refine⟨_,⟨Kq _,Xad he,rfl⟩,Kg ?_⟩|(apply Kp<;>intro _<;>try (exfalso;omega))|((first|refine Kh ?_|refine Ki rfl ?_);simp only[e1,e2,or_self,Qs,Qt,Qu,Qv,Qw,Qx,Qy,Qz,Za,go_sem])
   refine⟨Xaf hil (by unfold Xab;omega),?_⟩
   refine Kt (fr 19 [(0,.one (.d (.sl (Xr2 l)))),(3,.one (.d (.bx [.int .i64 q.1,.int .i64 q.2]))),(5,vi (i+1))]) ?_
   refine Kl ⟨l.length - (i+1),by omega,i+1,by omega,rfl,?_,rfl⟩
   rw[<- Xew he]
   simp only[List.map_append,List.mem_append,List.map_cons,List.map_nil,List.mem_singleton]
   rintro (h|h)
   ·exact hq h
   ·exact heq h.symm
 ·obtain rfl:i=l.length:=by omega
  have e1:decide ((l.length:Int) < (l.length:Int))=false:=decide_eq_false (by omega)
  rw[List.take_of_length_le (Nat.le_refl _)] at hq
  rw[decide_eq_false hq]
  repeat' first|refine Kn rfl ?_|((first|refine Ka ?_|refine Kb ?_|refine Kv ?_|refine Ke ?_);simp only[e1,go_sem])|refine Kf ?_|refine Kg ?_|(apply Kp<;>intro _<;>try (exfalso;omega))|((first|refine Kh ?_|refine Ki rfl ?_);simp only[e1,or_self,Qs,Qt,Qu,Qv,Qw,Qx,Qy,Qz,Za,go_sem])
set_option maxHeartbeats 4000000 in
theorem Wev (g:Gr) (i j:Int) (hs:Xd9 g) (hst:∀ x∈g.l,x.short):Xam QP gp 19 [g.v,vi i,vi j] (.tup [.one (.d (.sl (Xai ((apO g i j).getD [])))),vb (apO g i j).isSome]):=by
 refine Wo8 ?_
 simp only[go_sem]
 have c1:=Y86 (gp:=gp) g hst
 by_cases hc:chk g=none
 ·have hg:Good g:=⟨hc,hs⟩
  have hgl:=hg.len
  rw[show (chk g).isNone=true from by rw[hc];rfl] at c1
  by_cases hij:inL g.l i/\inL g.l j
  ·have ea:apO g i j=apG g i j:=by unfold apO;rw[if_pos ⟨hc,hij⟩]
   rw[ea]
   obtain⟨hi,hj⟩:=hij
   have hi':=hi
   have hj':=hj
   unfold inL at hi' hj'
   have d1:decide (i < 0)=false:=decide_eq_false (by omega)
   have d2:decide (j < 0)=false:=decide_eq_false (by omega)
   have d3:decide (i >= (g.l.length:Int))=false:=decide_eq_false (by omega)
   have d4:decide (j >= (g.l.length:Int))=false:=decide_eq_false (by omega)
   repeat' first|refine Kn rfl ?_|((first|refine Ka ?_|refine Kb ?_|refine Kv ?_|refine Ke ?_);simp only[d1,d2,d3,d4,go_sem])|refine Kf ?_|refine Kg ?_|refine⟨_,c1,Kg ?_⟩|refine⟨_,⟨c1,rfl⟩,Kg ?_⟩|(apply Kp<;>intro _<;>try (exfalso;omega))|((first|refine Kh ?_|refine Ki rfl ?_);simp only[d1,d2,d3,d4,or_self,Qs,Qt,Qu,Qv,Qw,Qx,Qy,Qz,Za,go_sem])
   refine Kt (fr 121 [(3,.one (.d (.bx [.int .i64 g.root,.sl (nds g.l)]))),(8,.one (.own 0 0)),(9,vi ((0:Nat):Int))]) ?_
   refine Km (fun mz sz=>∃ (f:Nat) (l:List Stp) (at_ v:Nat),mz=f/\ApI g i j l at_/\40001<=f+at_/\apF g f l at_=apG g i j/\sz=⟨fr 121 [(3,.one (.d (.bx [.int .i64 g.root,.sl (nds g.l)]))),(8,.one (.own 0 v)),(9,vi (at_:Int))],[.row 3 v (Xr2 l)]⟩) 40001 ⟨40001,[((i,j),[])],0,0,rfl,ApI.first hi hj,by omega,rfl,rfl⟩ ?_
   rintro f _ ⟨f',l,at_,v,hmz,hA,hf,hap,rfl⟩
   subst hmz
   simp only[go_sem]
   have hll:=hA.len hg
   have hal:=hA.le
   obtain⟨f,rfl⟩:∃ f',f=f'+1:=⟨f - 1,by omega⟩
   cases hla:l[at_]? with
   | none =>
    have hlt:=List.getElem?_eq_none_iff.1 hla
    have hno:apG g i j=none:=by rw[<- hap];simp only[apF,hla]
    rw[hno]
    have e1:decide ((at_:Int) < (l.length:Int))=false:=decide_eq_false (by omega)
    repeat' first|refine Kn rfl ?_|((first|refine Ka ?_|refine Kb ?_|refine Kv ?_|refine Ke ?_);simp only[e1,go_sem])|refine Kf ?_|refine Kg ?_|(apply Kp<;>intro _<;>try (exfalso;omega))|((first|refine Kh ?_|refine Ki rfl ?_);simp only[e1,or_self,Qs,Qt,Qu,Qv,Qw,Qx,Qy,Qz,Za,go_sem])
   | some e =>
    have hlt:=(List.getElem?_eq_some_iff.1 hla).1
    have e1:decide ((at_:Int) < (l.length:Int))=true:=decide_eq_true (by omega)
    have hin:=hA.inn e (List.mem_of_getElem? hla)
    have hpl:=hA.plen at_ e hla
    have hstp:apF g (f+1) l at_=if Xrk g g e.1=true then apF g f (Xgf e.2 (kdP g g e.1) 0 l) (at_+1) else some e.2:=by simp only[apF,hla]
    have f1:Xam QP gp 22 [g.v,vi e.1.1,g.v,vi e.1.2] (vb (Xrk g g e.1)):=by
     have h1:=hin.1
     have h2:=hin.2
     unfold inL at h1 h2
     have:=Wu2 (gp:=gp) g g e.1.1.toNat e.1.2.toNat hs hs (by omega) (by omega)
     rwa [Int.toNat_of_nonneg h1.1,Int.toNat_of_nonneg h2.1] at this
    have k1:Xam QP gp 47 [g.v,vi e.1.1] (.tup [.one (.d (.sl (Xai (kd g e.1.1)))),vi (atE g.l e.1.1)]):=Wep (gp:=gp) g e.1.1 hs
    have k2:Xam QP gp 47 [g.v,vi e.1.2] (.tup [.one (.d (.sl (Xai (kd g e.1.2)))),vi (atE g.l e.1.2)]):=Wep (gp:=gp) g e.1.2 hs
    by_cases hfit:Xrk g g e.1=true
    ·rw[hfit] at f1
     rw[if_pos hfit] at hstp
     repeat' first|refine Kn rfl ?_|((first|refine Ka ?_|refine Kb ?_|refine Kv ?_|refine Ke ?_);simp only[e1,go_sem])|refine Kf ?_|refine Kg ?_|refine⟨_,f1,Kg ?_⟩|refine⟨_,⟨f1,rfl⟩,Kg ?_⟩|refine⟨_,k1,Kg ?_⟩|refine⟨_,⟨k1,rfl⟩,Kg ?_⟩|refine⟨_,k2,Kg ?_⟩|refine⟨_,⟨k2,rfl⟩,Kg ?_⟩|refine⟨Kq _,hlt,_,⟨Xad hla,of_decide_eq_true rfl⟩,Kg ?_⟩|(apply Kp<;>intro _<;>try (exfalso;omega))|((first|refine Kh ?_|refine Ki rfl ?_);simp only[e1,or_self,Qs,Qt,Qu,Qv,Qw,Qx,Qy,Qz,Za,go_sem])
     have hkl:(kd g e.1.1).length=(kd g e.1.2).length:=Xrl hg hg (p:=e.1) hfit
     have hk12:(kd g e.1.1).length<=12:=Xri hs e.1.1
     have hnx:=hA.next hg hla hfit
     have hzl:kdP g g e.1=List.zip (kd g e.1.1) (kd g e.1.2):=rfl
     have hp1:=fun {l':List Stp} (hA':ApI g i j l' at_) (hla':l'[at_]?=some e) {k:Nat} {a b:Int} (ha:(kd g e.1.1)[k]?=some a) (hb:(kd g e.1.2)[k]?=some b)=>hA'.push1 hg hla' ha hb
     rw[hzl] at hstp hnx
     generalize kd g e.1.1=A at *
     generalize kd g e.1.2=B at *
     refine Kt (fr 121 [(3,.one (.d (.bx [.int .i64 g.root,.sl (nds g.l)]))),(8,.one (.own 0 v)),(9,vi (at_:Int)),(10,.one (.ptr 1 0)),(11,.one (.d (.sl (Xai A)))),(13,.one (.d (.sl (Xai B)))),(15,vi ((0:Nat):Int))]) ?_
     refine Km (fun mz sz=>∃ (k:Nat) (l':List Stp) (v':Nat),k<=A.length/\mz=A.length - k/\Xgf e.2 ((List.zip A B).drop k) k l'=Xgf e.2 (List.zip A B) 0 l/\ApI g i j l' at_/\l'[at_]?=some e/\sz=⟨fr 121 [(3,.one (.d (.bx [.int .i64 g.root,.sl (nds g.l)]))),(8,.one (.own 0 v')),(9,vi (at_:Int)),(10,.one (.ptr 1 0)),(11,.one (.d (.sl (Xai A)))),(13,.one (.d (.sl (Xai B)))),(15,vi (k:Int))],[.row 3 v' (Xr2 l'),.cells [.d (.int .i64 e.1.1),.d (.int .i64 e.1.2)]]⟩) A.length ⟨0,l,v,Nat.zero_le _,rfl,by rw[List.drop_zero],hA,hla,rfl⟩ ?_
     rintro _ _ ⟨k,l',v',hk,rfl,hpu,hA',hla',rfl⟩
     simp only[go_sem]
     have hll':=hA'.len hg
     have hlt':=(List.getElem?_eq_some_iff.1 hla').1
     by_cases hka:k < A.length
     ·obtain⟨a,ha⟩:=Xaj hka
      obtain⟨b,hb⟩:=Xaj (l:=B) (i:=k) (by omega)
      have e6:decide ((k:Int) < (A.length:Int))=true:=decide_eq_true (by omega)
      have mc:=Wup (gp:=gp) l' (a,b) (by omega)
      rw[Xj6 ha hb] at hpu
      have hA2:=hp1 hA' hla' ha hb
      by_cases hq:(a,b)∈l'.map Prod.fst
      ·rw[decide_eq_true hq] at mc
       simp only[if_pos hq] at hpu hA2
       repeat' first|refine Kn rfl ?_|((first|refine Ka ?_|refine Kb ?_|refine Kv ?_|refine Ke ?_);simp only[e6,go_sem])|refine Kf ?_|refine Kg ?_|refine⟨_,⟨Kq _,Xad ha,rfl⟩,Kg ?_⟩|refine⟨_,⟨Kq _,Xad hb,rfl⟩,Kg ?_⟩|refine Or.inl ⟨_,⟨mc,rfl⟩,Kg ?_⟩|(apply Kp<;>intro _<;>try (exfalso;omega))|((first|refine Kh ?_|refine Ki rfl ?_);simp only[e6,or_self,Qs,Qt,Qu,Qv,Qw,Qx,Qy,Qz,Za,go_sem])
       refine⟨Xaf hka (by unfold Xab;omega),?_⟩
       refine Kt (fr 121 [(3,.one (.d (.bx [.int .i64 g.root,.sl (nds g.l)]))),(8,.one (.own 0 v')),(9,vi (at_:Int)),(10,.one (.ptr 1 0)),(11,.one (.d (.sl (Xai A)))),(13,.one (.d (.sl (Xai B)))),(15,vi (k+1))]) ?_
       simp only[go_sem]
       refine Ku 2 ?_
       simp only[go_sem]
       exact Kl ⟨A.length - (k+1),by omega,k+1,l',v',by omega,rfl,hpu,hA2,hla',rfl⟩
      ·rw[decide_eq_false hq] at mc
       simp only[if_neg hq] at hpu hA2
       repeat' first|refine Kn rfl ?_|((first|refine Ka ?_|refine Kb ?_|refine Kv ?_|refine Ke ?_);simp only[e6,go_sem])|refine Kf ?_|refine Kg ?_|refine⟨_,⟨Kq _,Xad ha,rfl⟩,Kg ?_⟩|refine⟨_,⟨Kq _,Xad hb,rfl⟩,Kg ?_⟩|refine Or.inl ⟨_,⟨mc,rfl⟩,Kg ?_⟩|refine⟨Kq _,hlt',_,⟨Xad hla',of_decide_eq_true rfl⟩,Kg ?_⟩|(apply Kp<;>intro _<;>try (exfalso;omega))|((first|refine Kh ?_|refine Ki rfl ?_);simp only[e6,or_self,Qs,Qt,Qu,Qv,Qw,Qx,Qy,Qz,Za,go_sem])
       refine⟨fun p hp=>by simp[Xai] at hp;obtain⟨_,_,rfl⟩:=hp;rfl,by omega,by unfold Xab;omega,by simp,by omega,by unfold Xab;omega,?_⟩
       rw[show Xai e.2++[[.int .i64 (k:Int)]]=Xai (e.2++[(k:Int)]) from by simp[Xai]]
       refine Xat 3 ?_
       simp only[go_sem]
       repeat' first|refine Kn rfl ?_|((first|refine Ka ?_|refine Kb ?_|refine Kv ?_|refine Ke ?_);simp only[go_sem])|refine Kf ?_|refine Kg ?_|(apply Kp<;>intro _<;>try (exfalso;omega))|((first|refine Kh ?_|refine Ki rfl ?_);simp only[or_self,Qs,Qt,Qu,Qv,Qw,Qx,Qy,Qz,Za,go_sem])
       refine⟨by simp,by omega,by unfold Xab;omega,?_⟩
       rw[show Xr2 l'++[[.int .i64 a,.int .i64 b,.sl (Xai (e.2++[(k:Int)]))]]=Xr2 (l'++[((a,b),e.2++[(k:Int)])]) from by simp]
       repeat' first|refine Kn rfl ?_|((first|refine Ka ?_|refine Kb ?_|refine Kv ?_|refine Ke ?_);simp only[go_sem])|refine Kf ?_|refine Kg ?_|(apply Kp<;>intro _<;>try (exfalso;omega))|((first|refine Kh ?_|refine Ki rfl ?_);simp only[or_self,Qs,Qt,Qu,Qv,Qw,Qx,Qy,Qz,Za,go_sem])
       refine⟨Xaf hka (by unfold Xab;omega),?_⟩
       refine Kt (fr 121 [(3,.one (.d (.bx [.int .i64 g.root,.sl (nds g.l)]))),(8,.one (.own 0 (v'+1))),(9,vi (at_:Int)),(10,.one (.ptr 1 0)),(11,.one (.d (.sl (Xai A)))),(13,.one (.d (.sl (Xai B)))),(15,vi (k+1))]) ?_
       simp only[go_sem]
       refine Ku 2 ?_
       simp only[go_sem]
       exact Kl ⟨A.length - (k+1),by omega,k+1,l'++[((a,b),e.2++[(k:Int)])],v'+1,by omega,rfl,hpu,hA2,by rw[List.getElem?_append_left hlt'];exact hla',rfl⟩
     ·obtain rfl:k=A.length:=by omega
      have e6:decide ((A.length:Int) < (A.length:Int))=false:=decide_eq_false (by omega)
      rw[List.drop_of_length_le (by rw[List.length_zip];omega)] at hpu
      have hl':Xgf e.2 (List.zip A B) 0 l=l':=hpu.symm
      rw[hl'] at hnx hstp
      repeat' first|refine Kn rfl ?_|((first|refine Ka ?_|refine Kb ?_|refine Kv ?_|refine Ke ?_);simp only[e6,go_sem])|refine Kf ?_|refine Kg ?_|(apply Kp<;>intro _<;>try (exfalso;omega))|((first|refine Kh ?_|refine Ki rfl ?_);simp only[e6,or_self,Qs,Qt,Qu,Qv,Qw,Qx,Qy,Qz,Za,go_sem])
      refine⟨Xaf (n:=50000) (by omega) (by unfold Xab;omega),?_⟩
      refine Kt (fr 121 [(3,.one (.d (.bx [.int .i64 g.root,.sl (nds g.l)]))),(8,.one (.own 0 v')),(9,vi (at_+1))]) ?_
      simp only[go_sem]
      refine Ku 1 ?_
      simp only[go_sem]
      exact Kl ⟨f,by omega,f,l',at_+1,v',rfl,hnx,by omega,by rw[<- hstp];exact hap,rfl⟩
    ·have hfit':Xrk g g e.1=false:=by simpa using hfit
     rw[hfit'] at f1
     rw[if_neg hfit] at hstp
     have hres:apG g i j=some e.2:=by rw[<- hap,hstp]
     rw[hres]
     repeat' first|refine Kn rfl ?_|((first|refine Ka ?_|refine Kb ?_|refine Kv ?_|refine Ke ?_);simp only[e1,go_sem])|refine Kf ?_|refine Kg ?_|refine⟨_,f1,Kg ?_⟩|refine⟨_,⟨f1,rfl⟩,Kg ?_⟩|refine⟨Kq _,hlt,_,⟨Xad hla,of_decide_eq_true rfl⟩,Kg ?_⟩|(apply Kp<;>intro _<;>try (exfalso;omega))|((first|refine Kh ?_|refine Ki rfl ?_);simp only[e1,or_self,Qs,Qt,Qu,Qv,Qw,Qx,Qy,Qz,Za,go_sem])
  ·have ea:apO g i j=none:=by unfold apO;rw[if_neg (fun hh=>hij hh.2)]
   rw[ea]
   unfold inL at hij
   repeat' first|refine Kn rfl ?_|((first|refine Ka ?_|refine Kb ?_|refine Kv ?_|refine Ke ?_);simp only[go_sem])|refine Kf ?_|refine Kg ?_|refine⟨_,c1,Kg ?_⟩|refine⟨_,⟨c1,rfl⟩,Kg ?_⟩|(apply Kp<;>intro _<;>try (exfalso;omega))|((first|refine Kh ?_|refine Ki rfl ?_);simp only[or_self,Qs,Qt,Qu,Qv,Qw,Qx,Qy,Qz,Za,go_sem])
   all_goals first|(exfalso;omega)|rfl|trace_state
 ·have ea:apO g i j=none:=by unfold apO;rw[if_neg (fun hh=>hc hh.1)]
  rw[ea]
  rw[show (chk g).isNone=false from by cases e:chk g with
   | none=>exact absurd e hc
   | some _=>rfl] at c1
  repeat' first|refine Kn rfl ?_|((first|refine Ka ?_|refine Kb ?_|refine Kv ?_|refine Ke ?_);simp only[go_sem])|refine Kf ?_|refine Kg ?_|refine⟨_,c1,Kg ?_⟩|refine⟨_,⟨c1,rfl⟩,Kg ?_⟩|(apply Kp<;>intro _<;>try (exfalso;omega))|((first|refine Kh ?_|refine Ki rfl ?_);simp only[or_self,Qs,Qt,Qu,Qv,Qw,Qx,Qy,Qz,Za,go_sem])
end Go.Fw.L07
