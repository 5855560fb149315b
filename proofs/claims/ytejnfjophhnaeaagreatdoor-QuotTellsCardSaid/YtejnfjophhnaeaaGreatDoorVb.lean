/- Chapter 8,by definition: walks,tidy graphs,paths. -/
import Derived.Test.YtejnfjophhnaeaaGreatDoorEa
import Derived.Test.YtejnfjophhnaeaaGreatDoorVy
set_option linter.all false
namespace Go.Fw.L07
open Go Go.Fw
open Go.Fw.Sh renaming intro->Kg
open Go.Fw renaming Xhj->Ka,Xev->Kb,Xhm->Kv,Xew->Ke,Xex->Kf,Xhl->Kh,Xhk->Ki,Xdt->Kt,Xfn->Ku,Xdr->Kl,Xfh->Km,Gx->Kn
open Int renaming natCast_nonneg->Kq
open And renaming intro->Kp
open Go.Proofs.Tryz renaming prog->QP
open Nat renaming reduceAdd->Qa,reduceSub->Qb,reduceMul->Qc,reduceLeDiff->Qd,reduceLT->Qe,reduceEqDiff->Qf
open Int renaming reduceToNat->Qg,reduceLT->Qh,reduceLE->Qi,reduceGT->Qj,reduceGE->Qk,reduceEq->Ql,reduceNe->Qm,reduceBEq->Qn,reduceBNe->Qo,reduceAdd->Qp,reduceSub->Qq,reduceNeg->Qr
open Go.Fw.V.one renaming injEq->Qs
open Go.Fw.V.agg renaming injEq->Qt
open Go.Fw.V.tup renaming injEq->Qu
open Go.Fw.A.d renaming injEq->Qv
open Go.Fw.D.bool renaming injEq->Qw
open Go.Fw.D.int renaming injEq->Qx
open Go.Fw.D.str renaming injEq->Qy
open Go.Fw.D.sl renaming injEq->Qz
open List.cons renaming injEq->Za
set_option maxRecDepth 4000
variable {gp:Xal}
def inJ (l:List Int) (n:Int):Int:=if n∈l then (l.idxOf n:Int) else -1
theorem in8 (l:List Int) (n:Int) (hl:l.length<=1000):Xak QP gp 60 [.one (.d (.sl (Xag l))),vi n] (vi (inJ l n)):=by
 refine Wwz ?_
 simp only[go_sem]
 repeat' first|refine Kn rfl ?_|((first|refine Ka ?_|refine Kb ?_|refine Kv ?_|refine Ke ?_);simp only[go_sem])|refine Kf ?_|refine Kg ?_|apply Kp<;>intro _|((first|refine Kh ?_|refine Ki rfl ?_);simp only[or_self,Qs,Qt,Qu,Qv,Qw,Qx,Qy,Qz,Za,go_sem])
 refine Kt (fr 19 [(0,.one (.d (.sl (Xag l)))),(1,vi n),(5,vi (0:Nat))]) ?_
 refine Km (fun mz sz=>∃ i:Nat,i<=l.length/\mz=l.length - i/\(n ∉ l.take i)/\sz=⟨fr 19 [(0,.one (.d (.sl (Xag l)))),(1,vi n),(5,vi i)],[]⟩) (l.length) ⟨0,Nat.zero_le _,(Nat.sub_zero _).symm,?_,rfl⟩ ?_
 ·simp
 rintro _ _ ⟨i,hi,rfl,hz,rfl⟩
 simp only[go_sem]
 by_cases hil:i < l.length
 ·obtain⟨x,hx⟩:=Xai hil
  have e1:decide ((i:Int) < (l.length:Int))=true:=decide_eq_true (by omega)
  by_cases hxn:x=n
  ·subst hxn
   have e2:(x==x)=true:=by simp
   have hm:x∈l:=List.mem_of_getElem? hx
   have hid:l.idxOf x=i:=by
    have h1:l=l.take i++l.drop i:=(List.take_append_drop i l).symm
    have h2:l.drop i=x::l.drop (i+1):=by
     obtain⟨h3,h4⟩:=List.getElem?_eq_some_iff.1 hx
     rw[<- h4];exact List.drop_eq_getElem_cons h3
    rw[h1,List.idxOf_append,if_neg hz,h2]
    simp;omega
   unfold inJ
   rw[if_pos hm,hid]
   repeat' first|refine Kn rfl ?_|((first|refine Ka ?_|refine Kb ?_|refine Kv ?_|refine Ke ?_);simp only[e1,e2,go_sem])|refine Kf ?_|refine Kg ?_|refine⟨_,⟨Kq _,(by first|exact Xab hx|(rw[Int.toNat_natCast];exact Xab hx)),rfl⟩,Kg ?_⟩|apply Kp<;>intro _|((first|refine Kh ?_|refine Ki rfl ?_);simp only[e1,e2,or_self,Qs,Qt,Qu,Qv,Qw,Qx,Qy,Qz,Za,go_sem])
  ·have e2:(x==n)=false:=by simp[hxn]
   repeat' first|refine Kn rfl ?_|((first|refine Ka ?_|refine Kb ?_|refine Kv ?_|refine Ke ?_);simp only[e1,e2,go_sem])|refine Kf ?_|refine Kg ?_|refine⟨_,⟨Kq _,(by first|exact Xab hx|(rw[Int.toNat_natCast];exact Xab hx)),rfl⟩,Kg ?_⟩|apply Kp<;>intro _|((first|refine Kh ?_|refine Ki rfl ?_);simp only[e1,e2,or_self,Qs,Qt,Qu,Qv,Qw,Qx,Qy,Qz,Za,go_sem])
   refine⟨Xah hil (by unfold Xac;omega),?_⟩
   refine Kt (fr 19 [(0,.one (.d (.sl (Xag l)))),(1,vi n),(5,vi (i+1))]) ?_
   refine Kl ⟨l.length - (i+1),by omega,i+1,by omega,rfl,?_,rfl⟩
   rw[List.take_succ,hx]
   simp only[List.mem_append,not_or]
   exact⟨hz,by simp;exact fun e=>hxn e.symm⟩
 ·have e1:decide ((i:Int) < (l.length:Int))=false:=decide_eq_false (by omega)
  rw[List.take_of_length_le (by omega)] at hz
  unfold inJ
  rw[if_neg hz]
  repeat' first|refine Kn rfl ?_|((first|refine Ka ?_|refine Kb ?_|refine Kv ?_|refine Ke ?_);simp only[e1,go_sem])|refine Kf ?_|refine Kg ?_|apply Kp<;>intro _|((first|refine Kh ?_|refine Ki rfl ?_);simp only[e1,or_self,Qs,Qt,Qu,Qv,Qw,Qx,Qy,Qz,Za,go_sem])
noncomputable abbrev kW (g:Gr) (t o:List Int):List Int:=Xrw (kd g) t o
theorem W3r {g:Gr} (hg:Good g):∀ (f:Nat) (i:Int) (o:List Int),g.l.length - o.length<=f->o.Nodup->(∀ x∈o,0<=x/\x < g.l.length)->0<=i/\i < g.l.length ->
  Tri QP gp 90 [g.v,vi i,.one (.own 0 o.length)] [.row 1 o.length (Xag o)] fun r post=>r=.one (.own 0 (kW g [i] o).length)/\post=[.row 1 (kW g [i] o).length (Xag (kW g [i] o))]:=by
 have hgl:=hg.len
 intro f
 induction f with
 | zero =>
  intro i o hf hn ho hi
  have hol:=Xc8 hn ho
  by_cases hm:i∈o
  ·have hw:kW g [i] o=o:=(Walks.skip hm (.nil o)).eq
   have c1:=in8 (gp:=gp) o i (by omega)
   have e1:decide (inJ o i >= 0)=true:=decide_eq_true (by unfold inJ;rw[if_pos hm];omega)
   rw[hw]
   refine Xpt ?_
   simp only[go_sem]
   repeat' first|refine Kn rfl ?_|((first|refine Ka ?_|refine Kb ?_|refine Kv ?_|refine Ke ?_);simp only[e1,go_sem])|refine Kf ?_|refine Kg ?_|refine Or.inl ⟨_,⟨c1,rfl⟩,Kg ?_⟩|apply Kp<;>intro _|((first|refine Kh ?_|refine Ki rfl ?_);simp only[e1,or_self,Qs,Qt,Qu,Qv,Qw,Qx,Qy,Qz,Za,go_sem])
  ·exfalso
   have:=Xc8 (l:=o++[i]) (n:=g.l.length) (by rw[List.nodup_append];exact⟨hn,by simp,fun a ha b hb e=>by simp at hb;subst hb;subst e;exact hm ha⟩) (fun x hx=>by
    rcases List.mem_append.1 hx with h|h
    ·exact ho x h
    ·simp at h;subst h;exact hi)
   simp at this
   omega
 | succ f ih =>
  intro i o hf hn ho hi
  have hol:=Xc8 hn ho
  by_cases hm:i∈o
  ·have hw:kW g [i] o=o:=(Walks.skip hm (.nil o)).eq
   have c1:=in8 (gp:=gp) o i (by omega)
   have e1:decide (inJ o i >= 0)=true:=decide_eq_true (by unfold inJ;rw[if_pos hm];omega)
   rw[hw]
   refine Xpt ?_
   simp only[go_sem]
   repeat' first|refine Kn rfl ?_|((first|refine Ka ?_|refine Kb ?_|refine Kv ?_|refine Ke ?_);simp only[e1,go_sem])|refine Kf ?_|refine Kg ?_|refine Or.inl ⟨_,⟨c1,rfl⟩,Kg ?_⟩|apply Kp<;>intro _|((first|refine Kh ?_|refine Ki rfl ?_);simp only[e1,or_self,Qs,Qt,Qu,Qv,Qw,Qx,Qy,Qz,Za,go_sem])
  ·have c1:=in8 (gp:=gp) o i (by omega)
   have e1:decide (inJ o i >= 0)=false:=decide_eq_false (by unfold inJ;rw[if_neg hm];omega)
   have c2:=Yif (gp:=gp) g i hg.s
   have hk2:Xaf (Xau g.l i)=kd g i:=rfl
   rw[hk2] at c2
   have hkin:=hg.kid i
   have hkl:=Xm1 hg.s i
   have hn':(o++[i]).Nodup:=by rw[List.nodup_append];exact⟨hn,by simp,fun a ha b hb e=>by simp at hb;subst hb;subst e;exact hm ha⟩
   have ho':∀ x∈o++[i],0<=x/\x < (g.l.length:Int):=fun x hx=>by
    rcases List.mem_append.1 hx with h|h
    ·exact ho x h
    ·simp at h;subst h;exact hi
   have ex:=fun (t:List Int) (ht:∀ j∈t,0<=j/\j < (g.l.length:Int))=>hg.ex hn' ho' ht
   have hfin:kW g [i] o=kW g (kd g i) (o++[i]):=by
    have h1:=ex (kd g i) hkin
    exact (Walks.step hm (by rw[List.append_nil];exact h1)).eq
   rw[hfin]
   generalize kd g i=kk at *
   have hlen':(o++[i]).length=o.length+1:=by simp
   refine Xpt ?_
   simp only[go_sem]
   repeat' first|refine Kn rfl ?_|((first|refine Ka ?_|refine Kb ?_|refine Kv ?_|refine Ke ?_);simp only[e1,go_sem])|refine Kf ?_|refine Kg ?_|refine Or.inl ⟨_,⟨c1,rfl⟩,Kg ?_⟩|apply Kp<;>intro _|((first|refine Kh ?_|refine Ki rfl ?_);simp only[e1,or_self,Qs,Qt,Qu,Qv,Qw,Qx,Qy,Qz,Za,go_sem])
   repeat (refine Kp (by first|(simp;done)|omega|(unfold Xac;omega)|(simp;omega)) ?_)
   rw[show Xag o++[[D.int .i64 i]]=Xag (o++[i]) from by simp,<- hlen']
   repeat' first|refine Kn rfl ?_|((first|refine Ka ?_|refine Kb ?_|refine Kv ?_|refine Ke ?_);simp only[go_sem])|refine Kf ?_|refine Kg ?_|refine⟨_,c2,Kg ?_⟩|refine⟨_,⟨c2,rfl⟩,Kg ?_⟩|apply Kp<;>intro _|((first|refine Kh ?_|refine Ki rfl ?_);simp only[or_self,Qs,Qt,Qu,Qv,Qw,Qx,Qy,Qz,Za,go_sem])
   have h0w:kW g [] (o++[i])=o++[i]:=(Walks.nil (o++[i])).eq
   rw[show Ch.row 1 (o++[i]).length (Xag (o++[i]))=Ch.row 1 (kW g (kk.take 0) (o++[i])).length (Xag (kW g (kk.take 0) (o++[i]))) from by rw[List.take_zero,h0w],
    show A.own 0 (o++[i]).length=A.own 0 (kW g (kk.take 0) (o++[i])).length from by rw[List.take_zero,h0w]]
   refine Kt (fr 39 [(1,vi i),(2,.one (.own 0 (kW g (kk.take (0:Nat)) (o++[i])).length)),(3,.one (.d (.bx [.int .i64 g.root,.sl (nds g.l)]))),(7,.one (.d (.sl (Xag kk)))),(9,vi (0:Nat))]) ?_
   refine Km (fun mz sz=>∃ j:Nat,j<=kk.length/\mz=kk.length - j/\(0<=j)/\sz=⟨fr 39 [(1,vi i),(2,.one (.own 0 (kW g (kk.take j) (o++[i])).length)),(3,.one (.d (.bx [.int .i64 g.root,.sl (nds g.l)]))),(7,.one (.d (.sl (Xag kk)))),(9,vi j)],[.row 1 (kW g (kk.take j) (o++[i])).length (Xag (kW g (kk.take j) (o++[i])))]⟩) (kk.length) ⟨0,Nat.zero_le _,(Nat.sub_zero _).symm,?_,rfl⟩ ?_
   ·exact Nat.zero_le _
   rintro _ _ ⟨j,hj,rfl,-,rfl⟩
   simp only[go_sem]
   by_cases hjl:j < kk.length
   ·obtain⟨c,hc⟩:=Xai hjl
    have hcr:=hkin c (List.mem_of_getElem? hc)
    have w1:=ex (kk.take j) fun x hx=>hkin x (List.mem_of_mem_take hx)
    have w2:=ex (kk.take (j+1)) fun x hx=>hkin x (List.mem_of_mem_take hx)
    have hwn:=w1.nodup hn'
    have hwr:=w1.all (P:=fun x=>0<=x/\x < (g.l.length:Int)) (fun x hx=>hkin x (List.mem_of_mem_take hx)) ho' fun i _=>hg.kid i
    have w3:=hg.ex (t:=[c]) hwn hwr (by simpa using hcr)
    have hstep:kW g [c] (kW g (kk.take j) (o++[i]))=kW g (kk.take (j+1)) (o++[i]):=by
     have:=(w1.app w3).eq
     have ht:kk.take (j+1)=kk.take j++[c]:=by rw[List.take_succ,hc];rfl
     rw[ht]
     exact this.symm
    obtain⟨r,hr⟩:=w1.pre
    have hcall:=ih c (kW g (kk.take j) (o++[i])) (by
     have:(kW g (kk.take j) (o++[i])).length=(o++[i]).length+r.length:=by
      show (Xrw (kd g) (kk.take j) (o++[i])).length=_
      rw[hr,List.length_append]
     omega) hwn hwr hcr
    rw[hstep] at hcall
    have e2:decide ((j:Int) < (kk.length:Int))=true:=decide_eq_true (by omega)
    repeat' first|refine Kn rfl ?_|((first|refine Ka ?_|refine Kb ?_|refine Kv ?_|refine Ke ?_);simp only[e2,go_sem])|refine Kf ?_|refine Kg ?_|refine⟨_,⟨Kq _,(by first|exact Xab hc|(rw[Int.toNat_natCast];exact Xab hc)),rfl⟩,Kg ?_⟩|(apply Kp<;>intro _<;>try (exfalso;omega))|((first|refine Kh ?_|refine Ki rfl ?_);simp only[e2,or_self,Qs,Qt,Qu,Qv,Qw,Qx,Qy,Qz,Za,go_sem])
    refine Or.inr (Or.inr ⟨[0],.one (.own 0 (kW g (kk.take (j+1)) (o++[i])).length),[.row 1 (kW g (kk.take (j+1)) (o++[i])).length (Xag (kW g (kk.take (j+1)) (o++[i])))],(by simp only[Xbo,Xf0,rnV,rnA,Xgk,rn0,Xgj,Xc5,Xf1,rnC,Xao,List.isEmpty_nil,reduceCtorEq,↓reduceIte,Qa,Qb,Qc,Qd,Qe,Qf,Qg,Qh,Qi,Qj,Qk,Ql,Qm,Qn,Qo,Qp,Qq,Qr];simp only[go_sem];exact⟨Yet,hcall⟩),Kg ?_⟩)
    simp only[go_sem]
    repeat' first|refine Kn rfl ?_|((first|refine Ka ?_|refine Kb ?_|refine Kv ?_|refine Ke ?_);simp only[go_sem])|refine Kf ?_|refine Kg ?_|(apply Kp<;>intro _<;>try (exfalso;omega))|((first|refine Kh ?_|refine Ki rfl ?_);simp only[or_self,Qs,Qt,Qu,Qv,Qw,Qx,Qy,Qz,Za,go_sem])
    refine⟨Xah hjl (by unfold Xac;omega),?_⟩
    refine Kt (fr 39 [(1,vi i),(2,.one (.own 0 (kW g (kk.take (j+1)) (o++[i])).length)),(3,.one (.d (.bx [.int .i64 g.root,.sl (nds g.l)]))),(7,.one (.d (.sl (Xag kk)))),(9,vi (j+1))]) ?_
    refine Ku 1 ?_
    simp only[go_sem]
    refine Kl ⟨kk.length - (j+1),by omega,j+1,by omega,rfl,?_,rfl⟩
    exact Nat.zero_le _
   ·obtain rfl:kk.length=j:=by omega
    have e2:decide ((kk.length:Int) < (kk.length:Int))=false:=decide_eq_false (by omega)
    rw[List.take_of_length_le (Nat.le_refl kk.length)]
    repeat' first|refine Kn rfl ?_|((first|refine Ka ?_|refine Kb ?_|refine Kv ?_|refine Ke ?_);simp only[e2,go_sem])|refine Kf ?_|refine Kg ?_|(apply Kp<;>intro _<;>try (exfalso;omega))|((first|refine Kh ?_|refine Ki rfl ?_);simp only[e2,or_self,Qs,Qt,Qu,Qv,Qw,Qx,Qy,Qz,Za,go_sem])
    all_goals trace_state
theorem Wnc {g:Gr} (hg:Good g) (i:Int) (hi:0<=i/\i < g.l.length) (o:List Int) (ho0:o=[]):Tri QP gp 90 [g.v,vi i,.one .nil] [] fun r post=>r=.one (.own 0 (kW g [i] o).length)/\post=[.row 1 (kW g [i] o).length (Xag (kW g [i] o))]:=by
 have hgl:=hg.len
 have hn:o.Nodup:=by rw[ho0];simp
 have ho:∀ x∈o,0<=x/\x < (g.l.length:Int):=by rw[ho0];simp
 have hol:o.length<=g.l.length:=by rw[ho0];simp
 have hm:i ∉ o:=by rw[ho0];simp
 have c1:=in8 (gp:=gp) o i (by omega)
 have e1:decide (inJ o i >= 0)=false:=decide_eq_false (by unfold inJ;rw[if_neg hm];omega)
 have c2:=Yif (gp:=gp) g i hg.s
 have hk2:Xaf (Xau g.l i)=kd g i:=rfl
 rw[hk2] at c2
 have hkin:=hg.kid i
 have hkl:=Xm1 hg.s i
 have hn':(o++[i]).Nodup:=by rw[List.nodup_append];exact⟨hn,by simp,fun a ha b hb e=>by simp at hb;subst hb;subst e;exact hm ha⟩
 have ho':∀ x∈o++[i],0<=x/\x < (g.l.length:Int):=fun x hx=>by
  rcases List.mem_append.1 hx with h|h
  ·exact ho x h
  ·simp at h;subst h;exact hi
 have ex:=fun (t:List Int) (ht:∀ j∈t,0<=j/\j < (g.l.length:Int))=>hg.ex hn' ho' ht
 have hfin:kW g [i] o=kW g (kd g i) (o++[i]):=by
  have h1:=ex (kd g i) hkin
  exact (Walks.step hm (by rw[List.append_nil];exact h1)).eq
 rw[hfin]
 generalize kd g i=kk at *
 have hlen':(o++[i]).length=o.length+1:=by simp
 refine Xpt ?_
 simp only[go_sem]
 refine Xds 2 1 (by decide) rfl ?_
 simp only[go_sem]
 rw[show Ch.row 1 0 []=Ch.row 1 o.length (Xag o) from by rw[ho0];rfl,show A.own 0 0=A.own 0 o.length from by rw[ho0];rfl]
 repeat' first|refine Kn rfl ?_|((first|refine Ka ?_|refine Kb ?_|refine Kv ?_|refine Ke ?_);simp only[e1,go_sem])|refine Kf ?_|refine Kg ?_|refine Or.inl ⟨_,⟨c1,rfl⟩,Kg ?_⟩|apply Kp<;>intro _|((first|refine Kh ?_|refine Ki rfl ?_);simp only[e1,or_self,Qs,Qt,Qu,Qv,Qw,Qx,Qy,Qz,Za,go_sem])
 repeat (refine Kp (by first|(simp;done)|omega|(unfold Xac;omega)|(simp;omega)) ?_)
 rw[show Xag o++[[D.int .i64 i]]=Xag (o++[i]) from by simp,<- hlen']
 repeat' first|refine Kn rfl ?_|((first|refine Ka ?_|refine Kb ?_|refine Kv ?_|refine Ke ?_);simp only[go_sem])|refine Kf ?_|refine Kg ?_|refine⟨_,c2,Kg ?_⟩|refine⟨_,⟨c2,rfl⟩,Kg ?_⟩|apply Kp<;>intro _|((first|refine Kh ?_|refine Ki rfl ?_);simp only[or_self,Qs,Qt,Qu,Qv,Qw,Qx,Qy,Qz,Za,go_sem])
 have h0w:kW g [] (o++[i])=o++[i]:=(Walks.nil (o++[i])).eq
 rw[show Ch.row 1 (o++[i]).length (Xag (o++[i]))=Ch.row 1 (kW g (kk.take 0) (o++[i])).length (Xag (kW g (kk.take 0) (o++[i]))) from by rw[List.take_zero,h0w],
  show A.own 0 (o++[i]).length=A.own 0 (kW g (kk.take 0) (o++[i])).length from by rw[List.take_zero,h0w]]
 refine Kt (fr 39 [(1,vi i),(2,.one (.own 0 (kW g (kk.take (0:Nat)) (o++[i])).length)),(3,.one (.d (.bx [.int .i64 g.root,.sl (nds g.l)]))),(7,.one (.d (.sl (Xag kk)))),(9,vi (0:Nat))]) ?_
 refine Km (fun mz sz=>∃ j:Nat,j<=kk.length/\mz=kk.length - j/\(0<=j)/\sz=⟨fr 39 [(1,vi i),(2,.one (.own 0 (kW g (kk.take j) (o++[i])).length)),(3,.one (.d (.bx [.int .i64 g.root,.sl (nds g.l)]))),(7,.one (.d (.sl (Xag kk)))),(9,vi j)],[.row 1 (kW g (kk.take j) (o++[i])).length (Xag (kW g (kk.take j) (o++[i])))]⟩) (kk.length) ⟨0,Nat.zero_le _,(Nat.sub_zero _).symm,?_,rfl⟩ ?_
 ·exact Nat.zero_le _
 rintro _ _ ⟨j,hj,rfl,-,rfl⟩
 simp only[go_sem]
 by_cases hjl:j < kk.length
 ·obtain⟨c,hc⟩:=Xai hjl
  have hcr:=hkin c (List.mem_of_getElem? hc)
  have w1:=ex (kk.take j) fun x hx=>hkin x (List.mem_of_mem_take hx)
  have w2:=ex (kk.take (j+1)) fun x hx=>hkin x (List.mem_of_mem_take hx)
  have hwn:=w1.nodup hn'
  have hwr:=w1.all (P:=fun x=>0<=x/\x < (g.l.length:Int)) (fun x hx=>hkin x (List.mem_of_mem_take hx)) ho' fun i _=>hg.kid i
  have w3:=hg.ex (t:=[c]) hwn hwr (by simpa using hcr)
  have hstep:kW g [c] (kW g (kk.take j) (o++[i]))=kW g (kk.take (j+1)) (o++[i]):=by
   have:=(w1.app w3).eq
   have ht:kk.take (j+1)=kk.take j++[c]:=by rw[List.take_succ,hc];rfl
   rw[ht]
   exact this.symm
  obtain⟨r,hr⟩:=w1.pre
  have hcall:=W3r (gp:=gp) hg 1000 c (kW g (kk.take j) (o++[i])) (by
   have:(kW g (kk.take j) (o++[i])).length=(o++[i]).length+r.length:=by
    show (Xrw (kd g) (kk.take j) (o++[i])).length=_
    rw[hr,List.length_append]
   omega) hwn hwr hcr
  rw[hstep] at hcall
  have e2:decide ((j:Int) < (kk.length:Int))=true:=decide_eq_true (by omega)
  repeat' first|refine Kn rfl ?_|((first|refine Ka ?_|refine Kb ?_|refine Kv ?_|refine Ke ?_);simp only[e2,go_sem])|refine Kf ?_|refine Kg ?_|refine⟨_,⟨Kq _,(by first|exact Xab hc|(rw[Int.toNat_natCast];exact Xab hc)),rfl⟩,Kg ?_⟩|(apply Kp<;>intro _<;>try (exfalso;omega))|((first|refine Kh ?_|refine Ki rfl ?_);simp only[e2,or_self,Qs,Qt,Qu,Qv,Qw,Qx,Qy,Qz,Za,go_sem])
  refine Or.inr (Or.inr ⟨[0],.one (.own 0 (kW g (kk.take (j+1)) (o++[i])).length),[.row 1 (kW g (kk.take (j+1)) (o++[i])).length (Xag (kW g (kk.take (j+1)) (o++[i])))],(by simp only[Xbo,Xf0,rnV,rnA,Xgk,rn0,Xgj,Xc5,Xf1,rnC,Xao,List.isEmpty_nil,reduceCtorEq,↓reduceIte,Qa,Qb,Qc,Qd,Qe,Qf,Qg,Qh,Qi,Qj,Qk,Ql,Qm,Qn,Qo,Qp,Qq,Qr];simp only[go_sem];exact⟨Yet,hcall⟩),Kg ?_⟩)
  simp only[go_sem]
  repeat' first|refine Kn rfl ?_|((first|refine Ka ?_|refine Kb ?_|refine Kv ?_|refine Ke ?_);simp only[go_sem])|refine Kf ?_|refine Kg ?_|(apply Kp<;>intro _<;>try (exfalso;omega))|((first|refine Kh ?_|refine Ki rfl ?_);simp only[or_self,Qs,Qt,Qu,Qv,Qw,Qx,Qy,Qz,Za,go_sem])
  refine⟨Xah hjl (by unfold Xac;omega),?_⟩
  refine Kt (fr 39 [(1,vi i),(2,.one (.own 0 (kW g (kk.take (j+1)) (o++[i])).length)),(3,.one (.d (.bx [.int .i64 g.root,.sl (nds g.l)]))),(7,.one (.d (.sl (Xag kk)))),(9,vi (j+1))]) ?_
  refine Ku 1 ?_
  simp only[go_sem]
  refine Kl ⟨kk.length - (j+1),by omega,j+1,by omega,rfl,?_,rfl⟩
  exact Nat.zero_le _
 ·obtain rfl:kk.length=j:=by omega
  have e2:decide ((kk.length:Int) < (kk.length:Int))=false:=decide_eq_false (by omega)
  rw[List.take_of_length_le (Nat.le_refl kk.length)]
  repeat' first|refine Kn rfl ?_|((first|refine Ka ?_|refine Kb ?_|refine Kv ?_|refine Ke ?_);simp only[e2,go_sem])|refine Kf ?_|refine Kg ?_|(apply Kp<;>intro _<;>try (exfalso;omega))|((first|refine Kh ?_|refine Ki rfl ?_);simp only[e2,or_self,Qs,Qt,Qu,Qv,Qw,Qx,Qy,Qz,Za,go_sem])
  all_goals trace_state
theorem W3s (g:Gr) (hs:Xc7 g) (hst:∀ x∈g.l,x.short):Xak QP gp 59 [g.v] (.tup [.one (.d (.sl (Xag (wOf g)))),vi (Xfw g)]):=by
 refine Wws ?_
 simp only[go_sem]
 have c1:Xak QP gp 39 [g.v] (.tup [vi ((chk g).getD (0,0)).1,vi (Xfw g)]):=Yw0 g hst
 by_cases hc:chk g=none
 ·have hg:Good g:=⟨hc,hs⟩
  rw[Xbv hc,Xld hg] at *
  have c2:=Wnc (gp:=gp) hg g.root hg.root [] rfl
  rw[show kW g [g.root] []=Xav g from rfl] at c2
  repeat' first|refine Kn rfl ?_|((first|refine Ka ?_|refine Kb ?_|refine Kv ?_|refine Ke ?_);simp only[go_sem])|refine Kf ?_|refine Kg ?_|refine⟨_,c1,Kg ?_⟩|refine⟨_,⟨c1,rfl⟩,Kg ?_⟩|apply Kp<;>intro _|((first|refine Kh ?_|refine Ki rfl ?_);simp only[or_self,Qs,Qt,Qu,Qv,Qw,Qx,Qy,Qz,Za,go_sem])
  refine Xgz 17 ?_
  simp only[go_sem]
  repeat' first|refine Kn rfl ?_|((first|refine Ka ?_|refine Kb ?_|refine Kv ?_|refine Ke ?_);simp only[Xm0,go_sem])|refine Kf ?_|refine Kg ?_|apply Kp<;>intro _|((first|refine Kh ?_|refine Ki rfl ?_);simp only[Xm0,or_self,Qs,Qt,Qu,Qv,Qw,Qx,Qy,Qz,Za,go_sem])
  refine Or.inr ⟨[],.one (.own 0 (Xav g).length),[.row 1 (Xav g).length (Xag (Xav g))],(by simp only[Xbo,Xf0,rnV,rnA,Xgk,rn0,Xgj,Xc5,Xf1,rnC,Xao,List.isEmpty_nil,reduceCtorEq,↓reduceIte,Qa,Qb,Qc,Qd,Qe,Qf,Qg,Qh,Qi,Qj,Qk,Ql,Qm,Qn,Qo,Qp,Qq,Qr];simp only[go_sem];exact⟨Yet,c2⟩),Kg ?_⟩
  simp only[go_sem]
  refine Xar 0 ?_
  simp only[go_sem]
  repeat' first|refine Kn rfl ?_|((first|refine Ka ?_|refine Kb ?_|refine Kv ?_|refine Ke ?_);simp only[Xm0,go_sem])|refine Kf ?_|refine Kg ?_|apply Kp<;>intro _|((first|refine Kh ?_|refine Ki rfl ?_);simp only[Xm0,or_self,Qs,Qt,Qu,Qv,Qw,Qx,Qy,Qz,Za,go_sem])
  all_goals trace_state
 ·have he:=Xdc hc
  have hw:wOf g=[]:=by unfold wOf;rw[if_neg hc]
  rw[hw]
  generalize Xfw g=e at *
  have e1:(e != 0)=true:=by simpa using he
  repeat' first|refine Kn rfl ?_|((first|refine Ka ?_|refine Kb ?_|refine Kv ?_|refine Ke ?_);simp only[Xm0,e1,go_sem])|refine Kf ?_|refine Kg ?_|refine⟨_,c1,Kg ?_⟩|refine⟨_,⟨c1,rfl⟩,Kg ?_⟩|apply Kp<;>intro _|((first|refine Kh ?_|refine Ki rfl ?_);simp only[Xm0,e1,or_self,Qs,Qt,Qu,Qv,Qw,Qx,Qy,Qz,Za,go_sem])
  all_goals trace_state
theorem W3t {l:List Int} {i:Int} (h:i∈l):inJ l i=(l.idxOf i:Int):=by unfold inJ;rw[if_pos h]
set_option maxHeartbeats 4000000 in
theorem W3u (g:Gr) (hs:Xc7 g) (hst:∀ x∈g.l,x.short):Xak QP gp 57 [g.v] (.tup [(tOf g).v,vi (Xfw g)]):=by
 refine Wwl ?_
 simp only[go_sem]
 have c1:=W3s (gp:=gp) g hs hst
 by_cases hc:chk g=none
 ·have he:=Xbv hc
  have ht:tOf g=Xbh g:=by unfold tOf;rw[if_pos hc]
  have hg:Good g:=⟨hc,hs⟩
  rw[he,Xld hg] at c1
  rw[he,ht]
  have hwn:=hg.wlen
  have hgl:=hg.len
  have hwi:=hg.wIn
  have hcl:=hg.wclosed
  have hT:Xbh g=⟨0,(Xav g).map fun i=>Xbe (Xav g) (Xau g.l i)⟩:=rfl
  rw[hT]
  generalize Xav g=W at *
  repeat' first|refine Kn rfl ?_|((first|refine Ka ?_|refine Kb ?_|refine Kv ?_|refine Ke ?_);simp only[Xdh,go_sem])|refine Kf ?_|refine Kg ?_|refine⟨_,c1,Kg ?_⟩|refine⟨_,⟨c1,rfl⟩,Kg ?_⟩|apply Kp<;>intro _|((first|refine Kh ?_|refine Ki rfl ?_);simp only[Xdh,or_self,Qs,Qt,Qu,Qv,Qw,Qx,Qy,Qz,Za,go_sem])
  refine Xfm 1 1 6 (by decide) rfl rfl ?_
  simp only[go_sem]
  refine Kt (fr 85 [(1,.one (.d (.bx [.int .i64 g.root,.sl (nds g.l)]))),(2,.one (.ptr 0 0)),(4,.one (.d (.sl (Xag W)))),(6,.one (.ptr 1 0)),(7,vi (0:Nat))]) ?_
  refine Km (fun mz sz=>∃ i:Nat,i<=W.length/\mz=W.length - i/\(0<=i)/\sz=⟨fr 85 [(1,.one (.d (.bx [.int .i64 g.root,.sl (nds g.l)]))),(2,.one (.ptr 0 0)),(4,.one (.d (.sl (Xag W)))),(6,.one (.ptr 1 0)),(7,vi i)],[.cells [.d (.int .i64 0),.nil],.cells [.d (.int .i64 0),.own 2 i],.row 6 i (nds ((W.map fun i=>Xbe W (Xau g.l i)).take i))]⟩) (W.length) ⟨0,Nat.zero_le _,(Nat.sub_zero _).symm,?_,rfl⟩ ?_
  ·exact Nat.zero_le _
  rintro _ _ ⟨i,hi,rfl,-,rfl⟩
  simp only[go_sem]
  by_cases hil:i < W.length
  ·obtain⟨n0,hj⟩:=Xai hil
   have hjm:=List.mem_of_getElem? hj
   have hjr:=hwi n0 hjm
   obtain⟨n,rfl⟩:=Int.eq_ofNat_of_zero_le hjr.1
   obtain⟨x,hx⟩:=Xai (l:=g.l) (i:=n) (by omega)
   have hnd:Xau g.l n=x:=by unfold Xau;rw[if_pos hjr,Int.toNat_natCast,hx];rfl
   have hTj:(W.map fun i=>Xbe W (Xau g.l i))[i]?=some (Xbe W x):=by rw[List.getElem?_map,hj,<- hnd];rfl
   have k1:=Yq4 (gp:=gp) g n hs
   have k2:=Yif (gp:=gp) g n hs
   rw[hnd] at k1 k2
   have hkl:=Xdk x 12 (hs x (List.mem_of_getElem? hx))
   have hkw:∀ i∈Xaf x,i∈W:=by
    have:=hcl n hjm
    rw[kd,hnd] at this
    exact this
   have e0:decide ((i:Int) < (W.length:Int))=true:=decide_eq_true (by omega)
   have hfl:Xbe W x=⟨x.k,x.x,Xaj x,(Xaf x).map fun i=>(W.idxOf i:Int)⟩:=rfl
   rw[hfl] at hTj
   generalize hkk:Xaf x=kk at *
   generalize Xaj x=yy at *
   repeat' first|refine Kn rfl ?_|((first|refine Ka ?_|refine Kb ?_|refine Kv ?_|refine Ke ?_);simp only[Xdh,e0,go_sem])|refine Kf ?_|refine Kg ?_|refine⟨_,k1,Kg ?_⟩|refine⟨_,⟨k1,rfl⟩,Kg ?_⟩|refine⟨_,k2,Kg ?_⟩|refine⟨_,⟨k2,rfl⟩,Kg ?_⟩|refine⟨_,⟨Kq _,(by first|exact Xab hj|(rw[Int.toNat_natCast];exact Xab hj)),rfl⟩,Kg ?_⟩|refine⟨_,⟨Kq _,(by first|exact Xab hx|(rw[Int.toNat_natCast];exact Xab hx)),rfl⟩,Kg ?_⟩|(apply Kp<;>intro _<;>try (exfalso;omega))|((first|refine Kh ?_|refine Ki rfl ?_);simp only[Xdh,e0,or_self,Qs,Qt,Qu,Qv,Qw,Qx,Qy,Qz,Za,go_sem])
   refine Xfm 4 5 1 (by decide) rfl rfl ?_
   simp only[go_sem]
   refine Kt (fr 85 [(1,.one (.d (.bx [.int .i64 g.root,.sl (nds g.l)]))),(2,.one (.ptr 0 0)),(4,.one (.d (.sl (Xag W)))),(6,.one (.ptr 1 0)),(7,vi i),(9,.one (.ptr 4 0)),(10,.one (.d (.sl (Xag kk)))),(12,vi (0:Nat))]) ?_
   refine Km (fun mz sz=>∃ j:Nat,j<=kk.length/\mz=kk.length - j/\(0<=j)/\sz=⟨fr 85 [(1,.one (.d (.bx [.int .i64 g.root,.sl (nds g.l)]))),(2,.one (.ptr 0 0)),(4,.one (.d (.sl (Xag W)))),(6,.one (.ptr 1 0)),(7,vi i),(9,.one (.ptr 4 0)),(10,.one (.d (.sl (Xag kk)))),(12,vi j)],[.cells [.d (.int .i64 0),.nil],.cells [.d (.int .i64 0),.own 2 i],.row 6 i (nds ((W.map fun i=>Xbe W (Xau g.l i)).take i)),.cells x.as,.cells [.d (.int .i64 x.k),.d (.int .i64 x.x.k),.d (.int .i64 x.x.n),.d (.str x.x.s),.d (.sl (scs yy)),.own 5 j],.row 1 j (Xag ((kk.map fun i=>(W.idxOf i:Int)).take j))]⟩) (kk.length) ⟨0,Nat.zero_le _,(Nat.sub_zero _).symm,?_,rfl⟩ ?_
   ·exact Nat.zero_le _
   rintro _ _ ⟨j,hj2,rfl,-,rfl⟩
   simp only[go_sem]
   by_cases hjl:j < kk.length
   ·obtain⟨c,hc2⟩:=Xai hjl
    have c2:=in8 (gp:=gp) W c (by omega)
    rw[W3t (hkw c (List.mem_of_getElem? hc2))] at c2
    have hmj:(kk.map fun i=>(W.idxOf i:Int))[j]?=some (W.idxOf c:Int):=by rw[List.getElem?_map,hc2];rfl
    have e1:decide ((j:Int) < (kk.length:Int))=true:=decide_eq_true (by omega)
    repeat' first|refine Kn rfl ?_|((first|refine Ka ?_|refine Kb ?_|refine Kv ?_|refine Ke ?_);simp only[Xdh,e1,go_sem])|refine Kf ?_|refine Kg ?_|refine⟨_,c2,Kg ?_⟩|refine⟨_,⟨c2,rfl⟩,Kg ?_⟩|refine⟨_,⟨Kq _,(by first|exact Xab hc2|(rw[Int.toNat_natCast];exact Xab hc2)),rfl⟩,Kg ?_⟩|(apply Kp<;>intro _<;>try (exfalso;omega))|((first|refine Kh ?_|refine Ki rfl ?_);simp only[Xdh,e1,or_self,Qs,Qt,Qu,Qv,Qw,Qx,Qy,Qz,Za,go_sem])
    repeat (refine Kp (by first|(simp;done)|omega|(unfold Xac;omega)|(simp;omega)|(simp[Xac];omega)) ?_)
    rw[show Xag ((kk.map fun i=>(W.idxOf i:Int)).take j)++[_]=Xag ((kk.map fun i=>(W.idxOf i:Int)).take (j+1)) from Xcv hmj]
    repeat' first|refine Kn rfl ?_|((first|refine Ka ?_|refine Kb ?_|refine Kv ?_|refine Ke ?_);simp only[Xdh,go_sem])|refine Kf ?_|refine Kg ?_|(apply Kp<;>intro _<;>try (exfalso;omega))|((first|refine Kh ?_|refine Ki rfl ?_);simp only[Xdh,or_self,Qs,Qt,Qu,Qv,Qw,Qx,Qy,Qz,Za,go_sem])
    refine⟨Xah hjl (by unfold Xac;omega),?_⟩
    refine Kt (fr 85 [(1,.one (.d (.bx [.int .i64 g.root,.sl (nds g.l)]))),(2,.one (.ptr 0 0)),(4,.one (.d (.sl (Xag W)))),(6,.one (.ptr 1 0)),(7,vi i),(9,.one (.ptr 4 0)),(10,.one (.d (.sl (Xag kk)))),(12,vi (j+1))]) ?_
    refine Kl ⟨kk.length - (j+1),by omega,j+1,by omega,rfl,?_,rfl⟩
    exact Nat.zero_le _
   ·obtain rfl:kk.length=j:=by omega
    have e1:decide ((kk.length:Int) < (kk.length:Int))=false:=decide_eq_false (by omega)
    rw[show (kk.map fun i=>(W.idxOf i:Int)).take kk.length=kk.map fun i=>(W.idxOf i:Int) from List.take_of_length_le (by simp)]
    have htl:((W.map fun i=>Xbe W (Xau g.l i)).take i).length=i:=by simp;omega
    have h88:(((W.map fun i=>Xbe W (Xau g.l i)).take i).length+1)*88<=140737488355328:=by rw[htl];omega
    have hlm:((W.map fun i=>Xbe W (Xau g.l i)).take i).length+1 < Xac:=by rw[htl];unfold Xac;omega
    repeat' first|refine Kn rfl ?_|((first|refine Ka ?_|refine Kb ?_|refine Kv ?_|refine Ke ?_);simp only[e1,go_sem])|refine Kf ?_|refine Kg ?_|(apply Kp<;>intro _<;>try (exfalso;omega))|((first|refine Kh ?_|refine Ki rfl ?_);simp only[e1,or_self,Qs,Qt,Qu,Qv,Qw,Qx,Qy,Qz,Za,go_sem])
    refine Xar 5 ?_
    simp only[go_sem]
    repeat' first|refine Kn rfl ?_|((first|refine Ka ?_|refine Kb ?_|refine Kv ?_|refine Ke ?_);simp only[Xdh,go_sem])|refine Kf ?_|refine Kg ?_|refine⟨by simp,h88,hlm,?_⟩|(apply Kp<;>intro _<;>try (exfalso;omega))|((first|refine Kh ?_|refine Ki rfl ?_);simp only[Xdh,or_self,Qs,Qt,Qu,Qv,Qw,Qx,Qy,Qz,Za,go_sem])
    rw[show nds ((W.map fun i=>Xbe W (Xau g.l i)).take i)++[[D.int .i64 x.k,.int .i64 x.x.k,.int .i64 x.x.n,.str x.x.s,.sl (scs yy),.sl (Xag (kk.map fun i=>(W.idxOf i:Int)))]]=nds ((W.map fun i=>Xbe W (Xau g.l i)).take (i+1)) from Xi1 hTj]
    refine⟨Xah hil (by unfold Xac;omega),?_⟩
    refine Kt (fr 85 [(1,.one (.d (.bx [.int .i64 g.root,.sl (nds g.l)]))),(2,.one (.ptr 0 0)),(4,.one (.d (.sl (Xag W)))),(6,.one (.ptr 1 0)),(7,vi (i+1))]) ?_
    refine Ku 3 ?_
    simp only[go_sem]
    refine Kl ⟨W.length - (i+1),by omega,i+1,by omega,rfl,?_,rfl⟩
    exact Nat.zero_le _
  ·obtain rfl:W.length=i:=by omega
   have e0:decide ((W.length:Int) < (W.length:Int))=false:=decide_eq_false (by omega)
   rw[List.take_of_length_le (by simp)]
   refine Xar 2 ?_
   simp only[go_sem]
   repeat' first|refine Kn rfl ?_|((first|refine Ka ?_|refine Kb ?_|refine Kv ?_|refine Ke ?_);simp only[Xdh,e0,go_sem])|refine Kf ?_|refine Kg ?_|(apply Kp<;>intro _<;>try (exfalso;omega))|((first|refine Kh ?_|refine Ki rfl ?_);simp only[Xdh,e0,or_self,Qs,Qt,Qu,Qv,Qw,Qx,Qy,Qz,Za,go_sem])
   all_goals trace_state
 ·have he:=Xdc hc
  have ht:tOf g=⟨0,[]⟩:=by unfold tOf;rw[if_neg hc]
  have hw:wOf g=[]:=by unfold wOf;rw[if_neg hc]
  rw[hw] at c1
  rw[ht]
  generalize Xfw g=e at *
  have e1:(e != 0)=true:=by simpa using he
  repeat' first|refine Kn rfl ?_|((first|refine Ka ?_|refine Kb ?_|refine Kv ?_|refine Ke ?_);simp only[Xdh,e1,go_sem])|refine Kf ?_|refine Kg ?_|refine⟨_,c1,Kg ?_⟩|refine⟨_,⟨c1,rfl⟩,Kg ?_⟩|apply Kp<;>intro _|((first|refine Kh ?_|refine Ki rfl ?_);simp only[Xdh,e1,or_self,Qs,Qt,Qu,Qv,Qw,Qx,Qy,Qz,Za,go_sem])
  all_goals first|rfl|(exfalso;simp_all;done)|exact⟨rfl,rfl⟩|trace_state
theorem Wnd (g:Gr) (hs:Xc7 g) (hst:∀ x∈g.l,x.short) (hl:g.l.length<=1000):Xak QP gp 61 [g.v] (vb (decide (chk g=none/\g=Xbh g))):=by
 refine Ww4 ?_
 simp only[go_sem]
 have c1:=W3u (gp:=gp) g hs hst
 by_cases hc:chk g=none
 ·rw[Xbv hc,Xpx ⟨hc,hs⟩] at c1
  repeat' first|refine Kn rfl ?_|((first|refine Ka ?_|refine Kb ?_|refine Kv ?_|refine Ke ?_);simp only[go_sem])|refine Kf ?_|refine Kg ?_|refine⟨_,c1,Kg ?_⟩|refine⟨_,⟨c1,rfl⟩,Kg ?_⟩|refine⟨_,Ydp g (Xbh g) hl,Kg ?_⟩|refine⟨_,⟨Ydp g (Xbh g) hl,rfl⟩,Kg ?_⟩|apply Kp<;>intro _|((first|refine Kh ?_|refine Ki rfl ?_);simp only[or_self,Qs,Qt,Qu,Qv,Qw,Qx,Qy,Qz,Za,go_sem])
  all_goals simp[hc]
 ·have he:=Xdc hc
  generalize Xfw g=e at *
  repeat' first|refine Kn rfl ?_|((first|refine Ka ?_|refine Kb ?_|refine Kv ?_|refine Ke ?_);simp only[go_sem])|refine Kf ?_|refine Kg ?_|refine⟨_,c1,Kg ?_⟩|refine⟨_,⟨c1,rfl⟩,Kg ?_⟩|refine⟨_,Ydp g (tOf g) hl,Kg ?_⟩|refine⟨_,⟨Ydp g (tOf g) hl,rfl⟩,Kg ?_⟩|apply Kp<;>intro _|((first|refine Kh ?_|refine Ki rfl ?_);simp only[or_self,Qs,Qt,Qu,Qv,Qw,Qx,Qy,Qz,Za,go_sem])
  all_goals simp_all
end Go.Fw.L07
