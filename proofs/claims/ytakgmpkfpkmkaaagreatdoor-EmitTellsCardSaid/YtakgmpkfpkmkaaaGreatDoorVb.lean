/- Chapter 8,by definition: walks,tidy graphs,paths. -/
import Derived.Test.YtakgmpkfpkmkaaaGreatDoorEa
import Derived.Test.YtakgmpkfpkmkaaaGreatDoorVy
import Derived.Test.YtakgmpkfpkmkaaaGreatDoorEb
set_option linter.all false
namespace Go.Fw.L07
open Go Go.Fw
open Go.Fw.Sh renaming intro->Kg
open Go.Fw renaming Xbw->Kb,Jez->Kv,Xd2->Kf,X4q->Kj,Xcp->Kt,Xfl->Ku,Xco->Kl,Xeg->Km,Gx->Kn
open Go.Fw renaming Xdt->Kw, Xbs->Kw, Xbw->Kw, Xby->Kw, Xbz->Kw, Xhh->Kw, Xd3->Kw
open Go.Fw.Sh renaming intro->Kf
open Int renaming natCast_nonneg->Kq
open And renaming intro->Kp
open Go.Proofs.Tryz renaming prog->QP
open Nat renaming reduceAdd->Qa,reduceSub->Qb,reduceMul->Qc,reduceLeDiff->Qd,reduceLT->Qe,reduceEqDiff->Qf
open Int renaming reduceToNat->Qg,reduceLT->Qh,reduceLE->Qi,reduceGT->Qj,reduceGE->Qk,reduceEq->Ql,reduceNe->Qm,reduceBEq->Qn,reduceBNe->Qo,reduceAdd->Qp,reduceSub->Qq,reduceNeg->Qr
set_option maxRecDepth 4000
variable {gp:Heap}
def inJ (l:List Int) (n:Int):Int:=if n∈l then (l.idxOf n:Int) else -1
theorem in8 (l:List Int) (n:Int) (hl:l.length<=1000):Does QP gp 92 [.one (.d (.sl (Xad l))),vi n] (vi (inJ l n)):=by
 refine Y7b ?_
 simp only[go_sem]
 repeat' first|refine Kn rfl ?_|(refine Kw ?_;simp only[go_sem])|refine Kf ?_|apply Kp<;>intro _
 refine Kt (fr 19 [(0,.one (.d (.sl (Xad l)))),(1,vi n),(5,vi (0:Nat))]) ?_
 refine Km (fun mz sz=>∃ i:Nat,i<=l.length/\mz=l.length - i/\(n ∉ l.take i)/\sz=⟨fr 19 [(0,.one (.d (.sl (Xad l)))),(1,vi n),(5,vi i)],[]⟩) (l.length) ⟨0,Nat.zero_le _,(Nat.sub_zero _).symm,?_,rfl⟩ ?_
 ·simp
 rintro _ _ ⟨i,hi,rfl,hz,rfl⟩
 simp only[go_sem]
 by_cases hil:i < l.length
 ·obtain⟨x,hx⟩:=Xaf hil
  have e1:decide ((i:Int) < (l.length:Int))=true:=decide_eq_true (by omega)
  by_cases hxn:x=n
  ·subst hxn
   have e2:(x==x)=true:=by simp
   have hm:x∈l:=List.mem_of_getElem? hx
   have hid:l.idxOf x=i:=by
    have h1:l=l.take i++l.drop i:=(List.take_append_drop i l).symm
    have h2:l.drop i=x::l.drop (i+1):=by
     obtain⟨h3,h4⟩:=List.getElem?_eq_some_iff.1 hx
     rw[<- h4];exact List.drop_eq_getElem_cons h3
    rw[h1,List.idxOf_append,if_neg hz,h2]
    simp;omega
   unfold inJ
   rw[if_pos hm,hid]
   repeat' first|refine Kn rfl ?_|(refine Kw ?_;simp only[e1,e2,go_sem])|refine Kf ?_|refine⟨_,⟨Kq _,(Xab hx),rfl⟩,Kg ?_⟩|apply Kp<;>intro _
  ·have e2:(x==n)=false:=by simp[hxn]
   repeat' first|refine Kn rfl ?_|(refine Kw ?_;simp only[e1,e2,go_sem])|refine Kf ?_|refine⟨_,⟨Kq _,(Xab hx),rfl⟩,Kg ?_⟩|apply Kp<;>intro _
   refine⟨Xai hil (by unfold lenMax;omega),?_⟩
   refine Kt (fr 19 [(0,.one (.d (.sl (Xad l)))),(1,vi n),(5,vi (i+1))]) ?_
   refine Kl ⟨l.length - (i+1),by omega,i+1,by omega,rfl,?_,rfl⟩
   rw[List.take_succ,hx]
   simp only[List.mem_append,not_or]
   exact⟨hz,by simp;exact fun e=>hxn e.symm⟩
 ·have e1:decide ((i:Int) < (l.length:Int))=false:=decide_eq_false (by omega)
  rw[List.take_of_length_le (by omega)] at hz
  unfold inJ
  rw[if_neg hz]
  repeat' first|refine Kn rfl ?_|(refine Kw ?_;simp only[e1,go_sem])|refine Kf ?_|apply Kp<;>intro _
noncomputable abbrev kW (g:Gr) (t o:List Int):List Int:=Xrk (kd g) t o
theorem Jd8 {g:Gr} (hg:Good g):∀ (f:Nat) (i:Int) (o:List Int),g.l.length - o.length<=f->o.Nodup->(∀ x∈o,0<=x/\x < g.l.length)->0<=i/\i < g.l.length ->
  Tri QP gp 154 [g.v,vi i,.one (.own 0 o.length)] [.row 1 o.length (Xad o)] fun r post=>r=.one (.own 0 (kW g [i] o).length)/\post=[.row 1 (kW g [i] o).length (Xad (kW g [i] o))]:=by
 have hgl:=hg.len
 intro f
 induction f with
 | zero =>
  intro i o hf hn ho hi
  have hol:=Xb9 hn ho
  by_cases hm:i∈o
  ·have hw:kW g [i] o=o:=(Walks.skip hm (.nil o)).eq
   have c1:=in8 (gp:=gp) o i (by omega)
   have e1:decide (inJ o i >= 0)=true:=decide_eq_true (by unfold inJ;rw[if_pos hm];omega)
   rw[hw]
   refine Xj8 ?_
   simp only[go_sem]
   repeat' first|refine Kn rfl ?_|(refine Kw ?_;simp only[e1,go_sem])|refine Kf ?_|refine Or.inl ⟨_,⟨c1,rfl⟩,Kg ?_⟩|apply Kp<;>intro _
  ·exfalso
   have:=Xb9 (l:=o++[i]) (n:=g.l.length) (by rw[List.nodup_append];exact⟨hn,by simp,fun a ha b hb e=>by simp at hb;subst hb;subst e;exact hm ha⟩) (fun x hx=>by
    rcases List.mem_append.1 hx with h|h
    ·exact ho x h
    ·simp at h;subst h;exact hi)
   simp at this
   omega
 | succ f ih =>
  intro i o hf hn ho hi
  have hol:=Xb9 hn ho
  by_cases hm:i∈o
  ·have hw:kW g [i] o=o:=(Walks.skip hm (.nil o)).eq
   have c1:=in8 (gp:=gp) o i (by omega)
   have e1:decide (inJ o i >= 0)=true:=decide_eq_true (by unfold inJ;rw[if_pos hm];omega)
   rw[hw]
   refine Xj8 ?_
   simp only[go_sem]
   repeat' first|refine Kn rfl ?_|(refine Kw ?_;simp only[e1,go_sem])|refine Kf ?_|refine Or.inl ⟨_,⟨c1,rfl⟩,Kg ?_⟩|apply Kp<;>intro _
  ·have c1:=in8 (gp:=gp) o i (by omega)
   have e1:decide (inJ o i >= 0)=false:=decide_eq_false (by unfold inJ;rw[if_neg hm];omega)
   have c2:=Wwi (gp:=gp) g i hg.s
   have hk2:Xan (Xbr g.l i)=kd g i:=rfl
   rw[hk2] at c2
   have hkin:=hg.kid i
   have hkl:=X0q hg.s i
   have hn':(o++[i]).Nodup:=by rw[List.nodup_append];exact⟨hn,by simp,fun a ha b hb e=>by simp at hb;subst hb;subst e;exact hm ha⟩
   have ho':∀ x∈o++[i],0<=x/\x < (g.l.length:Int):=fun x hx=>by
    rcases List.mem_append.1 hx with h|h
    ·exact ho x h
    ·simp at h;subst h;exact hi
   have ex:=fun (t:List Int) (ht:∀ j∈t,0<=j/\j < (g.l.length:Int))=>hg.ex hn' ho' ht
   have hfin:kW g [i] o=kW g (kd g i) (o++[i]):=by
    have h1:=ex (kd g i) hkin
    exact (Walks.step hm (by rw[List.append_nil];exact h1)).eq
   rw[hfin]
   generalize kd g i=kk at *
   have hlen':(o++[i]).length=o.length+1:=by simp
   refine Xj8 ?_
   simp only[go_sem]
   repeat' first|refine Kn rfl ?_|(refine Kw ?_;simp only[e1,go_sem])|refine Kf ?_|refine Or.inl ⟨_,⟨c1,rfl⟩,Kg ?_⟩|apply Kp<;>intro _
   repeat (refine Kp (by first|(simp;done)|omega|(unfold lenMax;omega)|(simp;omega)) ?_)
   rw[show Xad o++[[D.int .i64 i]]=Xad (o++[i]) from by simp,<- hlen']
   repeat' first|refine Kn rfl ?_|(refine Kw ?_;simp only[go_sem])|refine Kf ?_|refine⟨_,c2,Kg ?_⟩|refine⟨_,⟨c2,rfl⟩,Kg ?_⟩|apply Kp<;>intro _
   have h0w:kW g [] (o++[i])=o++[i]:=(Walks.nil (o++[i])).eq
   rw[show Ch.row 1 (o++[i]).length (Xad (o++[i]))=Ch.row 1 (kW g (kk.take 0) (o++[i])).length (Xad (kW g (kk.take 0) (o++[i]))) from by rw[List.take_zero,h0w],
    show A.own 0 (o++[i]).length=A.own 0 (kW g (kk.take 0) (o++[i])).length from by rw[List.take_zero,h0w]]
   refine Kt (fr 39 [(1,vi i),(2,.one (.own 0 (kW g (kk.take (0:Nat)) (o++[i])).length)),(3,.one (.d (.bx [.int .i64 g.root,.sl (nds g.l)]))),(7,.one (.d (.sl (Xad kk)))),(9,vi (0:Nat))]) ?_
   refine Km (fun mz sz=>∃ j:Nat,j<=kk.length/\mz=kk.length - j/\(0<=j)/\sz=⟨fr 39 [(1,vi i),(2,.one (.own 0 (kW g (kk.take j) (o++[i])).length)),(3,.one (.d (.bx [.int .i64 g.root,.sl (nds g.l)]))),(7,.one (.d (.sl (Xad kk)))),(9,vi j)],[.row 1 (kW g (kk.take j) (o++[i])).length (Xad (kW g (kk.take j) (o++[i])))]⟩) (kk.length) ⟨0,Nat.zero_le _,(Nat.sub_zero _).symm,?_,rfl⟩ ?_
   ·exact Nat.zero_le _
   rintro _ _ ⟨j,hj,rfl,-,rfl⟩
   simp only[go_sem]
   by_cases hjl:j < kk.length
   ·obtain⟨c,hc⟩:=Xaf hjl
    have hcr:=hkin c (List.mem_of_getElem? hc)
    have w1:=ex (kk.take j) fun x hx=>hkin x (List.mem_of_mem_take hx)
    have w2:=ex (kk.take (j+1)) fun x hx=>hkin x (List.mem_of_mem_take hx)
    have hwn:=w1.nodup hn'
    have hwr:=w1.all (P:=fun x=>0<=x/\x < (g.l.length:Int)) (fun x hx=>hkin x (List.mem_of_mem_take hx)) ho' fun i _=>hg.kid i
    have w3:=hg.ex (t:=[c]) hwn hwr (by simpa using hcr)
    have hstep:kW g [c] (kW g (kk.take j) (o++[i]))=kW g (kk.take (j+1)) (o++[i]):=by
     have:=(w1.app w3).eq
     have ht:kk.take (j+1)=kk.take j++[c]:=by rw[List.take_succ,hc];rfl
     rw[ht]
     exact this.symm
    obtain⟨r,hr⟩:=w1.pre
    have hcall:=ih c (kW g (kk.take j) (o++[i])) (by
     have:(kW g (kk.take j) (o++[i])).length=(o++[i]).length+r.length:=by
      show (Xrk (kd g) (kk.take j) (o++[i])).length=_
      rw[hr,List.length_append]
     omega) hwn hwr hcr
    rw[hstep] at hcall
    have e2:decide ((j:Int) < (kk.length:Int))=true:=decide_eq_true (by omega)
    repeat' first|refine Kn rfl ?_|(refine Kw ?_;simp only[e2,go_sem])|refine Kf ?_|refine⟨_,⟨Kq _,(Xab hc),rfl⟩,Kg ?_⟩|(apply Kp<;>intro _<;>try (exfalso;omega))
    refine Or.inr (Or.inr ⟨[0],.one (.own 0 (kW g (kk.take (j+1)) (o++[i])).length),[.row 1 (kW g (kk.take (j+1)) (o++[i])).length (Xad (kW g (kk.take (j+1)) (o++[i])))],(by simp only[Xay,Xcl,rnV,rnA,Xcx,rn0,Xcw,Xbo,Xcm,rnC,Xak,List.isEmpty_nil,reduceCtorEq,↓reduceIte,Qa,Qb,Qc,Qd,Qe,Qf,Qg,Qh,Qi,Qj,Qk,Ql,Qm,Qn,Qo,Qp,Qq,Qr];simp only[go_sem];exact⟨Xtm,hcall⟩),Kg ?_⟩)
    simp only[go_sem]
    repeat' first|refine Kn rfl ?_|(refine Kw ?_;simp only[go_sem])|refine Kf ?_|(apply Kp<;>intro _<;>try (exfalso;omega))
    refine⟨Xai hjl (by unfold lenMax;omega),?_⟩
    refine Kt (fr 39 [(1,vi i),(2,.one (.own 0 (kW g (kk.take (j+1)) (o++[i])).length)),(3,.one (.d (.bx [.int .i64 g.root,.sl (nds g.l)]))),(7,.one (.d (.sl (Xad kk)))),(9,vi (j+1))]) ?_
    refine Ku 1 ?_
    simp only[go_sem]
    refine Kl ⟨kk.length - (j+1),by omega,j+1,by omega,rfl,?_,rfl⟩
    exact Nat.zero_le _
   ·obtain rfl:kk.length=j:=by omega
    have e2:decide ((kk.length:Int) < (kk.length:Int))=false:=decide_eq_false (by omega)
    rw[List.take_of_length_le (Nat.le_refl kk.length)]
    repeat' first|refine Kn rfl ?_|(refine Kw ?_;simp only[e2,go_sem])|refine Kf ?_|(apply Kp<;>intro _<;>try (exfalso;omega))
    all_goals trace_state
theorem Wwq {g:Gr} (hg:Good g) (i:Int) (hi:0<=i/\i < g.l.length) (o:List Int) (ho0:o=[]):Tri QP gp 154 [g.v,vi i,.one .nil] [] fun r post=>r=.one (.own 0 (kW g [i] o).length)/\post=[.row 1 (kW g [i] o).length (Xad (kW g [i] o))]:=by
 have hgl:=hg.len
 have hn:o.Nodup:=by rw[ho0];simp
 have ho:∀ x∈o,0<=x/\x < (g.l.length:Int):=by rw[ho0];simp
 have hol:o.length<=g.l.length:=by rw[ho0];simp
 have hm:i ∉ o:=by rw[ho0];simp
 have c1:=in8 (gp:=gp) o i (by omega)
 have e1:decide (inJ o i >= 0)=false:=decide_eq_false (by unfold inJ;rw[if_neg hm];omega)
 have c2:=Wwi (gp:=gp) g i hg.s
 have hk2:Xan (Xbr g.l i)=kd g i:=rfl
 rw[hk2] at c2
 have hkin:=hg.kid i
 have hkl:=X0q hg.s i
 have hn':(o++[i]).Nodup:=by rw[List.nodup_append];exact⟨hn,by simp,fun a ha b hb e=>by simp at hb;subst hb;subst e;exact hm ha⟩
 have ho':∀ x∈o++[i],0<=x/\x < (g.l.length:Int):=fun x hx=>by
  rcases List.mem_append.1 hx with h|h
  ·exact ho x h
  ·simp at h;subst h;exact hi
 have ex:=fun (t:List Int) (ht:∀ j∈t,0<=j/\j < (g.l.length:Int))=>hg.ex hn' ho' ht
 have hfin:kW g [i] o=kW g (kd g i) (o++[i]):=by
  have h1:=ex (kd g i) hkin
  exact (Walks.step hm (by rw[List.append_nil];exact h1)).eq
 rw[hfin]
 generalize kd g i=kk at *
 have hlen':(o++[i]).length=o.length+1:=by simp
 refine Xj8 ?_
 simp only[go_sem]
 refine Xeh 2 1 (by decide) rfl ?_
 simp only[go_sem]
 rw[show Ch.row 1 0 []=Ch.row 1 o.length (Xad o) from by rw[ho0];rfl,show A.own 0 0=A.own 0 o.length from by rw[ho0];rfl]
 repeat' first|refine Kn rfl ?_|(refine Kw ?_;simp only[e1,go_sem])|refine Kf ?_|refine Or.inl ⟨_,⟨c1,rfl⟩,Kg ?_⟩|apply Kp<;>intro _
 repeat (refine Kp (by first|(simp;done)|omega|(unfold lenMax;omega)|(simp;omega)) ?_)
 rw[show Xad o++[[D.int .i64 i]]=Xad (o++[i]) from by simp,<- hlen']
 repeat' first|refine Kn rfl ?_|(refine Kw ?_;simp only[go_sem])|refine Kf ?_|refine⟨_,c2,Kg ?_⟩|refine⟨_,⟨c2,rfl⟩,Kg ?_⟩|apply Kp<;>intro _
 have h0w:kW g [] (o++[i])=o++[i]:=(Walks.nil (o++[i])).eq
 rw[show Ch.row 1 (o++[i]).length (Xad (o++[i]))=Ch.row 1 (kW g (kk.take 0) (o++[i])).length (Xad (kW g (kk.take 0) (o++[i]))) from by rw[List.take_zero,h0w],
  show A.own 0 (o++[i]).length=A.own 0 (kW g (kk.take 0) (o++[i])).length from by rw[List.take_zero,h0w]]
 refine Kt (fr 39 [(1,vi i),(2,.one (.own 0 (kW g (kk.take (0:Nat)) (o++[i])).length)),(3,.one (.d (.bx [.int .i64 g.root,.sl (nds g.l)]))),(7,.one (.d (.sl (Xad kk)))),(9,vi (0:Nat))]) ?_
 refine Km (fun mz sz=>∃ j:Nat,j<=kk.length/\mz=kk.length - j/\(0<=j)/\sz=⟨fr 39 [(1,vi i),(2,.one (.own 0 (kW g (kk.take j) (o++[i])).length)),(3,.one (.d (.bx [.int .i64 g.root,.sl (nds g.l)]))),(7,.one (.d (.sl (Xad kk)))),(9,vi j)],[.row 1 (kW g (kk.take j) (o++[i])).length (Xad (kW g (kk.take j) (o++[i])))]⟩) (kk.length) ⟨0,Nat.zero_le _,(Nat.sub_zero _).symm,?_,rfl⟩ ?_
 ·exact Nat.zero_le _
 rintro _ _ ⟨j,hj,rfl,-,rfl⟩
 simp only[go_sem]
 by_cases hjl:j < kk.length
 ·obtain⟨c,hc⟩:=Xaf hjl
  have hcr:=hkin c (List.mem_of_getElem? hc)
  have w1:=ex (kk.take j) fun x hx=>hkin x (List.mem_of_mem_take hx)
  have w2:=ex (kk.take (j+1)) fun x hx=>hkin x (List.mem_of_mem_take hx)
  have hwn:=w1.nodup hn'
  have hwr:=w1.all (P:=fun x=>0<=x/\x < (g.l.length:Int)) (fun x hx=>hkin x (List.mem_of_mem_take hx)) ho' fun i _=>hg.kid i
  have w3:=hg.ex (t:=[c]) hwn hwr (by simpa using hcr)
  have hstep:kW g [c] (kW g (kk.take j) (o++[i]))=kW g (kk.take (j+1)) (o++[i]):=by
   have:=(w1.app w3).eq
   have ht:kk.take (j+1)=kk.take j++[c]:=by rw[List.take_succ,hc];rfl
   rw[ht]
   exact this.symm
  obtain⟨r,hr⟩:=w1.pre
  have hcall:=Jd8 (gp:=gp) hg 1000 c (kW g (kk.take j) (o++[i])) (by
   have:(kW g (kk.take j) (o++[i])).length=(o++[i]).length+r.length:=by
    show (Xrk (kd g) (kk.take j) (o++[i])).length=_
    rw[hr,List.length_append]
   omega) hwn hwr hcr
  rw[hstep] at hcall
  have e2:decide ((j:Int) < (kk.length:Int))=true:=decide_eq_true (by omega)
  repeat' first|refine Kn rfl ?_|(refine Kw ?_;simp only[e2,go_sem])|refine Kf ?_|refine⟨_,⟨Kq _,(Xab hc),rfl⟩,Kg ?_⟩|(apply Kp<;>intro _<;>try (exfalso;omega))
  refine Or.inr (Or.inr ⟨[0],.one (.own 0 (kW g (kk.take (j+1)) (o++[i])).length),[.row 1 (kW g (kk.take (j+1)) (o++[i])).length (Xad (kW g (kk.take (j+1)) (o++[i])))],(by simp only[Xay,Xcl,rnV,rnA,Xcx,rn0,Xcw,Xbo,Xcm,rnC,Xak,List.isEmpty_nil,reduceCtorEq,↓reduceIte,Qa,Qb,Qc,Qd,Qe,Qf,Qg,Qh,Qi,Qj,Qk,Ql,Qm,Qn,Qo,Qp,Qq,Qr];simp only[go_sem];exact⟨Xtm,hcall⟩),Kg ?_⟩)
  simp only[go_sem]
  repeat' first|refine Kn rfl ?_|(refine Kw ?_;simp only[go_sem])|refine Kf ?_|(apply Kp<;>intro _<;>try (exfalso;omega))
  refine⟨Xai hjl (by unfold lenMax;omega),?_⟩
  refine Kt (fr 39 [(1,vi i),(2,.one (.own 0 (kW g (kk.take (j+1)) (o++[i])).length)),(3,.one (.d (.bx [.int .i64 g.root,.sl (nds g.l)]))),(7,.one (.d (.sl (Xad kk)))),(9,vi (j+1))]) ?_
  refine Ku 1 ?_
  simp only[go_sem]
  refine Kl ⟨kk.length - (j+1),by omega,j+1,by omega,rfl,?_,rfl⟩
  exact Nat.zero_le _
 ·obtain rfl:kk.length=j:=by omega
  have e2:decide ((kk.length:Int) < (kk.length:Int))=false:=decide_eq_false (by omega)
  rw[List.take_of_length_le (Nat.le_refl kk.length)]
  repeat' first|refine Kn rfl ?_|(refine Kw ?_;simp only[e2,go_sem])|refine Kf ?_|(apply Kp<;>intro _<;>try (exfalso;omega))
  all_goals trace_state
theorem Jil (g:Gr) (hs:Xc9 g) (hst:∀ x∈g.l,x.short):Does QP gp 126 [g.v] (.tup [.one (.d (.sl (Xad (wOf g)))),vi (Xtp g)]):=by
 refine Ws7 ?_
 simp only[go_sem]
 have c1:Does QP gp 153 [g.v] (.tup [vi ((chk g).getD (0,0)).1,vi (Xtp g)]):=W94 g hst
 by_cases hc:chk g=none
 ·have hg:Good g:=⟨hc,hs⟩
  rw[Xi0 hc,X0u hg] at *
  have c2:=Wwq (gp:=gp) hg g.root hg.root [] rfl
  rw[show kW g [g.root] []=Xbe g from rfl] at c2
  repeat' first|refine Kn rfl ?_|(refine Kw ?_;simp only[go_sem])|refine Kf ?_|refine⟨_,c1,Kg ?_⟩|refine⟨_,⟨c1,rfl⟩,Kg ?_⟩|apply Kp<;>intro _
  refine Xha 17 ?_
  simp only[go_sem]
  repeat' first|refine Kn rfl ?_|(refine Kw ?_;simp only[Xpa,go_sem])|refine Kf ?_|apply Kp<;>intro _
  refine Or.inr ⟨[],.one (.own 0 (Xbe g).length),[.row 1 (Xbe g).length (Xad (Xbe g))],(by simp only[Xay,Xcl,rnV,rnA,Xcx,rn0,Xcw,Xbo,Xcm,rnC,Xak,List.isEmpty_nil,reduceCtorEq,↓reduceIte,Qa,Qb,Qc,Qd,Qe,Qf,Qg,Qh,Qi,Qj,Qk,Ql,Qm,Qn,Qo,Qp,Qq,Qr];simp only[go_sem];exact⟨Xtm,c2⟩),Kg ?_⟩
  simp only[go_sem]
  refine Xap 0 ?_
  simp only[go_sem]
  repeat' first|refine Kn rfl ?_|(refine Kw ?_;simp only[Xpa,go_sem])|refine Kf ?_|apply Kp<;>intro _
  all_goals trace_state
 ·have he:=Xgy hc
  have hw:wOf g=[]:=by unfold wOf;rw[if_neg hc]
  rw[hw]
  generalize Xtp g=e at *
  have e1:(e != 0)=true:=by simpa using he
  repeat' first|refine Kn rfl ?_|(refine Kw ?_;simp only[Xpa,e1,go_sem])|refine Kf ?_|refine⟨_,c1,Kg ?_⟩|refine⟨_,⟨c1,rfl⟩,Kg ?_⟩|apply Kp<;>intro _
  all_goals trace_state
theorem Jd9 {l:List Int} {i:Int} (h:i∈l):inJ l i=(l.idxOf i:Int):=by unfold inJ;rw[if_pos h]
set_option maxHeartbeats 4000000 in
theorem Jim (g:Gr) (hs:Xc9 g) (hst:∀ x∈g.l,x.short):Does QP gp 87 [g.v] (.tup [(tOf g).v,vi (Xtp g)]):=by
 refine Jbd ?_
 simp only[go_sem]
 have c1:=Jil (gp:=gp) g hs hst
 by_cases hc:chk g=none
 ·have he:=Xi0 hc
  have ht:tOf g=Xa0 g:=by unfold tOf;rw[if_pos hc]
  have hg:Good g:=⟨hc,hs⟩
  rw[he,X0u hg] at c1
  rw[he,ht]
  have hwn:=hg.wlen
  have hgl:=hg.len
  have hwi:=hg.wIn
  have hcl:=hg.wclosed
  have hT:Xa0 g=⟨0,(Xbe g).map fun i=>Xbc (Xbe g) (Xbr g.l i)⟩:=rfl
  rw[hT]
  generalize Xbe g=W at *
  repeat' first|refine Kn rfl ?_|(refine Kw ?_;simp only[Xgg,go_sem])|refine Kf ?_|refine⟨_,c1,Kg ?_⟩|refine⟨_,⟨c1,rfl⟩,Kg ?_⟩|apply Kp<;>intro _
  refine Xeq 1 1 6 (by decide) rfl rfl ?_
  simp only[go_sem]
  refine Kt (fr 85 [(1,.one (.d (.bx [.int .i64 g.root,.sl (nds g.l)]))),(2,.one (.ptr 0 0)),(4,.one (.d (.sl (Xad W)))),(6,.one (.ptr 1 0)),(7,vi (0:Nat))]) ?_
  refine Km (fun mz sz=>∃ i:Nat,i<=W.length/\mz=W.length - i/\(0<=i)/\sz=⟨fr 85 [(1,.one (.d (.bx [.int .i64 g.root,.sl (nds g.l)]))),(2,.one (.ptr 0 0)),(4,.one (.d (.sl (Xad W)))),(6,.one (.ptr 1 0)),(7,vi i)],[.cells [.d (.int .i64 0),.nil],.cells [.d (.int .i64 0),.own 2 i],.row 6 i (nds ((W.map fun i=>Xbc W (Xbr g.l i)).take i))]⟩) (W.length) ⟨0,Nat.zero_le _,(Nat.sub_zero _).symm,?_,rfl⟩ ?_
  ·exact Nat.zero_le _
  rintro _ _ ⟨i,hi,rfl,-,rfl⟩
  simp only[go_sem]
  by_cases hil:i < W.length
  ·obtain⟨n0,hj⟩:=Xaf hil
   have hjm:=List.mem_of_getElem? hj
   have hjr:=hwi n0 hjm
   obtain⟨n,rfl⟩:=Int.eq_ofNat_of_zero_le hjr.1
   obtain⟨x,hx⟩:=Xaf (l:=g.l) (i:=n) (by omega)
   have hnd:Xbr g.l n=x:=by unfold Xbr;rw[if_pos hjr,Int.toNat_natCast,hx];rfl
   have hTj:(W.map fun i=>Xbc W (Xbr g.l i))[i]?=some (Xbc W x):=by rw[List.getElem?_map,hj,<- hnd];rfl
   have k1:=Jhs (gp:=gp) g n hs
   have k2:=Wwi (gp:=gp) g n hs
   rw[hnd] at k1 k2
   have hkl:=Xgx x 12 (hs x (List.mem_of_getElem? hx))
   have hkw:∀ i∈Xan x,i∈W:=by
    have:=hcl n hjm
    rw[kd,hnd] at this
    exact this
   have e0:decide ((i:Int) < (W.length:Int))=true:=decide_eq_true (by omega)
   have hfl:Xbc W x=⟨x.k,x.x,Xaq x,(Xan x).map fun i=>(W.idxOf i:Int)⟩:=rfl
   rw[hfl] at hTj
   generalize hkk:Xan x=kk at *
   generalize Xaq x=yy at *
   repeat' first|refine Kn rfl ?_|(refine Kw ?_;simp only[Xgg,e0,go_sem])|refine Kf ?_|refine⟨_,k1,Kg ?_⟩|refine⟨_,⟨k1,rfl⟩,Kg ?_⟩|refine⟨_,k2,Kg ?_⟩|refine⟨_,⟨k2,rfl⟩,Kg ?_⟩|refine⟨_,⟨Kq _,(Xab hj),rfl⟩,Kg ?_⟩|refine⟨_,⟨Kq _,(Xab hx),rfl⟩,Kg ?_⟩|(apply Kp<;>intro _<;>try (exfalso;omega))
   refine Xeq 4 5 1 (by decide) rfl rfl ?_
   simp only[go_sem]
   refine Kt (fr 85 [(1,.one (.d (.bx [.int .i64 g.root,.sl (nds g.l)]))),(2,.one (.ptr 0 0)),(4,.one (.d (.sl (Xad W)))),(6,.one (.ptr 1 0)),(7,vi i),(9,.one (.ptr 4 0)),(10,.one (.d (.sl (Xad kk)))),(12,vi (0:Nat))]) ?_
   refine Km (fun mz sz=>∃ j:Nat,j<=kk.length/\mz=kk.length - j/\(0<=j)/\sz=⟨fr 85 [(1,.one (.d (.bx [.int .i64 g.root,.sl (nds g.l)]))),(2,.one (.ptr 0 0)),(4,.one (.d (.sl (Xad W)))),(6,.one (.ptr 1 0)),(7,vi i),(9,.one (.ptr 4 0)),(10,.one (.d (.sl (Xad kk)))),(12,vi j)],[.cells [.d (.int .i64 0),.nil],.cells [.d (.int .i64 0),.own 2 i],.row 6 i (nds ((W.map fun i=>Xbc W (Xbr g.l i)).take i)),.cells x.as,.cells [.d (.int .i64 x.k),.d (.int .i64 x.x.k),.d (.int .i64 x.x.n),.d (.str x.x.s),.d (.sl (scs yy)),.own 5 j],.row 1 j (Xad ((kk.map fun i=>(W.idxOf i:Int)).take j))]⟩) (kk.length) ⟨0,Nat.zero_le _,(Nat.sub_zero _).symm,?_,rfl⟩ ?_
   ·exact Nat.zero_le _
   rintro _ _ ⟨j,hj2,rfl,-,rfl⟩
   simp only[go_sem]
   by_cases hjl:j < kk.length
   ·obtain⟨c,hc2⟩:=Xaf hjl
    have c2:=in8 (gp:=gp) W c (by omega)
    rw[Jd9 (hkw c (List.mem_of_getElem? hc2))] at c2
    have hmj:(kk.map fun i=>(W.idxOf i:Int))[j]?=some (W.idxOf c:Int):=by rw[List.getElem?_map,hc2];rfl
    have e1:decide ((j:Int) < (kk.length:Int))=true:=decide_eq_true (by omega)
    repeat' first|refine Kn rfl ?_|(refine Kw ?_;simp only[Xgg,e1,go_sem])|refine Kf ?_|refine⟨_,c2,Kg ?_⟩|refine⟨_,⟨c2,rfl⟩,Kg ?_⟩|refine⟨_,⟨Kq _,(Xab hc2),rfl⟩,Kg ?_⟩|(apply Kp<;>intro _<;>try (exfalso;omega))
    repeat (refine Kp (by first|(simp;done)|omega|(unfold lenMax;omega)|(simp;omega)|(simp[lenMax];omega)) ?_)
    rw[show Xad ((kk.map fun i=>(W.idxOf i:Int)).take j)++[_]=Xad ((kk.map fun i=>(W.idxOf i:Int)).take (j+1)) from Xgb hmj]
    repeat' first|refine Kn rfl ?_|(refine Kw ?_;simp only[Xgg,go_sem])|refine Kf ?_|(apply Kp<;>intro _<;>try (exfalso;omega))
    refine⟨Xai hjl (by unfold lenMax;omega),?_⟩
    refine Kt (fr 85 [(1,.one (.d (.bx [.int .i64 g.root,.sl (nds g.l)]))),(2,.one (.ptr 0 0)),(4,.one (.d (.sl (Xad W)))),(6,.one (.ptr 1 0)),(7,vi i),(9,.one (.ptr 4 0)),(10,.one (.d (.sl (Xad kk)))),(12,vi (j+1))]) ?_
    refine Kl ⟨kk.length - (j+1),by omega,j+1,by omega,rfl,?_,rfl⟩
    exact Nat.zero_le _
   ·obtain rfl:kk.length=j:=by omega
    have e1:decide ((kk.length:Int) < (kk.length:Int))=false:=decide_eq_false (by omega)
    rw[show (kk.map fun i=>(W.idxOf i:Int)).take kk.length=kk.map fun i=>(W.idxOf i:Int) from List.take_of_length_le (by simp)]
    have htl:((W.map fun i=>Xbc W (Xbr g.l i)).take i).length=i:=by simp;omega
    have h88:(((W.map fun i=>Xbc W (Xbr g.l i)).take i).length+1)*88<=140737488355328:=by rw[htl];omega
    have hlm:((W.map fun i=>Xbc W (Xbr g.l i)).take i).length+1 < lenMax:=by rw[htl];unfold lenMax;omega
    repeat' first|refine Kn rfl ?_|(refine Kw ?_;simp only[e1,go_sem])|refine Kf ?_|(apply Kp<;>intro _<;>try (exfalso;omega))
    refine Xap 5 ?_
    simp only[go_sem]
    repeat' first|refine Kn rfl ?_|(refine Kw ?_;simp only[Xgg,go_sem])|refine Kf ?_|refine⟨by simp,h88,hlm,?_⟩|(apply Kp<;>intro _<;>try (exfalso;omega))
    rw[show nds ((W.map fun i=>Xbc W (Xbr g.l i)).take i)++[[D.int .i64 x.k,.int .i64 x.x.k,.int .i64 x.x.n,.str x.x.s,.sl (scs yy),.sl (Xad (kk.map fun i=>(W.idxOf i:Int)))]]=nds ((W.map fun i=>Xbc W (Xbr g.l i)).take (i+1)) from Xo1 hTj]
    refine⟨Xai hil (by unfold lenMax;omega),?_⟩
    refine Kt (fr 85 [(1,.one (.d (.bx [.int .i64 g.root,.sl (nds g.l)]))),(2,.one (.ptr 0 0)),(4,.one (.d (.sl (Xad W)))),(6,.one (.ptr 1 0)),(7,vi (i+1))]) ?_
    refine Ku 3 ?_
    simp only[go_sem]
    refine Kl ⟨W.length - (i+1),by omega,i+1,by omega,rfl,?_,rfl⟩
    exact Nat.zero_le _
  ·obtain rfl:W.length=i:=by omega
   have e0:decide ((W.length:Int) < (W.length:Int))=false:=decide_eq_false (by omega)
   rw[List.take_of_length_le (by simp)]
   refine Xap 2 ?_
   simp only[go_sem]
   repeat' first|refine Kn rfl ?_|(refine Kw ?_;simp only[Xgg,e0,go_sem])|refine Kf ?_|(apply Kp<;>intro _<;>try (exfalso;omega))
   all_goals trace_state
 ·have he:=Xgy hc
  have ht:tOf g=⟨0,[]⟩:=by unfold tOf;rw[if_neg hc]
  have hw:wOf g=[]:=by unfold wOf;rw[if_neg hc]
  rw[hw] at c1
  rw[ht]
  generalize Xtp g=e at *
  have e1:(e != 0)=true:=by simpa using he
  repeat' first|refine Kn rfl ?_|(refine Kw ?_;simp only[Xgg,e1,go_sem])|refine Kf ?_|refine⟨_,c1,Kg ?_⟩|refine⟨_,⟨c1,rfl⟩,Kg ?_⟩|apply Kp<;>intro _
  all_goals first|rfl|(exfalso;simp_all;done)|exact⟨rfl,rfl⟩|trace_state
theorem Xt5 (g:Gr) (hs:Xc9 g) (hst:∀ x∈g.l,x.short) (hl:g.l.length<=1000):Does QP gp 59 [g.v] (vb (decide (chk g=none/\g=Xa0 g))):=by
 refine Ja3 ?_
 simp only[go_sem]
 have c1:=Jim (gp:=gp) g hs hst
 by_cases hc:chk g=none
 ·rw[Xi0 hc,Xpd ⟨hc,hs⟩] at c1
  repeat' first|refine Kn rfl ?_|(refine Kw ?_;simp only[go_sem])|refine Kf ?_|refine⟨_,c1,Kg ?_⟩|refine⟨_,⟨c1,rfl⟩,Kg ?_⟩|refine⟨_,Ywb g (Xa0 g) hl,Kg ?_⟩|refine⟨_,⟨Ywb g (Xa0 g) hl,rfl⟩,Kg ?_⟩|apply Kp<;>intro _
  all_goals simp[hc]
 ·have he:=Xgy hc
  generalize Xtp g=e at *
  repeat' first|refine Kn rfl ?_|(refine Kw ?_;simp only[go_sem])|refine Kf ?_|refine⟨_,c1,Kg ?_⟩|refine⟨_,⟨c1,rfl⟩,Kg ?_⟩|refine⟨_,Ywb g (tOf g) hl,Kg ?_⟩|refine⟨_,⟨Ywb g (tOf g) hl,rfl⟩,Kg ?_⟩|apply Kp<;>intro _
  all_goals simp_all
theorem Xmi {g:Gr} {m:Nat} {x d:Int} {a:List Int} (hx:a[m]?=some x) (h0:0 < x) :
  Tri QP gp 60 [g.v,vi m,vi d,.one (.own 0 0)] [.row 1 0 (Xad a)] fun r post =>
   r=.one (.own 0 0)/\post=[.row 1 0 (Xad (Xgi (kd g) d [(m:Int)] a))]:=by
 have hdep:Xgi (kd g) d [(m:Int)] a=a:=(DepW.skip hx h0 (.nil d a)).eq
 rw[hdep]
 have hg1:(Xad a)[m]?=some [.int .i64 x]:=Xab hx
 have hml:m < a.length:=(List.getElem?_eq_some_iff.1 hx).1
 refine Yl4 ?_
 simp only[go_sem]
 repeat' first|refine Kn rfl ?_|(refine Kw ?_;simp only[go_sem])|refine Kf ?_|refine⟨Kq _,hml,?_⟩|refine⟨_,⟨hg1,Nat.le_refl _⟩,Kg ?_⟩|(apply Kp<;>intro _<;>try (exfalso;omega))
 all_goals trace_state
set_option maxHeartbeats 2000000 in
theorem Ynl {g:Gr} (hg:Tdy g):∀ (z:Nat) (d:Int) (i:Int) (a:List Int),X1d a<=z->0 < d->d+z<=1000->a.length=g.l.length->0<=i/\i < g.l.length ->
  Tri QP gp 60 [g.v,vi i,vi d,.one (.own 0 0)] [.row 1 0 (Xad a)] fun r post =>
   r=.one (.own 0 0)/\post=[.row 1 0 (Xad (Xgi (kd g) d [i] a))]:=by
 intro z
 induction z with
 | zero =>
  intro d i a hz hd hdz hl hi
  obtain⟨m,rfl⟩:=Int.eq_ofNat_of_zero_le hi.1
  obtain⟨x,hx⟩:=Xaf (l:=a) (i:=m) (by omega)
  by_cases h0:0 < x
  ·exact Xmi hx h0
  ·have:=Xg1 hx h0 hd
   omega
 | succ z ih =>
  intro d i a hz hd hdz hl hi
  obtain⟨m,rfl⟩:=Int.eq_ofNat_of_zero_le hi.1
  obtain⟨x,hx⟩:=Xaf (l:=a) (i:=m) (by omega)
  by_cases h0:0 < x
  ·exact Xmi hx h0
  ·have hzs:=Xg1 hx h0 hd
   obtain⟨y,hy⟩:=Xaf (l:=g.l) (i:=m) (by omega)
   have hkd:=hg.kd hy
   have hky:=(hg.good.s y (List.mem_of_getElem? hy)).2
   have hkin:∀ j∈y.kids,0<=j/\j < g.l.length:=by rw[<- hkd];exact hg.good.kid m
   have ex:∀ t,(∀ j∈t,0<=j/\j < (g.l.length:Int))->DepW (kd g) (d+1) t (a.set m d) (Xgi (kd g) (d+1) t (a.set m d))/\X1d (Xgi (kd g) (d+1) t (a.set m d))<=z:=fun t ht=>by
    obtain⟨b,hb,hzb⟩:=Xru (k:=kd g) (n:=g.l.length) hg.good.kid _ (d+1) t (a.set m d) (Nat.le_refl _) (by omega) (by simp[hl]) ht
    rw[hb.eq]
    exact⟨hb,by omega⟩
   have hfin:Xgi (kd g) d [(m:Int)] a=Xgi (kd g) (d+1) y.kids (a.set m d):=by
    have h1:=(ex y.kids hkin).1
    rw[<- hkd] at h1 ⊢
    exact (DepW.step hx h0 h1 (.nil d _)).eq
   rw[hfin]
   have hg1:(Xad a)[m]?=some [.int .i64 x]:=Xab hx
   have hml:m < a.length:=by omega
   have hset:(Xad a).set m [.int .i64 d]=Xad (a.set m d):=Xj9 a m d
   have hd1:inK .i64 (d+1):=Xaw (by omega)
   refine Yl4 ?_
   simp only[go_sem]
   repeat' first|refine Kn rfl ?_|(refine Kw ?_;simp only[hset,go_sem])|refine Kf ?_|refine⟨Kq _,hml,?_⟩|refine⟨_,⟨hg1,Nat.le_refl _⟩,Kg ?_⟩|(apply Kp<;>intro _<;>try (exfalso;omega))
   rw[show Ch.row 1 0 (Xad (a.set m d))=Ch.row 1 0 (Xad (Xgi (kd g) (d+1) (y.kids.take 0) (a.set m d))) from by rw[List.take_zero,(DepW.nil (k:=kd g) (d+1) (a.set m d)).eq]]
   refine Kt (fr 46 [(1,vi m),(2,vi d),(3,.one (.own 0 0)),(4,.one (.d (.bx [.int .i64 g.root,.sl (nds g.l)]))),(9,vi (0:Nat))]) ?_
   refine Km (fun mz sz=>∃ i:Nat,i<=y.kids.length/\mz=y.kids.length - i/\(0<=i)/\sz=⟨fr 46 [(1,vi m),(2,vi d),(3,.one (.own 0 0)),(4,.one (.d (.bx [.int .i64 g.root,.sl (nds g.l)]))),(9,vi i)],[.row 1 0 (Xad (Xgi (kd g) (d+1) (y.kids.take i) (a.set m d)))]⟩) (y.kids.length) ⟨0,Nat.zero_le _,(Nat.sub_zero _).symm,?_,rfl⟩ ?_
   ·exact Nat.zero_le _
   rintro _ _ ⟨i,hi2,rfl,-,rfl⟩
   simp only[go_sem]
   by_cases hil:i < y.kids.length
   ·obtain⟨c,hc⟩:=Xaf hil
    have e0:decide ((i:Int) < (y.kids.length:Int))=true:=decide_eq_true (by omega)
    obtain⟨e1,e2⟩:=ex (y.kids.take i) fun j hj=>hkin j (List.mem_of_mem_take hj)
    obtain⟨f1,f2⟩:=ex (y.kids.take (i+1)) fun j hj=>hkin j (List.mem_of_mem_take hj)
    have hstep:Xgi (kd g) (d+1) [c] (Xgi (kd g) (d+1) (y.kids.take i) (a.set m d))=Xgi (kd g) (d+1) (y.kids.take (i+1)) (a.set m d):=by
     obtain⟨b,hb,_⟩:=Xru (k:=kd g) (n:=g.l.length) hg.good.kid _ (d+1) [c] (Xgi (kd g) (d+1) (y.kids.take i) (a.set m d)) (Nat.le_refl _) (by omega) (by rw[e1.len];simp[hl]) (by simpa using hkin c (List.mem_of_getElem? hc))
     have:=e1.app hb
     rw[Xbx hc] at this
     rw[this.eq,hb.eq]
    have hcall:=ih (d+1) c (Xgi (kd g) (d+1) (y.kids.take i) (a.set m d)) e2 (by omega) (by omega) (by rw[e1.len];simp[hl]) (hkin c (List.mem_of_getElem? hc))
    rw[hstep] at hcall
    repeat' first|refine Kn rfl ?_|(refine Kw ?_;simp only[e0,go_sem])|refine Kf ?_|refine⟨_,⟨Kq _,(Xab hy),rfl⟩,Kg ?_⟩|refine⟨_,⟨Kq _,(Xab hc),rfl⟩,Kg ?_⟩|refine⟨hd1,?_⟩|(apply Kp<;>intro _<;>try (exfalso;omega))
    refine Or.inr (Or.inr ⟨[0],.one (.own 0 0),[.row 1 0 (Xad (Xgi (kd g) (d+1) (y.kids.take (i+1)) (a.set m d)))],(by simp only[Xay,Xcl,rnV,rnA,Xcx,rn0,Xcw,Xbo,Xcm,rnC,Xak,List.isEmpty_nil,reduceCtorEq,↓reduceIte,Qa,Qb,Qc,Qd,Qe,Qf,Qg,Qh,Qi,Qj,Qk,Ql,Qm,Qn,Qo,Qp,Qq,Qr];simp only[go_sem];exact⟨Y75,hcall⟩),Kg ?_⟩)
    simp only[go_sem]
    repeat' first|refine Kn rfl ?_|(refine Kw ?_;simp only[go_sem])|refine Kf ?_|(apply Kp<;>intro _<;>try (exfalso;omega))
    refine⟨Xai hil (by unfold lenMax;omega),?_⟩
    refine Kt (fr 46 [(1,vi m),(2,vi d),(3,.one (.own 0 0)),(4,.one (.d (.bx [.int .i64 g.root,.sl (nds g.l)]))),(9,vi (i+1))]) ?_
    refine Ku 1 ?_
    simp only[go_sem]
    refine Kl ⟨y.kids.length - (i+1),by omega,i+1,by omega,rfl,?_,rfl⟩
    exact Nat.zero_le _
   ·obtain rfl:y.kids.length=i:=by omega
    have e0:decide ((y.kids.length:Int) < (y.kids.length:Int))=false:=decide_eq_false (by omega)
    rw[List.take_of_length_le (Nat.le_refl y.kids.length)]
    repeat' first|refine Kn rfl ?_|(refine Kw ?_;simp only[e0,go_sem])|refine Kf ?_|refine⟨_,⟨Kq _,(Xab hy),rfl⟩,Kg ?_⟩|(apply Kp<;>intro _<;>try (exfalso;omega))
    all_goals trace_state
theorem Ynm:∀ n:Nat,X1d (List.replicate n 0)<=n:=fun n=>by
 unfold X1d
 have:=List.countP_le_length (p:=fun x:Int=>decide (¬ 0 < x)) (l:=List.replicate n 0)
 rw[List.length_replicate] at this
 exact this
theorem X28 {g:Gr} (hg:Tdy g) (hst:∀ x∈g.l,x.short) (hl:g.l.length<=900):Does QP gp 29 [g.v] (.tup [.one (.d (.sl (Xad (Xfq g)))),vi 0]):=by
 have c1:=Xt5 (gp:=gp) g hg.good.s hst (by omega)
 rw[show decide (chk g=none/\g=Xa0 g)=true from decide_eq_true ⟨hg.good.c,hg.self⟩] at c1
 have hlb:(g.l.length:Int)*8<=140737488355328:=by omega
 have hlm:(g.l.length:Int) < (lenMax:Int):=by unfold lenMax;omega
 have c2:=Ynl (gp:=gp) hg _ 1 0 (List.replicate g.l.length 0) (Ynm _) (by omega) (by omega) (by simp) ⟨by omega,by have:=hg.pos;omega⟩
 rw[show Xgi (kd g) 1 [0] (List.replicate g.l.length 0)=Xfq g from rfl] at c2
 have hrep:List.replicate g.l.length [D.int .i64 0]=Xad (List.replicate g.l.length 0):=by simp[Xad]
 rw[<- hrep] at c2
 refine Y7k ?_
 simp only[go_sem]
 repeat' first|refine Kn rfl ?_|(refine Kw ?_;simp only[go_sem])|refine Kf ?_|refine⟨_,c1,Kg ?_⟩|refine⟨_,⟨c1,rfl⟩,Kg ?_⟩|refine⟨Kq _,hlb,hlm,?_⟩|apply Kp<;>intro _
 refine Or.inr (Or.inr ⟨[0],.one (.own 0 0),[.row 1 0 (Xad (Xfq g))],(by simp only[Xay,Xcl,rnV,rnA,Xcx,rn0,Xcw,Xbo,Xcm,rnC,Xak,List.isEmpty_nil,reduceCtorEq,↓reduceIte,Qa,Qb,Qc,Qd,Qe,Qf,Qg,Qh,Qi,Qj,Qk,Ql,Qm,Qn,Qo,Qp,Qq,Qr];simp only[go_sem];exact⟨Y75,c2⟩),Kg ?_⟩)
 simp only[go_sem]
 repeat' first|((first|refine Kb ?_|refine Kv ?_);simp only[go_sem])|refine Kf ?_|refine Kg ?_
 refine Ku 1 ?_
 simp only[go_sem]
 refine Xap 0 ?_
 simp only[go_sem]
 repeat' first|refine Kn rfl ?_|(refine Kw ?_;simp only[go_sem])|refine Kf ?_|apply Kp<;>intro _
 all_goals trace_state
theorem Xsh {g:Gr} (hs:Xc9 g) (hn:¬ (chk g=none/\g=Xa0 g)) (hst:∀ x∈g.l,x.short) (hl:g.l.length<=1000):Does QP gp 29 [g.v] (.tup [.one (.d (.sl [])),vi 72]):=by
 have c1:=Xt5 (gp:=gp) g hs hst hl
 rw[show decide (chk g=none/\g=Xa0 g)=false from decide_eq_false hn] at c1
 refine Y7k ?_
 simp only[go_sem]
 repeat' first|refine Kn rfl ?_|(refine Kw ?_;simp only[go_sem])|refine Kf ?_|refine⟨_,c1,Kg ?_⟩|refine⟨_,⟨c1,rfl⟩,Kg ?_⟩|apply Kp<;>intro _
 all_goals trace_state
def flT (l:List Nd) (j:Nat):List Int:=(l.take j).flatMap Nd.kids
theorem Yx9 {l:List Nd} {j:Nat} {x:Nd} (h:l[j]?=some x):flT l (j+1)=flT l j++x.kids:=by
 unfold flT;rw[List.take_succ,h];simp
def cI (i:Nat) (xs:List Int):Int:=(((0::xs).count (i:Int):Nat):Int)
theorem Y8z (i:Nat):cI i []=if (i:Int)=0 then 1 else 0:=by
 unfold cI
 rw[List.count_cons,List.count_nil]
 by_cases h:(i:Int)=0
 ·rw[h];simp
 ·rw[if_neg h]
  have:((0:Int)==(i:Int))=false:=beq_eq_false_iff_ne.2 fun e=>h e.symm
  rw[this];simp
theorem Wwr (i:Nat) (xs:List Int) (c:Int):cI i (xs++[c])=if (c==(i:Int))=true then cI i xs+1 else cI i xs:=by
 unfold cI
 have e:List.count (i:Int) [c]=if (c==(i:Int))=true then 1 else 0:=by rw[List.count_cons,List.count_nil,Nat.zero_add]
 rw[<- List.cons_append,List.count_append,e]
 by_cases h:(c==(i:Int))=true
 ·rw[if_pos h,if_pos h];rfl
 ·rw[if_neg h,if_neg h];rfl
theorem Jin {i:Nat} {xs:List Int} (h:xs.length<=90000):inK .i64 (cI i xs+1):=by
 unfold cI
 exact Ymx (by simp;omega)
theorem Wws {l:List Nd} (h:∀ x∈l,x.kids.length<=12) (j:Nat):(flT l j).length<=12*l.length:=by
 unfold flT
 have h1:=Xi3 (l:=l.take j) fun x hx=>h x (List.mem_of_mem_take hx)
 have:(l.take j).length<=l.length:=by rw[List.length_take];omega
 omega
theorem Wwt {g:Gr} {i:Nat} (hi:i < g.l.length):(Xbi g)[i]?=some (cI i (flT g.l g.l.length)):=by
 unfold Xbi
 rw[Xns _ hi]
 unfold cI flT flat
 rw[List.take_length]
set_option maxHeartbeats 4000000 in
theorem X1t {g:Gr} (hg:Tdy g) (hst:∀ x∈g.l,x.short) (hl:g.l.length<=1000):Does QP gp 31 [g.v] (.tup [.one (.d (.sl (Xad (Xbi g)))),vi 0]):=by
 have c1:=Xt5 (gp:=gp) g hg.good.s hst hl
 rw[show decide (chk g=none/\g=Xa0 g)=true from decide_eq_true ⟨hg.good.c,hg.self⟩] at c1
 have hk12:∀ x∈g.l,x.kids.length<=12:=fun x hx=>(hg.good.s x hx).2
 have hul:(Xbi g).length=g.l.length:=Xdo _ _
 refine Jch ?_
 simp only[go_sem]
 repeat' first|refine Kn rfl ?_|(refine Kw ?_;simp only[go_sem])|refine Kf ?_|refine⟨_,c1,Kg ?_⟩|refine⟨_,⟨c1,rfl⟩,Kg ?_⟩|apply Kp<;>intro _
 refine Kt (fr 57 [(1,.one (.d (.bx [.int .i64 g.root,.sl (nds g.l)]))),(4,.one .nil),(5,vi ((0:Nat):Int))]) ?_
 refine Xeh 4 1 (by decide) rfl ?_
 simp only[go_sem]
 refine Km (fun mz sz=>∃ i:Nat,i<=g.l.length/\mz=g.l.length - i/\sz=⟨fr 57 [(1,.one (.d (.bx [.int .i64 g.root,.sl (nds g.l)]))),(4,.one (.own 0 i)),(5,vi (i:Int))],[.row 1 i (Xad ((Xbi g).take i))]⟩) g.l.length ⟨0,Nat.zero_le _,rfl,rfl⟩ ?_
 rintro _ _ ⟨i,hi,rfl,rfl⟩
 simp only[go_sem]
 by_cases hil:i < g.l.length
 ·have e1:decide ((i:Int) < (g.l.length:Int))=true:=decide_eq_true (by omega)
  have hcase:(((i:Int)==0)=true/\cI i []=1)\/(((i:Int)==0)=false/\cI i []=0):=by
   by_cases h:(i:Int)=0
   ·exact Or.inl ⟨beq_iff_eq.2 h,by rw[Y8z,if_pos h]⟩
   ·exact Or.inr ⟨beq_eq_false_iff_ne.2 h,by rw[Y8z,if_neg h]⟩
  rcases hcase with ⟨hz,ec⟩|⟨hz,ec⟩
  all_goals
   repeat' first|refine Kn rfl ?_|(refine Kw ?_;simp only[e1,hz,go_sem])|refine Kf ?_|apply Kp<;>intro _
   refine Kj (fr 57 [(1,.one (.d (.bx [.int .i64 g.root,.sl (nds g.l)]))),(4,.one (.own 0 i)),(5,vi (i:Int)),(6,vi (cI i [])),(7,vi ((0:Nat):Int))]) (by rw[ec];(simp only[go_sem];repeat' (first|refine Kp ?_ ?_|exact Or.inl rfl|exact Or.inr rfl|rfl))) ?_
   refine Km (fun mz sz=>∃ j:Nat,j<=g.l.length/\mz=g.l.length - j/\sz=⟨fr 57 [(1,.one (.d (.bx [.int .i64 g.root,.sl (nds g.l)]))),(4,.one (.own 0 i)),(5,vi (i:Int)),(6,vi (cI i (flT g.l j))),(7,vi (j:Int))],[.row 1 i (Xad ((Xbi g).take i))]⟩) g.l.length ⟨0,Nat.zero_le _,rfl,rfl⟩ ?_
   rintro _ _ ⟨j,hj,rfl,rfl⟩
   simp only[go_sem]
   by_cases hjl:j < g.l.length
   ·obtain⟨x,hx⟩:=Xaf hjl
    have e2:decide ((j:Int) < (g.l.length:Int))=true:=decide_eq_true (by omega)
    have hkl:=hk12 x (List.mem_of_getElem? hx)
    have hfl:=Wws hk12 j
    repeat' first|refine Kn rfl ?_|(refine Kw ?_;simp only[e2,go_sem])|refine Kf ?_|refine⟨_,⟨Kq _,(Xab hx),rfl⟩,Kg ?_⟩|apply Kp<;>intro _
    refine Kt (fr 57 [(1,.one (.d (.bx [.int .i64 g.root,.sl (nds g.l)]))),(4,.one (.own 0 i)),(5,vi (i:Int)),(6,vi (cI i (flT g.l j))),(7,vi (j:Int)),(8,vi ((0:Nat):Int))]) ?_
    refine Km (fun mz sz=>∃ k:Nat,k<=x.kids.length/\mz=x.kids.length - k/\sz=⟨fr 57 [(1,.one (.d (.bx [.int .i64 g.root,.sl (nds g.l)]))),(4,.one (.own 0 i)),(5,vi (i:Int)),(6,vi (cI i (flT g.l j++x.kids.take k))),(7,vi (j:Int)),(8,vi (k:Int))],[.row 1 i (Xad ((Xbi g).take i))]⟩) x.kids.length ⟨0,Nat.zero_le _,rfl,by rw[List.take_zero,List.append_nil]⟩ ?_
    rintro _ _ ⟨k,hk,rfl,rfl⟩
    simp only[go_sem]
    by_cases hkk:k < x.kids.length
    ·obtain⟨c,hc⟩:=Xaf hkk
     have e3:decide ((k:Int) < (x.kids.length:Int))=true:=decide_eq_true (by omega)
     have ht:flT g.l j++x.kids.take (k+1)=(flT g.l j++x.kids.take k)++[c]:=by rw[List.take_succ,hc,List.append_assoc];rfl
     have hs:=Wwr i (flT g.l j++x.kids.take k) c
     rw[<- ht] at hs
     have hin:inK .i64 (cI i (flT g.l j++x.kids.take k)+1):=Jin (by rw[List.length_append,List.length_take];omega)
     have hkin:inK .i64 ((k:Int)+1):=Xai hkk (by unfold lenMax;omega)
     cases hq:(c==(i:Int)) with
     | true =>
      rw[if_pos hq] at hs
      repeat' first|refine Kn rfl ?_|(refine Kw ?_;simp only[e3,hq,go_sem])|refine Kf ?_|refine⟨_,⟨Kq _,(Xab hx),rfl⟩,Kg ?_⟩|refine⟨_,⟨Kq _,(Xab hc),rfl⟩,Kg ?_⟩|apply Kp<;>intro _
      refine⟨hin,?_⟩
      repeat' first|refine Kn rfl ?_|(refine Kw ?_;simp only[go_sem])|refine Kf ?_|apply Kp<;>intro _
      refine⟨hkin,?_⟩
      refine Kt (fr 57 [(1,.one (.d (.bx [.int .i64 g.root,.sl (nds g.l)]))),(4,.one (.own 0 i)),(5,vi (i:Int)),(6,vi (cI i (flT g.l j++x.kids.take k)+1)),(7,vi (j:Int)),(8,vi (k+1))]) ?_
      exact Kl ⟨x.kids.length - (k+1),by omega,k+1,by omega,rfl,by rw[hs];rfl⟩
     | false =>
      rw[if_neg (by rw[hq];simp)] at hs
      repeat' first|refine Kn rfl ?_|(refine Kw ?_;simp only[e3,hq,go_sem])|refine Kf ?_|refine⟨_,⟨Kq _,(Xab hx),rfl⟩,Kg ?_⟩|refine⟨_,⟨Kq _,(Xab hc),rfl⟩,Kg ?_⟩|apply Kp<;>intro _
      refine⟨hkin,?_⟩
      refine Kt (fr 57 [(1,.one (.d (.bx [.int .i64 g.root,.sl (nds g.l)]))),(4,.one (.own 0 i)),(5,vi (i:Int)),(6,vi (cI i (flT g.l j++x.kids.take k))),(7,vi (j:Int)),(8,vi (k+1))]) ?_
      exact Kl ⟨x.kids.length - (k+1),by omega,k+1,by omega,rfl,by rw[hs];rfl⟩
    ·obtain rfl:k=x.kids.length:=by omega
     have e3:decide ((x.kids.length:Int) < (x.kids.length:Int))=false:=decide_eq_false (by omega)
     have e4:cI i (flT g.l (j+1))=cI i (flT g.l j++x.kids.take x.kids.length):=by rw[Yx9 hx,List.take_length]
     repeat' first|refine Kn rfl ?_|(refine Kw ?_;simp only[e3,go_sem])|refine Kf ?_|refine⟨_,⟨Kq _,(Xab hx),rfl⟩,Kg ?_⟩|apply Kp<;>intro _
     refine⟨Xai hjl (by unfold lenMax;omega),?_⟩
     refine Kt (fr 57 [(1,.one (.d (.bx [.int .i64 g.root,.sl (nds g.l)]))),(4,.one (.own 0 i)),(5,vi (i:Int)),(6,vi (cI i (flT g.l j++x.kids.take x.kids.length))),(7,vi (j+1))]) ?_
     exact Kl ⟨g.l.length - (j+1),by omega,j+1,by omega,rfl,by rw[e4];rfl⟩
   ·obtain rfl:j=g.l.length:=by omega
    have e2:decide ((g.l.length:Int) < (g.l.length:Int))=false:=decide_eq_false (by omega)
    have htl:(Xad ((Xbi g).take i)).length=i:=by simp;omega
    repeat' first|refine Kn rfl ?_|(refine Kw ?_;simp only[e2,go_sem])|refine Kf ?_|apply Kp<;>intro _
    repeat (refine Kp (by first|(simp;done)|omega|(unfold lenMax;omega)|(simp;omega)|(simp[lenMax];omega)) ?_)
    have hrow:Xad ((Xbi g).take i)++[[D.int .i64 (cI i (flT g.l g.l.length))]]=Xad ((Xbi g).take (i+1)):=by rw[List.take_succ,Wwt hil];simp
    rw[hrow]
    repeat' first|refine Kn rfl ?_|(refine Kw ?_;simp only[go_sem])|refine Kf ?_|apply Kp<;>intro _
    refine⟨Xai hil (by unfold lenMax;omega),?_⟩
    refine Kt (fr 57 [(1,.one (.d (.bx [.int .i64 g.root,.sl (nds g.l)]))),(4,.one (.own 0 (i+1))),(5,vi (i+1))]) ?_
    exact Kl ⟨g.l.length - (i+1),by omega,i+1,by omega,rfl,rfl⟩
 ·obtain rfl:i=g.l.length:=by omega
  have e1:decide ((g.l.length:Int) < (g.l.length:Int))=false:=decide_eq_false (by omega)
  rw[List.take_of_length_le (by omega)]
  refine Xap 0 ?_
  simp only[go_sem]
  repeat' first|refine Kn rfl ?_|(refine Kw ?_;simp only[e1,go_sem])|refine Kf ?_|apply Kp<;>intro _
  all_goals trace_state
set_option maxHeartbeats 4000000 in
theorem Xt6 {g:Gr} (hg:Tdy g) (hst:∀ x∈g.l,x.short) (hl:g.l.length<=1000):Does QP gp 30 [g.v] (.tup [.one (.d (.sl (Xad (Xel g)))),vi 0]):=by
 have c1:=X1t (gp:=gp) hg hst hl
 have hul:(Xbi g).length=g.l.length:=Xdo _ _
 rw[show Xel g=(Xc2 g (Xbi g) g.l.length).1 from rfl]
 generalize Xbi g=us at *
 have hlen:=fun i hi=>Xif (g:=g) hul i hi
 have hk:∀ i,(Xc2 g us i).2<=i:=by
  intro i
  induction i with
  | zero=>exact Nat.le_refl _
  | succ i ih =>
   rw[Xc2]
   split
   ·split
    ·exact Nat.succ_le_succ ih
    ·exact Nat.le_succ_of_le ih
   ·exact Nat.le_succ_of_le ih
 refine Jca ?_
 simp only[go_sem]
 repeat' first|refine Kn rfl ?_|(refine Kw ?_;simp only[go_sem])|refine Kf ?_|refine⟨_,c1,Kg ?_⟩|refine⟨_,⟨c1,rfl⟩,Kg ?_⟩|apply Kp<;>intro _
 refine Kt (fr 46 [(1,.one (.d (.bx [.int .i64 g.root,.sl (nds g.l)]))),(4,.one (.d (.sl (Xad us)))),(5,vi 0),(6,.one .nil),(7,vi ((0:Nat):Int)),(8,vi ((0:Nat):Int))]) ?_
 refine Xeh 6 1 (by decide) rfl ?_
 simp only[go_sem]
 refine Km (fun mz sz=>∃ i:Nat,i<=g.l.length/\mz=g.l.length - i/\sz=⟨fr 46 [(1,.one (.d (.bx [.int .i64 g.root,.sl (nds g.l)]))),(4,.one (.d (.sl (Xad us)))),(5,vi 0),(6,.one (.own 0 (Xc2 g us i).1.length)),(7,vi ((Xc2 g us i).2:Int)),(8,vi (i:Int))],[.row 1 (Xc2 g us i).1.length (Xad (Xc2 g us i).1)]⟩) g.l.length ⟨0,Nat.zero_le _,rfl,rfl⟩ ?_
 rintro _ _ ⟨i,hi,rfl,rfl⟩
 simp only[go_sem]
 by_cases hil:i < g.l.length
 ·have e1:decide ((i:Int) < (us.length:Int))=true:=decide_eq_true (by omega)
  obtain⟨x,hx⟩:=Xaf hil
  obtain⟨n,hn⟩:=Xaf (l:=us) (i:=i) (by omega)
  have hstep:Xc2 g us (i+1)=if Xmn x n then ((Xc2 g us i).1++[(((Xc2 g us i).2+1:Nat):Int)],(Xc2 g us i).2+1) else ((Xc2 g us i).1++[0],(Xc2 g us i).2):=by rw[Xc2,hx,hn]
  have hki:=hk i
  have hai:=hlen i hi
  obtain⟨w,m,hwm⟩:∃ w m,Xc2 g us i=(w,m):=⟨_,_,rfl⟩
  rw[hwm] at hstep hki hai ⊢
  dsimp only at hstep hki hai ⊢
  have hmi:inK .i64 ((m:Int)+1):=by have:=Xai (i:=m) (n:=5000) (by omega) (by unfold lenMax;omega);exact this
  have hii:inK .i64 ((i:Int)+1):=Xai hil (by unfold lenMax;omega)
  by_cases hn1:n > 1
  ·have e2:decide (n > 1)=true:=decide_eq_true hn1
   by_cases hx0:x.kids=[]
   ·have e3:decide ((x.kids.length:Int) > 0)=false:=decide_eq_false (by rw[hx0];simp)
    have hp:Xmn x n=false:=by unfold Xmn;simp[hx0]
    rw[hp] at hstep
    simp only[Bool.false_eq_true,if_false] at hstep
    repeat' first|refine Kn rfl ?_|(refine Kw ?_;simp only[e1,e2,e3,go_sem])|refine Kf ?_|refine⟨_,⟨Kq _,(Xab hx),rfl⟩,Kg ?_⟩|refine⟨_,⟨Kq _,(Xab hn),rfl⟩,Kg ?_⟩|(apply Kp<;>intro _<;>try (exfalso;omega))
    repeat (refine Kp (by first|(simp;done)|omega|(unfold lenMax;omega)|(simp;omega)|(simp[lenMax];omega)) ?_)
    rw[show Xad w++[[D.int .i64 0]]=Xad (w++[0]) from by simp]
    repeat' first|refine Kn rfl ?_|(refine Kw ?_;simp only[go_sem])|refine Kf ?_|(apply Kp<;>intro _<;>try (exfalso;omega))
    refine⟨hii,?_⟩
    refine Kt (fr 46 [(1,.one (.d (.bx [.int .i64 g.root,.sl (nds g.l)]))),(4,.one (.d (.sl (Xad us)))),(5,vi 0),(6,.one (.own 0 (w.length+1))),(7,vi (m:Int)),(8,vi (i+1))]) ?_
    exact Kl ⟨g.l.length - (i+1),by omega,i+1,by omega,rfl,by rw[hstep];dsimp only;rw[List.length_append];rfl⟩
   ·have hx1:0 < x.kids.length:=by cases h:x.kids with
     | nil=>exact absurd h hx0
     | cons a l=>simp
    have e3:decide ((x.kids.length:Int) > 0)=true:=decide_eq_true (by omega)
    have hp:Xmn x n=true:=by unfold Xmn;simp[hx0,hn1]
    rw[hp] at hstep
    simp only[if_true] at hstep
    repeat' first|refine Kn rfl ?_|(refine Kw ?_;simp only[e1,e2,e3,go_sem])|refine Kf ?_|refine⟨_,⟨Kq _,(Xab hx),rfl⟩,Kg ?_⟩|refine⟨_,⟨Kq _,(Xab hn),rfl⟩,Kg ?_⟩|(apply Kp<;>intro _<;>try (exfalso;omega))
    refine⟨hmi,?_⟩
    repeat' first|refine Kn rfl ?_|(refine Kw ?_;simp only[go_sem])|refine Kf ?_|(apply Kp<;>intro _<;>try (exfalso;omega))
    repeat (refine Kp (by first|(simp;done)|omega|(unfold lenMax;omega)|(simp;omega)|(simp[lenMax];omega)) ?_)
    rw[show Xad w++[[D.int .i64 ((m:Int)+1)]]=Xad (w++[(((m+1:Nat)):Int)]) from by simp]
    repeat' first|refine Kn rfl ?_|(refine Kw ?_;simp only[go_sem])|refine Kf ?_|(apply Kp<;>intro _<;>try (exfalso;omega))
    refine⟨hii,?_⟩
    refine Kt (fr 46 [(1,.one (.d (.bx [.int .i64 g.root,.sl (nds g.l)]))),(4,.one (.d (.sl (Xad us)))),(5,vi 0),(6,.one (.own 0 (w.length+1))),(7,vi ((m:Int)+1)),(8,vi (i+1))]) ?_
    exact Kl ⟨g.l.length - (i+1),by omega,i+1,by omega,rfl,by rw[hstep];dsimp only;rw[List.length_append];rfl⟩
  ·have e2:decide (n > 1)=false:=decide_eq_false hn1
   have hp:Xmn x n=false:=by unfold Xmn;simp[hn1]
   rw[hp] at hstep
   simp only[Bool.false_eq_true,if_false] at hstep
   repeat' first|refine Kn rfl ?_|(refine Kw ?_;simp only[e1,e2,go_sem])|refine Kf ?_|refine⟨_,⟨Kq _,(Xab hx),rfl⟩,Kg ?_⟩|refine⟨_,⟨Kq _,(Xab hn),rfl⟩,Kg ?_⟩|(apply Kp<;>intro _<;>try (exfalso;omega))
   repeat (refine Kp (by first|(simp;done)|omega|(unfold lenMax;omega)|(simp;omega)|(simp[lenMax];omega)) ?_)
   rw[show Xad w++[[D.int .i64 0]]=Xad (w++[0]) from by simp]
   repeat' first|refine Kn rfl ?_|(refine Kw ?_;simp only[go_sem])|refine Kf ?_|(apply Kp<;>intro _<;>try (exfalso;omega))
   refine⟨hii,?_⟩
   refine Kt (fr 46 [(1,.one (.d (.bx [.int .i64 g.root,.sl (nds g.l)]))),(4,.one (.d (.sl (Xad us)))),(5,vi 0),(6,.one (.own 0 (w.length+1))),(7,vi (m:Int)),(8,vi (i+1))]) ?_
   exact Kl ⟨g.l.length - (i+1),by omega,i+1,by omega,rfl,by rw[hstep];dsimp only;rw[List.length_append];rfl⟩
 ·obtain rfl:i=g.l.length:=by omega
  have e1:decide ((g.l.length:Int) < (us.length:Int))=false:=decide_eq_false (by omega)
  refine Xap 0 ?_
  simp only[go_sem]
  repeat' first|refine Kn rfl ?_|(refine Kw ?_;simp only[e1,go_sem])|refine Kf ?_|apply Kp<;>intro _
  all_goals trace_state
end Go.Fw.L07
