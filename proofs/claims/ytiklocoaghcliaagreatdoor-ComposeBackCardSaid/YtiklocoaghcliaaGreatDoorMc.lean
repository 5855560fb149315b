/- Chapter 18,part 4: a tree is laid. -/
import Derived.Test.YtiklocoaghcliaaGreatDoorMb
import Derived.Test.YtiklocoaghcliaaGreatDoorMa
set_option linter.all false
namespace Go.Fw.L07
open Go Go.Fw
open Go.Fw.Sh renaming intro->Kg
open Go.Fw renaming Xec->Ka,Xbg->Ka,Xhs->Ka,Xh9->Kv,Xel->Kf,Xdn->Kt,Xl3->Kk,Xdl->Kl,Xfl->Km,Gx->Kn,Gw->Ko
open Go.Fw renaming Xbg->Ka, Xbk->Ka, Xbv->Ka, Xb3->Ka
open Go.Fw renaming Xec->Kw, Xbg->Kw, Xbk->Kw, Xbv->Kw, Xb3->Kw, Xh6->Kw, Xem->Kw
open Go.Fw.Sh renaming intro->Kf
open Int renaming natCast_nonneg->Kq
open And renaming intro->Kp
open Go.Proofs.Tryz renaming prog->QP
open Nat renaming reduceAdd->Qa,reduceSub->Qb,reduceMul->Qc,reduceLeDiff->Qd,reduceLT->Qe,reduceEqDiff->Qf
open Int renaming reduceToNat->Qg,reduceLT->Qh,reduceLE->Qi,reduceGT->Qj,reduceGE->Qk,reduceEq->Ql,reduceNe->Qm,reduceBEq->Qn,reduceBNe->Qo,reduceAdd->Qp,reduceSub->Qq,reduceNeg->Qr
set_option maxRecDepth 4000
variable {gp:Xaj}
/- left folded: \f32_r18 \f12_r11 \f29_r32 \f29_r22 \f11_r35 \f13_r13 \f61_r16 \f61_r8 \f61_r9 -/
theorem Xsu (l:List Sc) (hl:l.length < 100000):Xao QP gp 30 [.one (.d (.sl (scs l)))] (.one (.d (.sl (scs l)))):=by
 refine Wll ?_
 simp only[go_sem]
 cases l with
 | nil =>
  refine Yj7 0 rfl fun q c=>?_
  cases q with
  | none =>
   simp only[go_sem]
   repeat' first|refine Kn rfl ?_|((first|refine Kw ?_|refine Kv ?_);simp only[Xl7,Xl8,Xoc,Xod,go_sem])|refine Kf ?_|apply Kp<;>intro _
  | some q =>
   simp only[go_sem]
   refine Xni ?_
   repeat' first|refine Kn rfl ?_|((first|refine Kw ?_|refine Kv ?_);simp only[Xl7,Xl8,go_sem])|refine Kf ?_|apply Kp<;>intro _
   refine Xpj 0 rfl ?_
   simp only[go_sem]
   repeat' first|refine Kn rfl ?_|((first|refine Kw ?_|refine Kv ?_);simp only[Xl7,Xl8,Xoc,Xod,go_sem])|refine Kf ?_|apply Kp<;>intro _
   refine⟨by simp,by simp[Xad],?_⟩
   refine Xa0 0 ?_
   simp only[go_sem]
   repeat' first|refine Kn rfl ?_|((first|refine Kw ?_|refine Kv ?_);simp only[Xl7,Xl8,Xoc,Xod,go_sem])|refine Kf ?_|apply Kp<;>intro _
 | cons x l =>
  simp only[go_sem]
  repeat' first|refine Kn rfl ?_|((first|refine Kw ?_|refine Kv ?_);simp only[Xl7,Xl8,Xoc,Xod,go_sem])|refine Kf ?_|apply Kp<;>intro _
  refine⟨by simp,by simp at hl;omega,by simp[Xad] at hl ⊢;omega,?_⟩
  refine Xa0 0 ?_
  simp only[go_sem]
  repeat' first|refine Kn rfl ?_|((first|refine Kw ?_|refine Kv ?_);simp only[Xl7,Xl8,Xoc,Xod,go_sem])|refine Kf ?_|apply Kp<;>intro _
theorem Xop {S:Sx} {m:MI} {l K:List MI} {s:St} (hl:l=K) (h:∀ K',K'=K->G S (m::K') s):G S (m::l) s:=h l hl
def Xsv (L:List Nd) (p:Nat) (i:Int):List Nd:=match L[p]? with
 | some x=>L.set p ⟨x.k,x.x,x.keys,x.kids++[i]⟩
 | none=>L
theorem Xsw (ts:Ts) (e:Nat) (ds:List D) (a:A):(Xjt ts e ds a).length=ts.length:=by simp
theorem Yo5 {ts:Ts} {e:Nat} {ds:List D} {a:A} (h:e < ts.length):(Xjt ts e ds a)[e]?=some (ds.map A.d++[a]):=by
 simp[h]
theorem Ygk {ts:Ts} {e:Nat} {ds:List D} {a b:A}:(Xjt ts e ds a).set e (ds.map A.d++[b])=Xjt ts e ds b:=by
 simp[Xjt,List.set_set]
theorem Ygl {ts:Ts} {xs:List (List D × List (List D))} (h:nOf ts=xs):ts.length=xs.length:=by rw[<- h];simp
theorem Wvx {k:Tr} {deep root:Int} {ver p m:Nat} {L L':List Nd} {nm nm':Nm} {x:Nd} {i e:Int} (hd:inK .i64 (deep+1)) (hx:L'[p]?=some x) (hk:x.kids.length<=100)
  (IH:Tri QP gp 32 [.one (.ptr 0 0),k.v,vi (deep+1)] [Xul root ver,Xum L ver,.map (mpS nm)] fun r post=>r=.tup [vi i,Xtb e]/\post=[Xul root (ver+m),Xum L' (ver+m),.map (mpS nm')]) :
  Tri QP gp 58 [k.v,.one (.ptr 3 0),.one (.ptr 4 0),.one (.ptr 5 0)] [Xul root ver,Xum L ver,.map (mpS nm),.cells [.ptr 0 0],.cells [.d (.int .i64 deep)],.cells [.d (.int .i64 p)]] fun r post =>
   r=Xtb e/\post=[Xul root (ver+m),Xum (Xsv L' p i) (ver+m),.map (mpS nm'),.cells [.ptr 0 0],.cells [.d (.int .i64 deep)],.cells [.d (.int .i64 p)]]:=by
 refine Y33 ?_
 simp only[go_sem]
 repeat' first|refine Kn rfl ?_|((first|refine Kw ?_|refine Kv ?_);simp only[Xr2,go_sem])|refine Kf ?_|refine⟨hd,?_⟩|(apply Kp<;>intro _<;>try (exfalso;omega))
 refine Or.inr (Or.inr ⟨[0,1,2],.tup [vi i,Xtb e],[Xul root (ver+m),Xum L' (ver+m),.map (mpS nm')],(by simp only[Xa1,Xds,rnV,rnA,Xdy,rn0,Xdx,Xb1,Xdt,rnC,Xah,List.isEmpty_nil,Xbu,reduceCtorEq,↓reduceIte,Qa,Qb,Qc,Qd,Qe,Qf,Qg,Qh,Qi,Qj,Qk,Ql,Qm,Qn,Qo,Qp,Qq,Qr];simp only[go_sem];exact⟨Yry,IH⟩),Kg ?_⟩)
 simp only[bkO,bkC,Xbu]
 simp only[go_sem]
 repeat' first|refine Kn rfl ?_|((first|refine Kw ?_|refine Kv ?_);simp only[go_sem])|refine Kf ?_|(apply Kp<;>intro _<;>try (exfalso;omega))
 have hxK:(L'.map ndK)[p]?=some (ndK x):=Xae hx
 refine Wi0 1 p rfl hxK fun ts hts=>?_
 have hpl:p < ts.length:=by rw[Ygl hts,List.length_map];exact (List.getElem?_eq_some_iff.1 hx).1
 have hA:=fun a:A=>Yo5 (ts:=ts) (ds:=(ndK x).1) (a:=a) hpl
 simp only[go_sem]
 repeat' first|refine Kn rfl ?_|((first|refine Kw ?_|refine Kv ?_);simp only[Xr2,go_sem])|refine Kf ?_|(apply Kp<;>intro _<;>try (exfalso;omega))
 refine⟨Kq _,by rw[Xsw];exact hpl,_,⟨hA _,by simp⟩,Kg ?_⟩
 simp only[go_sem]
 repeat' first|refine Kn rfl ?_|((first|refine Kw ?_|refine Kv ?_);simp only[Xr2,go_sem])|refine Kf ?_|(apply Kp<;>intro _<;>try (exfalso;omega))
 refine⟨by simp,by omega,by unfold Xad;omega,Kq _,by rw[Xsw];exact hpl,_,⟨hA _,by simp⟩,Kg ?_⟩
 refine Kf ?_
 obtain⟨v,hv⟩:∃ v,ts[p]?=some ((ndK x).1,v,Xai x.kids):=by
  have:=hxK
  rw[<- hts,List.getElem?_map] at this
  cases ht:ts[p]? with
  | none=>rw[ht] at this;cases this
  | some t =>
   obtain⟨a,b,c⟩:=t
   rw[ht] at this
   simp only[Option.map_some,Option.some.injEq,Prod.mk.injEq] at this
   exact⟨b,by rw[this.1,this.2]⟩
 refine Yz0 1 8 9 p ts (ds:=(ndK x).1) (ks:=Xai x.kids) (ks':=Xai (x.kids++[i])) (v:=v) (u:=1) (sz:=6) (kz:=1) (ver:=ver+m) hv ?_ rfl ?_ ?_
 ·show Ch.rowA 6 (ver+m) ((Xjt ts p (ndK x).1 (.own 9 0)).set p _)=_
  rw[<- Ygk (a:=A.own 9 0)]
  simp[Xjt]
 ·show Ch.row 1 1 (Xai x.kids++[[D.int .i64 i]])=_
  simp[Xai]
 ·have hfin:(nOf ts).set p ((ndK x).1,Xai (x.kids++[i]))=(Xsv L' p i).map ndK:=by
   rw[hts]
   unfold Xsv
   rw[hx]
   simp only[List.map_set]
  rw[hfin]
  simp only[go_sem]
  refine Kt (fr 38 [(7,Xtb e)]) ?_
  refine Kk 6 (by simp only[List.length_nil,List.length_cons];decide) (by simp only[go_sem]) (by simp only[List.take_succ_cons,List.take_zero,List.all_cons,List.all_nil,Xbu];simp only[go_sem]) ?_
  simp only[go_sem]
  repeat' first|refine Kn rfl ?_|((first|refine Kw ?_|refine Kv ?_);simp only[Xr2,go_sem])|refine Kf ?_|(apply Kp<;>intro _<;>try (exfalso;omega))
abbrev Yxu (R:ByteArray->Bool) (gp:Xaj) (t:Tr) (deep root:Int) (ver:Nat) (L:List Nd) (nm:Nm):Prop :=
 Tri QP gp 32 [.one (.ptr 0 0),t.v,vi deep] [Xul root ver,Xum L ver,.map (mpS nm)] fun r post =>
  r=.tup [vi ((Xch R t deep L.length nm).is.headD 0),Xtb (Xch R t deep L.length nm).e] /\
   post=[Xul root (ver+(Xch R t deep L.length nm).new.length),Xum (L++(Xch R t deep L.length nm).new) (ver+(Xch R t deep L.length nm).new.length),.map (mpS (Xch R t deep L.length nm).nm)]
theorem Wf4 (R:ByteArray->Bool) (hR:∀ s,Xao QP gp 40 [vs s] (vb (R s))) (t:Tr) (deep root:Int) (ver:Nat) (L:List Nd) (nm:Nm) (he:Xp2 R t deep L.length nm≠0):Yxu R gp t deep root ver L nm:=by
 have c1:=Xun R hR t deep root ver L nm
 unfold Yxu
 rw[Xda,if_pos he]
 generalize Xp2 R t deep L.length nm=e at *
 refine Xt5 ?_
 simp only[go_sem]
 repeat' first|refine Kn rfl ?_|((first|refine Kw ?_|refine Kv ?_);simp only[go_sem])|refine Kf ?_|(apply Kp<;>intro _<;>try (exfalso;omega))
 refine Or.inr (Or.inr ⟨[0,1,2],Xtb e,[Xul root ver,Xum L ver,.map (mpS nm)],(by simp only[Xa1,Xds,rnV,rnA,Xdy,rn0,Xdx,Xb1,Xdt,rnC,Xah,List.isEmpty_nil,Xbu,reduceCtorEq,↓reduceIte,Qa,Qb,Qc,Qd,Qe,Qf,Qg,Qh,Qi,Qj,Qk,Ql,Qm,Qn,Qo,Qp,Qq,Qr];simp only[go_sem];exact⟨X6i,c1⟩),Kg ?_⟩)
 simp only[bkO,bkC,Xbu,if_neg he]
 simp only[go_sem]
 repeat' first|refine Kn rfl ?_|((first|refine Ka ?_|refine Kv ?_);simp only[go_sem])|refine Kf ?_|(apply Kp<;>intro _<;>try (exfalso;omega))
 refine Kt (fr 90 [(6,vi 0),(7,.one (.d (.ifc 106 true [.int .i64 e])))]) ?_
 refine Kk 3 (by simp only[List.length_nil,List.length_cons];decide) (by simp only[go_sem]) (by simp only[List.take_succ_cons,List.take_zero,List.all_cons,List.all_nil,Xbu];simp only[go_sem]) ?_
 simp only[go_sem]
 repeat' first|refine Kn rfl ?_|((first|refine Kw ?_|refine Kv ?_);simp only[Xdq,go_sem])|refine Kf ?_|(apply Kp<;>intro _<;>try (exfalso;omega))
 exact⟨rfl,by rw[if_neg he]⟩
theorem Wf5 (R:ByteArray->Bool) (hR:∀ s,Xao QP gp 40 [vs s] (vb (R s))) (t:Tr) (deep root:Int) (ver:Nat) (L:List Nd) (nm:Nm) (he:Xp2 R t deep L.length nm=0) (hk:t.k=3):Yxu R gp t deep root ver L nm:=by
 have c1:=Xun R hR t deep root ver L nm
 have hf:=Xp1 nm t.name
 unfold Yxu
 obtain⟨b,hb⟩:∃ b,Xnd nm t.name=some b:=by
  cases hg:Xnd nm t.name with
  | none =>
   exfalso
   unfold Xp2 at he
   split at he
   ·omega
   ·split at he
    ·omega
    ·split at he
     ·omega
     ·rw[if_pos ⟨hk,hg⟩] at he;omega
  | some b=>exact⟨b,rfl⟩
 rw[hb,Option.map_some] at hf
 have h3:(t.k==3)=true:=by simp[hk]
 rw[Xda,if_neg (by simp[he]),if_pos hk,hb]
 rw[he] at c1
 refine Xt5 ?_
 simp only[go_sem]
 repeat' first|refine Kn rfl ?_|((first|refine Kw ?_|refine Kv ?_);simp only[go_sem])|refine Kf ?_|(apply Kp<;>intro _<;>try (exfalso;omega))
 refine Or.inr (Or.inr ⟨[0,1,2],Xtb 0,[Xul root ver,Xum L ver,.map (mpS nm)],(by simp only[Xa1,Xds,rnV,rnA,Xdy,rn0,Xdx,Xb1,Xdt,rnC,Xah,List.isEmpty_nil,Xbu,reduceCtorEq,↓reduceIte,Qa,Qb,Qc,Qd,Qe,Qf,Qg,Qh,Qi,Qj,Qk,Ql,Qm,Qn,Qo,Qp,Qq,Qr];simp only[go_sem];exact⟨X6i,c1⟩),Kg ?_⟩)
 simp only[bkO,bkC,Xbu]
 simp only[go_sem]
 repeat' first|refine Kn rfl ?_|((first|refine Ka ?_|refine Kv ?_);simp only[h3,go_sem])|refine Kf ?_|refine⟨_,⟨hf,rfl⟩,Kg ?_⟩|(apply Kp<;>intro _<;>try (exfalso;omega))
 refine Kt (fr 90 [(6,vi b),(7,.one (.d .nilI))]) ?_
 refine Kk 3 (by simp only[List.length_nil,List.length_cons];decide) (by simp only[go_sem]) (by simp only[List.take_succ_cons,List.take_zero,List.all_cons,List.all_nil,Xbu];simp only[go_sem]) ?_
 simp only[go_sem]
 repeat' first|refine Kn rfl ?_|((first|refine Kw ?_|refine Kv ?_);simp only[Xdq,go_sem])|refine Kf ?_|(apply Kp<;>intro _<;>try (exfalso;omega))
 exact rfl
abbrev nd0 (t:Tr) (is:List Int):Nd:=⟨t.k,t.x,t.keys,is⟩
theorem W07 (R:ByteArray->Bool) (hR:∀ s,Xao QP gp 40 [vs s] (vb (R s))):∀ (N:Nat) (t:Tr),SizeOf.sizeOf t<=N->smT t->∀ (deep root:Int) (ver:Nat) (L:List Nd) (nm:Nm),0<=deep->L.length<=200->Yxu R gp t deep root ver L nm:=by
 intro N
 induction N with
 | zero=>intro t ht;cases t;simp at ht
 | succ N ih =>
 intro t ht hs deep root ver L nm hd0 hL
 by_cases he:Xp2 R t deep L.length nm=0
 case neg=>exact Wf4 R hR t deep root ver L nm he
 by_cases hk:t.k=3
 ·exact Wf5 R hR t deep root ver L nm he hk
 have c1:=Xun R hR t deep root ver L nm
 rw[he] at c1
 have h3:(t.k==3)=false:=by simp[hk]
 obtain⟨g1,g2,g3,g4,g5⟩:=Ymz he
 obtain⟨s1,s2,s3⟩:=Xp3.1 hs
 have hn:L.length < 200:=by have:=g5 hk;omega
 have c2:=Xsu (gp:=gp) t.keys (by omega)
 have hsz:∀ c∈t.kids,SizeOf.sizeOf c<=N:=fun c hc=>by
  cases t with
  | mk k n x keys kids =>
   have:=List.sizeOf_lt_of_mem (show c∈kids from hc)
   simp at ht;omega
 unfold Yxu
 rw[Xda,if_neg (by simp[he]),if_neg hk]
 refine Xt5 ?_
 simp only[go_sem]
 repeat' first|refine Kn rfl ?_|((first|refine Kw ?_|refine Kv ?_);simp only[go_sem])|refine Kf ?_|(apply Kp<;>intro _<;>try (exfalso;omega))
 refine Or.inr (Or.inr ⟨[0,1,2],Xtb 0,[Xul root ver,Xum L ver,.map (mpS nm)],(by simp only[Xa1,Xds,rnV,rnA,Xdy,rn0,Xdx,Xb1,Xdt,rnC,Xah,List.isEmpty_nil,Xbu,reduceCtorEq,↓reduceIte,Qa,Qb,Qc,Qd,Qe,Qf,Qg,Qh,Qi,Qj,Qk,Ql,Qm,Qn,Qo,Qp,Qq,Qr];simp only[go_sem];exact⟨X6i,c1⟩),Kg ?_⟩)
 simp only[bkO,bkC,Xbu]
 simp only[go_sem]
 repeat' first|refine Kn rfl ?_|((first|refine Ka ?_|refine Kv ?_);simp only[h3,List.length_map,go_sem])|refine Kf ?_|(apply Kp<;>intro _<;>try (exfalso;omega))
 refine Xt2 1 rfl fun ts hts=>?_
 have hl:=Ygl hts
 rw[List.length_map] at hl
 have hb1:(ts.length+1)*88<=140737488355328:=by omega
 have hb2:ts.length+1 < Xad:=by unfold Xad;omega
 simp only[go_sem]
 refine Xop rfl fun K hK=>?_
 repeat' first|refine Kn rfl ?_|((first|refine Ka ?_|refine Kv ?_);simp only[Xdq,List.length_map,go_sem])|refine Kf ?_|refine⟨_,c2,Kg ?_⟩|refine⟨_,⟨c2,rfl⟩,Kg ?_⟩|refine⟨by simp,hb1,hb2,?_⟩|(apply Kp<;>intro _<;>try (exfalso;omega))
 subst hK
 refine Wiz 7 rfl (by decide) ?_
 refine Xt3 1 7 (sz:=6) (kz:=1) (ver:=ver+1) (ts++[((ndK (nd0 t [])).1,.slice none 0 0,[])]) ?_ ?_ ?_
 ·show Ch.row 6 (ver+1) (Xnj ts++[_])=_
  simp[Xnj]
 ·show Ch.pool 1 (Xhj ts++[_])=_
  simp[Xhj]
 have hnest:nOf (ts++[((ndK (nd0 t [])).1,Value.slice none 0 0,([]:List (List D)))])=(L++[nd0 t []]).map ndK:=by
  simp only[nOf,List.map_append] at hts ⊢
  rw[hts];rfl
 rw[hnest]
 generalize hnm:(if t.name=⟨#[]⟩ then nm else Xne nm t.name L.length)=nm1
 simp only[go_sem]
 refine Xni ?_
 refine Xop rfl fun K hK=>?_
 by_cases hn0:t.name=⟨#[]⟩
 case' pos =>
  rw[if_pos hn0] at hnm
  have hq:decide (t.name=⟨#[]⟩)=true:=by simp[hn0]
  repeat' first|refine Kn rfl ?_|((first|refine Ka ?_|refine Kv ?_);simp only[Xdq,hq,go_sem])|refine Kf ?_|(apply Kp<;>intro _<;>try (exfalso;omega))
  rw[hnm]
  refine Kt (fr 90 [(3,.one (.ptr 3 0)),(4,.one (.d (.bx t.dd))),(5,.one (.ptr 4 0)),(6,vi 0),(7,.one (.d .nilI)),(9,.one (.ptr 6 0))]) ?_
 case' neg =>
  rw[if_neg hn0] at hnm
  have hq:decide (t.name=⟨#[]⟩)=false:=by simp[hn0]
  repeat' first|refine Kn rfl ?_|((first|refine Ka ?_|refine Kv ?_);simp only[Xdq,hq,go_sem])|refine Kf ?_|refine⟨_,Ycc _ _ _,Kg ?_⟩|(apply Kp<;>intro _<;>try (exfalso;omega))
  rw[hnm]
  refine Kt (fr 90 [(3,.one (.ptr 3 0)),(4,.one (.d (.bx t.dd))),(5,.one (.ptr 4 0)),(6,vi 0),(7,.one (.d .nilI)),(9,.one (.ptr 6 0))]) ?_
 all_goals
  clear hnm
  subst hK
  simp only[go_sem]
  repeat' first|refine Kn rfl ?_|((first|refine Ka ?_|refine Kv ?_);simp only[Xdq,go_sem])|refine Kf ?_|(apply Kp<;>intro _<;>try (exfalso;omega))
  refine Kt (fr 90 [(6,vi 0),(7,.one (.d .nilI)),(9,.one (.ptr 6 0)),(10,.one (.clo (.func 58) [.ptr 3 0,.ptr 4 0,.ptr 6 0])),(76,.one (.d (.sl (trs t.kids)))),(77,vi t.kids.length),(78,vi (0:Nat))]) ?_
  refine Km (fun mz sz=>∃ i:Nat,i<=t.kids.length/\mz=t.kids.length - i/\((Xcd R (t.kids.take i) (deep+1) (L.length+1) nm1).e=0)/\sz=⟨fr 90 [(6,vi 0),(7,.one (.d .nilI)),(9,.one (.ptr 6 0)),(10,.one (.clo (.func 58) [.ptr 3 0,.ptr 4 0,.ptr 6 0])),(76,.one (.d (.sl (trs t.kids)))),(77,vi t.kids.length),(78,vi i)],[Xul root (ver+1+(Xcd R (t.kids.take i) (deep+1) (L.length+1) nm1).new.length),Xum (L++nd0 t (Xcd R (t.kids.take i) (deep+1) (L.length+1) nm1).is::(Xcd R (t.kids.take i) (deep+1) (L.length+1) nm1).new) (ver+1+(Xcd R (t.kids.take i) (deep+1) (L.length+1) nm1).new.length),.map (mpS (Xcd R (t.kids.take i) (deep+1) (L.length+1) nm1).nm),.cells [.ptr 0 0],.cells [.d (.int .i64 deep)],.dead,.cells [.d (.int .i64 L.length)],.dead]⟩) (t.kids.length) ⟨0,Nat.zero_le _,(Nat.sub_zero _).symm,?_,rfl⟩ ?_
  ·simp[Xcd]
  rintro _ _ ⟨i,hi,rfl,hz,rfl⟩
  simp only[go_sem]
  by_cases hil:i < t.kids.length
  ·obtain⟨c,hc⟩:=Xaq hil
   have hcm:=List.mem_of_getElem? hc
   have hsn:=Xsi R c (deep+1) (t.kids.take i) (L.length+1) nm1 hz
   have h200:=Xx4 (R:=R) (l:=t.kids.take i) (fun c _=>Xx5 c) (deep+1) (L.length+1) nm1 (by omega)
   have hisl:=Xjy (R:=R) (deep+1) (t.kids.take i) (L.length+1) nm1 hz
   rw[Xb8 hc] at hsn
   generalize hr:Xcd R (t.kids.take i) (deep+1) (L.length+1) nm1=r at *
   have hlen:(L++nd0 t r.is::r.new).length=L.length+1+r.new.length:=by simp;omega
   have hlay:=ih c (hsz c hcm) (s3 c hcm) (deep+1) root (ver+1+r.new.length) (L++nd0 t r.is::r.new) r.nm (by omega) (by omega)
   unfold Yxu at hlay
   rw[hlen] at hlay
   obtain⟨b,hb⟩:=Xuk R c (deep+1) (L.length+1+r.new.length) r.nm
   generalize ha:Xch R c (deep+1) (L.length+1+r.new.length) r.nm=a at *
   have hkid:Xsv ((L++nd0 t r.is::r.new)++a.new) L.length (a.is.headD 0)=L++nd0 t (r.is++a.is)::(r.new++a.new):=by
    unfold Xsv
    have e1:((L++nd0 t r.is::r.new)++a.new)[L.length]?=some (nd0 t r.is):=by simp
    rw[e1,hb]
    simp
   have h1:=Wvx (p:=L.length) (x:=nd0 t r.is) (by simp[inK,IntKind.min,IntKind.max,IntKind.signed,IntKind.bits];omega) (by simp) (by simp only[nd0,hisl,List.length_take];omega) hlay
   rw[hkid] at h1
   have hct:=Ywu hc
   repeat' first|refine Kn rfl ?_|((first|refine Ka ?_|refine Kv ?_);simp only[Xdq,go_sem])|refine Kf ?_|refine⟨_,⟨Kq _,hct,rfl⟩,Kg ?_⟩|(apply Kp<;>intro _<;>try (exfalso;omega))
   refine Or.inr (Or.inr ⟨[0,1,2,3,4,6],Xtb a.e,[Xul root (ver+1+r.new.length+a.new.length),Xum (L++nd0 t (r.is++a.is)::(r.new++a.new)) (ver+1+r.new.length+a.new.length),.map (mpS a.nm),.cells [.ptr 0 0],.cells [.d (.int .i64 deep)],.cells [.d (.int .i64 L.length)]],(by simp only[Xa1,Xds,rnV,rnA,Xdy,rn0,Xdx,Xb1,Xdt,rnC,Xah,List.isEmpty_nil,Xbu,reduceCtorEq,↓reduceIte,Qa,Qb,Qc,Qd,Qe,Qf,Qg,Qh,Qi,Qj,Qk,Ql,Qm,Qn,Qo,Qp,Qq,Qr];simp only[go_sem];exact⟨Wob,h1⟩),Kg ?_⟩)
   simp only[bkO,bkC,Xbu]
   simp only[go_sem]
   have hik:inK .i64 ((i:Int)+1):=by simp[inK,IntKind.min,IntKind.max,IntKind.signed,IntKind.bits];omega
   by_cases hae:a.e=0
   ·repeat' (first|refine Kn rfl ?_|((first|refine Ka ?_|refine Kv ?_);simp only[Xdq,hae,go_sem])|refine Kf ?_|refine⟨hik,?_⟩|(apply Kp<;>intro _<;>try (exfalso;omega)))
    refine Kt (fr 90 [(6,vi 0),(7,.one (.d .nilI)),(9,.one (.ptr 6 0)),(10,.one (.clo (.func 58) [.ptr 3 0,.ptr 4 0,.ptr 6 0])),(76,.one (.d (.sl (trs t.kids)))),(77,vi t.kids.length),(78,vi (i+1))]) ?_
    refine Kk 8 (by simp only[List.length_nil,List.length_cons];decide) (by simp only[go_sem]) (by simp only[List.take_succ_cons,List.take_zero,List.all_cons,List.all_nil,Xbu];try simp only[go_sem]) ?_
    simp only[go_sem]
    refine Kl ⟨t.kids.length - (i+1),by omega,i+1,by omega,rfl,?_,(by rw[hsn];simp[Nat.add_assoc])⟩
    rw[hsn];exact hae
   ·have hst:Xcd R t.kids (deep+1) (L.length+1) nm1=⟨r.is++a.is,a.e,r.new++a.new,a.nm⟩:=by
     have:=Xsj R (deep+1) (t.kids.take (i+1)) (t.kids.drop (i+1)) (L.length+1) nm1 (by rw[hsn];exact hae)
     rw[List.take_append_drop] at this
     rw[this,hsn]
    rw[hst]
    repeat' first|refine Kn rfl ?_|((first|refine Ka ?_|refine Kv ?_);simp only[Xdq,if_neg hae,go_sem])|refine Kf ?_|(apply Kp<;>intro _<;>try (exfalso;omega))
    refine Kt (fr 90 [(6,vi 0),(7,.one (.d (.ifc 106 true [.int .i64 a.e])))]) ?_
    refine Kk 3 (by simp only[List.length_nil,List.length_cons];decide) (by simp only[go_sem]) (by simp only[List.take_succ_cons,List.take_zero,List.all_cons,List.all_nil,Xbu];simp only[go_sem]) ?_
    simp only[go_sem]
    repeat' first|refine Kn rfl ?_|((first|refine Kw ?_|refine Kv ?_);simp only[Xdq,go_sem])|refine Kf ?_|(apply Kp<;>intro _<;>try (exfalso;omega))
    have ev:ver+((r.new++a.new).length+1)=ver+1+r.new.length+a.new.length:=by simp;omega
    exact⟨⟨by simp[hae],by rw[if_neg hae]⟩,by rw[ev],by rw[ev]⟩
  ·obtain rfl:t.kids.length=i:=by omega
   rw[List.take_length] at hz ⊢
   repeat' first|refine Kn rfl ?_|((first|refine Ka ?_|refine Kv ?_);simp only[Xdq,go_sem])|refine Kf ?_|(apply Kp<;>intro _<;>try (exfalso;omega))
   refine Kt (fr 90 [(6,vi L.length),(7,.one (.d .nilI))]) ?_
   refine Kk 3 (by simp only[List.length_nil,List.length_cons];decide) (by simp only[go_sem]) (by simp only[List.take_succ_cons,List.take_zero,List.all_cons,List.all_nil,Xbu];simp only[go_sem]) ?_
   simp only[go_sem]
   repeat' first|refine Kn rfl ?_|((first|refine Kw ?_|refine Kv ?_);simp only[Xdq,go_sem])|refine Kf ?_|(apply Kp<;>intro _<;>try (exfalso;omega))
   have ev:ver+((Xcd R t.kids (deep+1) (L.length+1) nm1).new.length+1)=ver+1+(Xcd R t.kids (deep+1) (L.length+1) nm1).new.length:=by omega
   exact⟨⟨by simp[hz],by rw[if_pos hz]⟩,by rw[ev],by rw[ev]⟩
theorem Wvy {S:Sx} {k:List MI} {fr:List V} {a b c:Ch} {l:List Ch} (h:∀ a' b' c':Ch,a'=a->b'=b->c'=c->G S k ⟨fr,a'::b'::c'::l⟩):G S k ⟨fr,a::b::c::l⟩:=h a b c rfl rfl rfl
abbrev zTr:List D:=[D.int .i64 0,D.str ⟨#[]⟩,D.int .i64 0,D.int .i64 0,D.str ⟨#[]⟩,D.sl [],D.sl []]
mutual
def Xgf:Tr->List Tr
 | .mk k n x keys kids=>.mk k n x keys kids::Ygm kids
def Ygm:List Tr->List Tr
 | []=>[]
 | t::l=>Xgf t++Ygm l
end
theorem Xzm:∀ l:List Tr,Ygm l=l.flatMap Xgf
 | []=>rfl
 | t::l=>by rw[Ygm,Xzm l];rfl
theorem Xqh (t:Tr):Xgf t=t::t.kids.flatMap Xgf:=by
 cases t with
 | mk k n x keys kids=>rw[Xgf,Xzm];rfl
def Xja (t:Tr):Bool:=(t.k != 3) && !decide (t.name=⟨#[]⟩)
def Xcc (l:List Tr):List ByteArray:=(l.filter Xja).map Tr.name
def Xm5 (t:Tr):List ByteArray:=Xcc (Xgf t)
abbrev Xzn (l:List ByteArray):List (List D):=l.map fun s=>[.str s]
theorem Xsx (l:List Tr) (x:Tr):Xcc (l++[x])=Xcc l++if Xja x then [x.name] else []:=by
 unfold Xcc
 rw[List.filter_append,List.map_append]
 cases h:Xja x <;> simp[List.filter,h]
theorem Xuy (l:List Tr):(Xcc l).length<=l.length:=by
 unfold Xcc;rw[List.length_map];exact List.length_filter_le _ _
theorem X1i (l:List Tr):l.length<=(l.flatMap Xgf).length:=by
 induction l with
 | nil=>simp
 | cons t l ih=>rw[List.flatMap_cons,Xqh];simp only[List.length_cons,List.cons_append,List.length_append];omega
theorem X1j (l:List Tr):(l.reverse.flatMap Xgf).length=(l.flatMap Xgf).length:=by
 induction l with
 | nil=>rfl
 | cons t l ih=>simp only[List.reverse_cons,List.flatMap_append,List.flatMap_cons,List.flatMap_nil,List.append_nil,List.length_append,ih];omega
theorem Ygn (t:Tr):Xao QP gp 34 [t.v] (.one (.d (.fn (.func 61) [.bx t.dd]))):=by
 refine Wl0 ?_
 simp only[go_sem]
 repeat' first|refine Kn rfl ?_|((first|refine Kw ?_|refine Kv ?_);simp only[go_sem])|refine Kf ?_|apply Kp<;>intro _
theorem Xoq (l:List Tr):Xao QP gp 62 [.one (.d (.sl (trs l)))] (.one (.d (.fn (.func 87) [.bx [.sl (trs l)]]))):=by
 refine Wol ?_
 simp only[go_sem]
 repeat' first|refine Kn rfl ?_|((first|refine Kw ?_|refine Kv ?_);simp only[go_sem])|refine Kf ?_|apply Kp<;>intro _
theorem Wf6 (t:Tr) (hf:(Xgf t).length<=1000000):Xao QP gp 13 [t.v] (.one (.d (.sl (Xzn (Xm5 t))))):=by
 refine Wkk ?_
 simp only[go_sem]
 refine Xni ?_
 refine Xop rfl fun K hK=>?_
 repeat' first|refine Kn rfl ?_|((first|refine Ka ?_|refine Kv ?_);simp only[Xf4,go_sem])|refine Kf ?_|(apply Kp<;>intro _<;>try (exfalso;omega))
 subst hK
 refine Xni ?_
 refine Xop rfl fun K hK=>?_
 repeat' first|refine Kn rfl ?_|((first|refine Ka ?_|refine Kv ?_);simp only[Xf4,go_sem])|refine Kf ?_|(apply Kp<;>intro _<;>try (exfalso;omega))
 subst hK
 refine Xf3 0 0 1 (by decide) rfl rfl ?_
 simp only[go_sem]
 repeat' first|refine Kn rfl ?_|((first|refine Ka ?_|refine Kv ?_);simp only[Xf4,go_sem])|refine Kf ?_|refine⟨_,Ygn t,Kg ?_⟩|refine⟨_,⟨Ygn t,rfl⟩,Kg ?_⟩|(apply Kp<;>intro _<;>try (exfalso;omega))
 refine Yzw (f2:=61) (caps:=[.one (.d (.bx t.dd))]) (fun pd own'=>pd=none/\∃ rest,own'=.cells [.own 1 (Xm5 t).length]::.row 1 (Xm5 t).length (Xzn (Xm5 t))::rest) rfl ?_ Woh ?_ ?_ ?_
 ·intro y;simp only[go_sem]
 ·rintro b rc hps ⟨hs,hta,htb⟩
  refine Y4a ?_
  simp only[go_sem]
  repeat' first|refine Kn rfl ?_|((first|refine Ka ?_|refine Kv ?_);simp only[Xmb,Xmc,Xia,go_sem])|refine Kf ?_|(apply Kp<;>intro _<;>try (exfalso;omega))
  show G _ _ ⟨_,[_,_,_,.row 7 0 [t.dd],_]⟩
  have e0:[t.dd]=trs [t]:=by simp[trs,Tr.ds_eq]
  rw[e0]
  refine Kt (fr 38 [(0,.one (.d (.raw (.func (.yield b) #[] #[])))),(1,.one (.d (.bx t.dd))),(3,.one (.ptr 4 0))]) ?_
  refine Km (fun mz sz=>∃ (st vis:List Tr) (v:Nat),mz=(st.flatMap Xgf).length/\(Xgf t=vis++st.reverse.flatMap Xgf)/\sz=⟨fr 38 [(0,.one (.d (.raw (.func (.yield b) #[] #[])))),(1,.one (.d (.bx t.dd))),(3,.one (.ptr 4 0))],[.cells [.own 1 (Xcc vis).length],.row 1 (Xcc vis).length (Xzn (Xcc vis)),.lp b _ rc .ready none,.row 7 v (trs st),.cells [.own 3 v]]⟩) (([t].flatMap Xgf).length) ⟨[t],[],0,rfl,by simp,rfl⟩ ?_
  rintro _ _ ⟨st,vis,v,rfl,hfl,rfl⟩
  simp only[go_sem]
  by_cases hst:st=[]
  ·subst hst
   simp only[List.reverse_nil,List.flatMap_nil,List.append_nil] at hfl
   rw[show Xcc vis=Xm5 t from by unfold Xm5;rw[hfl]]
   repeat' first|refine Kn rfl ?_|((first|refine Kw ?_|refine Kv ?_);simp only[Xmb,Xmc,Xia,go_sem])|refine Kf ?_|(apply Kp<;>intro _<;>try (exfalso;omega))
   exact⟨.ready,none,rfl,by simp,rfl,_,rfl⟩
  ·obtain⟨st,x,rfl⟩:∃ st' x,st=st'++[x]:=⟨_,_,(List.dropLast_concat_getLast hst).symm⟩
   have hpos:0 < (st++[x]).length:=by simp
   have hq:((st++[x]).length:Int) - 1=(st.length:Int):=by simp
   have hfl2:Xgf t=vis++x::((st++x.kids.reverse).reverse.flatMap Xgf):=by rw[hfl];simp[Xqh x]
   have hlen:=congrArg List.length hfl2
   simp only[List.length_append,List.length_cons] at hlen
   have hsl:=X1i ((st++x.kids.reverse).reverse)
   simp only[List.length_append,List.length_reverse] at hsl
   have hnl:=Xuy vis
   have hik:inK .i64 (st.length:Int):=by simp[inK,IntKind.min,IntKind.max,IntKind.signed,IntKind.bits];omega
   have hlt:st.length < (trs (st++[x])).length:=by simp
   have hlt2:st.length < (st++[x]).length:=by simp
   have hxa:(trs (st++[x]))[st.length]?=some x.dd:=by rw[<- x.ds_eq];simp
   repeat' first|refine Kn rfl ?_|((first|refine Ka ?_|refine Kv ?_);simp only[Xmb,Xmc,Xia,hq,go_sem])|refine Kf ?_|refine⟨hik,?_⟩|refine⟨Kq _,hlt,?_⟩|refine⟨Kq _,hlt2,?_⟩|refine⟨_,⟨hxa,of_decide_eq_true rfl⟩,Kg ?_⟩|refine⟨0,st.length,⟨rfl,rfl,Nat.zero_le _,Nat.le_of_lt hlt⟩,Kg ?_⟩|refine⟨0,st.length,⟨rfl,rfl,Nat.zero_le _,Nat.le_of_lt hlt2⟩,Kg ?_⟩|(apply Kp<;>intro _<;>try (exfalso;omega))
   have htk:List.take st.length (trs (st++[x]))=trs st:=by simp[trs]
   rw[htk]
   refine⟨[.cells [.own 1 (Xcc (vis++[x])).length],.row 1 (Xcc (vis++[x])).length (Xzn (Xcc (vis++[x]))),.lp b _ rc .ready none,.row 7 (v+1) (trs st),.cells [.own 3 (v+1)],.cells x.as,.cells x.as],true,by simp,⟨2,_,rc,hs,_,_,[.cells [.own 1 (Xcc (vis++[x])).length],.row 1 (Xcc (vis++[x])).length (Xzn (Xcc (vis++[x]))),.dead,.row 7 (v+1) (trs st),.cells [.own 3 (v+1)],.cells x.as,.cells x.as],none,rfl,by rw[<- Array.length_toList,hps];rfl,hta,htb,?_,rfl,rfl⟩,Kg ?_⟩
   ·rw[hps]
    simp only[go_sem]
    repeat' first|refine Kn rfl ?_|((first|refine Ka ?_|refine Kv ?_);simp only[Xf4,go_sem])|refine Kf ?_|(apply Kp<;>intro _<;>try (exfalso;omega))
    refine Xfz ⟨rfl,?_⟩
    have hvis:=Xsx vis x
    have hn1:((Xcc vis).length+1)*16<=140737488355328:=by omega
    have hn2:(Xcc vis).length+1 < Xad:=by unfold Xad;omega
    by_cases hb1:x.k=3
    ·have hk1:(x.k != 3)=false:=by simp[hb1]
     have hb:Xja x=false:=by simp[Xja,hb1]
     rw[hb] at hvis
     simp only[Bool.false_eq_true,if_false,List.append_nil] at hvis
     rw[hvis]
     repeat' first|refine Kn rfl ?_|((first|refine Ka ?_|refine Kv ?_);simp only[Xf4,hk1,go_sem])|refine Kf ?_|(apply Kp<;>intro _<;>try (exfalso;omega))
     exact Xfz ⟨⟨rfl,rfl⟩,rfl⟩
    ·have hk1:(x.k != 3)=true:=by simp[hb1]
     by_cases hb2:x.name=⟨#[]⟩
     ·have hk2:decide (x.name=⟨#[]⟩)=true:=by simp[hb2]
      have hb:Xja x=false:=by simp[Xja,hb2]
      rw[hb] at hvis
      simp only[Bool.false_eq_true,if_false,List.append_nil] at hvis
      rw[hvis]
      repeat' first|refine Kn rfl ?_|((first|refine Ka ?_|refine Kv ?_);simp only[Xf4,hk1,hk2,go_sem])|refine Kf ?_|(apply Kp<;>intro _<;>try (exfalso;omega))
      exact Xfz ⟨⟨rfl,rfl⟩,rfl⟩
     ·have hk2:decide (x.name=⟨#[]⟩)=false:=by simp[hb2]
      have hb:Xja x=true:=by simp[Xja,hb1,hb2]
      rw[hb] at hvis
      simp only[if_true] at hvis
      rw[hvis]
      repeat' first|refine Kn rfl ?_|((first|refine Ka ?_|refine Kv ?_);simp only[Xf4,hk1,hk2,go_sem])|refine Kf ?_|refine⟨by simp,hn1,hn2,?_⟩|(apply Kp<;>intro _<;>try (exfalso;omega))
      exact Xfz ⟨⟨rfl,rfl⟩,by simp[Xzn]⟩
   ·simp only[go_sem]
    repeat' first|refine Kn rfl ?_|((first|refine Kw ?_|refine Kv ?_);simp only[Xmb,Xmc,Xia,go_sem])|refine Kf ?_|refine⟨_,Xoq x.kids,Kg ?_⟩|refine⟨_,⟨Xoq x.kids,rfl⟩,Kg ?_⟩|(apply Kp<;>intro _<;>try (exfalso;omega))
    refine Wvy fun C0 C1 LP0 hC0 hC1 hLP=>?_
    refine Yzw (f2:=87) (caps:=[.one (.d (.bx [.sl (trs x.kids)]))]) (fun pd own'=>pd=none/\∃ rest,own'=C0::C1::LP0::.row 7 (v+1+x.kids.length) (trs (st++x.kids.reverse))::.cells [.own 3 (v+1+x.kids.length)]::rest) rfl ?_ Wp2 ?_ ?_ ?_
    ·intro y;simp only[go_sem]
    ·rintro b2 rc2 hps2 ⟨hs2,hta2,htb2⟩
     refine Y4n ?_
     simp only[go_sem]
     have hkl:x.kids.length<=1000000:=by omega
     have hik2:inK .i64 ((x.kids.length:Int) - 1):=by simp[inK,IntKind.min,IntKind.max,IntKind.signed,IntKind.bits];omega
     repeat' first|refine Kn rfl ?_|((first|refine Ka ?_|refine Kv ?_);simp only[go_sem])|refine Kf ?_|refine⟨hik2,?_⟩|(apply Kp<;>intro _<;>try (exfalso;omega))
     rw[show trs st=trs (st++x.kids.reverse.take 0) from by simp]
     refine Kt (fr 19 [(0,.one (.d (.raw (.func (.yield b2) #[] #[])))),(1,.one (.d (.bx [.sl (trs x.kids)]))),(3,.one (.d (.int .i64 ((x.kids.length:Int) - 1))))]) ?_
     rw[show (x.kids.length:Int) - 1=(x.kids.length:Int) - 1 - ((0:Nat):Int) from by simp]
     refine Km (fun mz sz=>∃ i:Nat,i<=x.kids.length/\mz=x.kids.length - i/\sz=⟨fr 19 [(0,.one (.d (.raw (.func (.yield b2) #[] #[])))),(1,.one (.d (.bx [.sl (trs x.kids)]))),(3,.one (.d (.int .i64 ((x.kids.length:Int) - 1 - (i:Int)))))],[C0,C1,LP0,.row 7 (v+1+i) (trs (st++x.kids.reverse.take i)),.cells [.own 3 (v+1+i)],.cells x.as,.cells x.as,.dead,.lp b2 _ rc2 .ready none]⟩) x.kids.length ⟨0,Nat.zero_le _,rfl,rfl⟩ ?_
     rintro _ _ ⟨i,hi,rfl,rfl⟩
     simp only[go_sem]
     by_cases hil:i < x.kids.length
     ·obtain⟨c,hc⟩:=Xaq (l:=x.kids) (i:=x.kids.length - 1 - i) (by omega)
      have hq2:(x.kids.length:Int) - 1 - (i:Int)=((x.kids.length - 1 - i:Nat):Int):=by omega
      have hik3:inK .i64 (((x.kids.length - 1 - i:Nat):Int) - 1):=by simp[inK,IntKind.min,IntKind.max,IntKind.signed,IntKind.bits];omega
      have hq3:((x.kids.length - 1 - i:Nat):Int) - 1=(x.kids.length:Int) - 1 - ((i+1:Nat):Int):=by omega
      have hct:=Ywu hc
      have hnext:x.kids.reverse.take (i+1)=x.kids.reverse.take i++[c]:=by
       rw[List.take_succ,List.getElem?_reverse hil,hc];rfl
      have htl:(st++x.kids.reverse.take i).length<=1000000:=by simp;omega
      have ha1:((st++x.kids.reverse.take i).length+1)*104<=140737488355328:=by omega
      have ha2:(st++x.kids.reverse.take i).length+1 < Xad:=by unfold Xad;omega
      have hlt4:(st++x.kids.reverse.take i).length < (trs (st++x.kids.reverse.take i)++[zTr]).length:=by simp
      have hset:(trs (st++x.kids.reverse.take i)++[zTr]).set (st++x.kids.reverse.take i).length c.dd=trs (st++(x.kids.reverse.take i++[c])):=by
       rw[List.set_append_right _ _ (by simp),<- c.ds_eq,<- List.append_assoc]
       simp[trs]
      have hz1:(trs (st++x.kids.reverse.take i)++[zTr])[(st++x.kids.reverse.take i).length]?=some zTr:=by simp[trs]
      repeat' first|refine Kn rfl ?_|((first|refine Kw ?_|refine Kv ?_);simp only[hq2,go_sem])|refine Kf ?_|refine⟨_,⟨Kq _,hct,rfl⟩,Kg ?_⟩|(apply Kp<;>intro _<;>try (exfalso;omega))
      refine⟨[C0,C1,LP0,.row 7 (v+1+(i+1)) (trs (st++x.kids.reverse.take (i+1))),.cells [.own 3 (v+1+(i+1))],.cells x.as,.cells x.as,.dead,.lp b2 _ rc2 .ready none,.cells c.as],true,by simp,⟨8,_,rc2,hs2,_,_,[C0,C1,LP0,.row 7 (v+1+(i+1)) (trs (st++x.kids.reverse.take (i+1))),.cells [.own 3 (v+1+(i+1))],.cells x.as,.cells x.as,.dead,.dead,.cells c.as],none,rfl,by rw[<- Array.length_toList,hps2];rfl,hta2,htb2,?_,rfl,rfl⟩,Kg ?_⟩
      ·rw[hps2]
       simp only[go_sem]
       repeat' first|refine Kn rfl ?_|((first|refine Ka ?_|refine Kv ?_);simp only[Xmb,Xmc,Xia,go_sem])|refine Kf ?_|(apply Kp<;>intro _<;>try (exfalso;omega))
       refine Xfz ⟨rfl,?_⟩
       rw[hnext]
       repeat' first|refine Kn rfl ?_|((first|refine Ka ?_|refine Kv ?_);simp only[Xmb,Xmc,Xia,go_sem])|refine Kf ?_|refine⟨by simp,ha1,ha2,?_⟩|refine⟨_,⟨hz1,of_decide_eq_true rfl⟩,Kg ?_⟩|refine⟨Kq _,hlt4,?_⟩|(apply Kp<;>intro _<;>try (exfalso;omega))
       exact Xfz ⟨⟨rfl,rfl⟩,by rw[<- hset];rfl⟩
      ·simp only[go_sem]
       repeat' first|refine Kn rfl ?_|((first|refine Ka ?_|refine Kv ?_);simp only[go_sem])|refine Kf ?_|refine⟨hik3,?_⟩|(apply Kp<;>intro _<;>try (exfalso;omega))
       rw[hq3]
       refine Kt (fr 19 [(0,.one (.d (.raw (.func (.yield b2) #[] #[])))),(1,.one (.d (.bx [.sl (trs x.kids)]))),(3,.one (.d (.int .i64 ((x.kids.length:Int) - 1 - ((i+1:Nat):Int)))))]) ?_
       subst hC0 hC1 hLP
       refine Kk 9 (by simp only[List.length_nil,List.length_cons];decide) (by simp only[go_sem]) (by simp only[List.take_succ_cons,List.take_zero,List.all_cons,List.all_nil];simp only[go_sem]) ?_
       simp only[go_sem]
       exact Kl ⟨x.kids.length - (i+1),by omega,i+1,by omega,rfl,rfl⟩
     ·obtain rfl:x.kids.length=i:=by omega
      rw[show x.kids.reverse.take x.kids.length=x.kids.reverse from List.take_of_length_le (by simp)]
      repeat' first|refine Kn rfl ?_|((first|refine Kw ?_|refine Kv ?_);simp only[go_sem])|refine Kf ?_|(apply Kp<;>intro _<;>try (exfalso;omega))
      exact⟨.ready,none,rfl,by simp,rfl,_,rfl⟩
    ·rintro own' ⟨_,rest,rfl⟩
     subst hC0 hC1 hLP
     simp only[go_sem]
     repeat refine Ko rfl ?_
     refine Kt (fr 38 [(0,.one (.d (.raw (.func (.yield b) #[] #[])))),(1,.one (.d (.bx t.dd))),(3,.one (.ptr 4 0))]) ?_
     refine Kk 5 (by simp only[List.length_nil,List.length_cons];omega) (by simp only[go_sem]) (by simp only[go_sem]) ?_
     simp only[go_sem]
     refine Kl ⟨((st++x.kids.reverse).flatMap Xgf).length,?_,st++x.kids.reverse,vis++[x],v+1+x.kids.length,rfl,?_,rfl⟩
     ·simp[Xqh x,X1j]
     ·rw[hfl2];simp
    ·rintro _ _ ⟨h,_⟩;cases h
 ·rintro own' ⟨_,rest,rfl⟩
  simp only[go_sem]
  repeat refine Ko rfl ?_
  refine Kt (fr 22 [(3,.one (.ptr 0 0))]) ?_
  refine Kk 2 (by simp only[List.length_nil,List.length_cons];omega) (by simp only[go_sem]) (by simp only[go_sem]) ?_
  refine Xa0 1 ?_
  simp only[go_sem]
  repeat' first|refine Kn rfl ?_|((first|refine Kw ?_|refine Kv ?_);simp only[Xf4,go_sem])|refine Kf ?_|(apply Kp<;>intro _<;>try (exfalso;omega))
  all_goals trace_state
 ·rintro _ _ ⟨h,_⟩;cases h
variable {gp:Xaj} {ua:Addr}
def Xh1 (R:ByteArray->Bool) (t:Tr):Gr × Int:=if (Xch R t 1 0 []).e=0 then (⟨0,(Xch R t 1 0 []).new⟩,0) else (⟨0,[]⟩,(Xch R t 1 0 []).e)
theorem Xqi (h:Env18 gp ua) (t:Tr) (hs:smT t):Xao QP gp 12 [t.v] (.tup [(Xh1 Xag t).1.v,vi (Xh1 Xag t).2]):=by
 have hlay:=W07 (gp:=gp) Xag (Xi5 h.e.u) _ t (Nat.le_refl _) hs 1 0 0 [] [] (by omega) (by simp)
 unfold Yxu at hlay
 unfold Xh1
 simp only[List.length_nil,Nat.zero_add,List.nil_append] at hlay
 generalize Xch Xag t 1 0 []=r at *
 refine Wkc ?_
 simp only[go_sem]
 refine Xni ?_
 refine Xop rfl fun K hK=>?_
 repeat' first|refine Kn rfl ?_|((first|refine Ka ?_|refine Kv ?_);simp only[Xl6,go_sem])|refine Kf ?_|(apply Kp<;>intro _<;>try (exfalso;omega))
 subst hK
 refine Xni ?_
 refine Xop rfl fun K hK=>?_
 repeat' first|refine Kn rfl ?_|((first|refine Ka ?_|refine Kv ?_);simp only[Xl6,go_sem])|refine Kf ?_|(apply Kp<;>intro _<;>try (exfalso;omega))
 subst hK
 refine Xf3 2 1 6 (by decide) rfl rfl ?_
 refine Yzx 1 ?_
 refine Xt3 3 4 (sz:=6) (kz:=1) (ver:=0) [] rfl rfl ?_
 simp only[go_sem]
 repeat' first|refine Kn rfl ?_|((first|refine Ka ?_|refine Kv ?_);simp only[go_sem])|refine Kf ?_|(apply Kp<;>intro _<;>try (exfalso;omega))
 refine Or.inr (Or.inr ⟨[2,3,1],.tup [vi (r.is.headD 0),Xtb r.e],[Xul 0 r.new.length,Xum r.new r.new.length,.map (mpS r.nm)],(by simp only[Xa1,Xds,rnV,rnA,Xdy,rn0,Xdx,Xb1,Xdt,rnC,Xah,List.isEmpty_nil,reduceCtorEq,↓reduceIte,Qa,Qb,Qc,Qd,Qe,Qf,Qg,Qh,Qi,Qj,Qk,Ql,Qm,Qn,Qo,Qp,Qq,Qr];simp only[go_sem];exact⟨Yry,hlay⟩),Kg ?_⟩)
 simp only[bkO,bkC,Xbu]
 simp only[go_sem]
 by_cases he:r.e=0
 ·rw[if_pos he]
  repeat' first|refine Kn rfl ?_|((first|refine Ka ?_|refine Kv ?_);simp only[if_pos he,go_sem])|refine Kf ?_|(apply Kp<;>intro _<;>try (exfalso;omega))
  refine Yzz 3 rfl ?_
  refine Xa0 3 ?_
  simp only[go_sem]
  repeat' first|refine Kn rfl ?_|((first|refine Kw ?_|refine Kv ?_);simp only[Xl6,go_sem])|refine Kf ?_|(apply Kp<;>intro _<;>try (exfalso;omega))
  rw[List.map_map];rfl
 ·rw[if_neg he]
  have c1:=Wvt h r.e he
  rw[show Xtb r.e=.one (.d (.ifc 106 true [.int .i64 r.e])) from by rw[Xtb,if_neg he]] at c1
  repeat' first|refine Kn rfl ?_|((first|refine Kw ?_|refine Kv ?_);simp only[Xl6,if_neg he,go_sem])|refine Kf ?_|refine⟨_,c1,Kg ?_⟩|refine⟨_,⟨c1,rfl⟩,Kg ?_⟩|(apply Kp<;>intro _<;>try (exfalso;omega))
end Go.Fw.L07
