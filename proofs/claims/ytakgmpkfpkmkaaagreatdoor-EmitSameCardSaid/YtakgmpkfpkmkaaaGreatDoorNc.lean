/- Chapter 13: a node's items. -/
import Derived.Test.YtakgmpkfpkmkaaaGreatDoorNb
import Derived.Test.YtakgmpkfpkmkaaaGreatDoorEb
import Derived.Test.YtakgmpkfpkmkaaaGreatDoorVy
set_option linter.all false
namespace Go.Fw.L07
open Go Go.Fw
open Go.Fw.Sh renaming intro->Kg
open Go.Fw renaming Xkl->Ka,Xfi->Kb,Xko->Kv,Xfj->Ke,Xfl->Kf,Xkn->Kh,Xkm->Ki,Yq4->Kj,Xdx->Kt,Xkg->Kk,Xf0->Ku,Xdw->Kl,Xfz->Km,Gx->Kn
open Int renaming natCast_nonneg->Kq
open List renaming getElem?_eq_some_iff->Kr
open And renaming intro->Kp
open Go.Proofs.Tryz renaming prog->QP
open Nat renaming reduceAdd->Qa,reduceSub->Qb,reduceMul->Qc,reduceLeDiff->Qd,reduceLT->Qe,reduceEqDiff->Qf
open Int renaming reduceToNat->Qg,reduceLT->Qh,reduceLE->Qi,reduceGT->Qj,reduceGE->Qk,reduceEq->Ql,reduceNe->Qm,reduceBEq->Qn,reduceBNe->Qo,reduceAdd->Qp,reduceSub->Qq,reduceNeg->Qr
open Go.Fw.V.one renaming injEq->Qs
open Go.Fw.V.agg renaming injEq->Qt
open Go.Fw.V.tup renaming injEq->Qu
open Go.Fw.A.d renaming injEq->Qv
open Go.Fw.D.bool renaming injEq->Qw
open Go.Fw.D.int renaming injEq->Qx
open Go.Fw.D.str renaming injEq->Qy
open Go.Fw.D.sl renaming injEq->Qz
open List.cons renaming injEq->Za
set_option maxRecDepth 4000
variable {gp:Heap}
abbrev mpC (met:List Int):Ch:=.map (Xd6 met)
abbrev lpR (l:Nat) (rc:Loop):Ch:=.lp l frP rc .ready none
abbrev lpD (l:Nat) (rc:Loop):Ch:=.lp l frP rc .done (some (.exit 0))
def ItR (g:Gr) (l:Nat) (rc:Loop) (met':List Int) (out new:List (List UInt8)) (r:V) (post:List Ch):Prop :=
 (Xah (out++new)<=8000->r=vb true/\post=stC (mpC met') g (out++new) (lpR l rc) [])/\(8000 < Xah (out++new)->r=vb false/\post=stC .dead g (Xb7 out new) (lpD l rc) [])
theorem Xg7 {α:Type} {l:List α} {j:Nat} {x:α} (h:l[j]?=some x):l.take (j+1)=l.take j++[x]:=(Xca h).symm
theorem X0a (n:Nat):∀ (hs:List (List UInt8)) (q:List Tr) (j:Nat) (h:List UInt8) (t:Tr),hs[j]?=some h->q[j]?=some t->lnK n (hs.take (j+1)) (q.take (j+1))=lnK n (hs.take j) (q.take j)++lnT n h t
 | h0::hs,t0::q,0,h,t,e1,e2=>by
  simp at e1 e2;subst e1 e2
  simp only[List.take_succ_cons,List.take_zero]
  simp[Xcf,Xb6]
 | h0::hs,t0::q,j+1,h,t,e1,e2=>by
  simp only[List.take_succ_cons]
  rw[Xcf,Xcf,X0a n hs q j h t (by simpa using e1) (by simpa using e2),List.append_assoc]
 | [],_,_,_,_,e,_=>by simp at e
 | _::_,[],_,_,_,_,e=>by simp at e
theorem Yh2 (n:Nat) (hs:List (List UInt8)) (q:List Tr) (j:Nat):lnK n hs q=lnK n (hs.take j) (q.take j)++lnK n (hs.drop j) (q.drop j):=by
 induction j generalizing hs q with
 | zero=>simp[Xb6]
 | succ j ih =>
  cases hs with
  | nil=>cases q <;> simp[lnK]
  | cons h hs =>
   cases q with
   | nil=>simp[Xb6]
   | cons t q=>simp only[List.take_succ_cons,List.drop_succ_cons];rw[Xcf,Xcf,ih hs q,List.append_assoc]
theorem X15 {α β:Type} (f:α->List β) {l:List α} {x:α} (h:x∈l):(f x).length<=(l.flatMap f).length:=by
 induction l with
 | nil=>cases h
 | cons y l ih =>
  rw[List.flatMap_cons,List.length_append]
  rcases List.mem_cons.1 h with rfl|h
  ·omega
  ·have:=ih h;omega
theorem Xey {g:Gr} (hg:Tdy g) {i:Nat} {x:Nd} (hx:g.l[i]?=some x) (hk:x.kids≠[]):(Xap x.k x.keys x.kids.length).length=x.kids.length:=by
 rcases Xcr hg hx with ⟨_,h1,_⟩|⟨h0,_⟩|⟨h0,h1,_⟩
 ·exact absurd h1 hk
 ·unfold Xap;rw[if_pos h0];simp
 ·unfold Xap;rw[if_neg (by omega)];simp[h1]
theorem Xuo {g:Gr} (hg:Tdy g) (hst:∀ x∈g.l,x.short) {i:Nat} {x:Nd} (hx:g.l[i]?=some x):∀ h∈Xap x.k x.keys x.kids.length,h.length<=1700001:=by
 intro h hm
 rcases Xcr hg hx with ⟨h0,_,h2,_⟩|⟨h0,_⟩|⟨h0,_,h2,_⟩
 ·unfold Xap at hm;rw[if_neg (by omega),h2] at hm;simp at hm
 ·unfold Xap at hm;rw[if_pos h0,List.mem_replicate] at hm;rw[hm.2];simp
 ·unfold Xap at hm
  rw[if_neg (by omega)] at hm
  obtain⟨y,hy,rfl⟩:=List.mem_map.1 hm
  have:=Xmx (List.all_eq_true.1 h2 y hy) ((hst x (List.mem_of_getElem? hx)).2.2.2 y hy)
  simp;omega
theorem Xog {g:Gr} (hg:Tdy g) (hst:∀ x∈g.l,x.short) {i:Nat} {x:Nd} (hx:g.l[i]?=some x):(Xex x).length<=1700000:=by
 rcases Xcr hg hx with ⟨h0,_,_,h2⟩|⟨h0,_⟩|⟨h0,_⟩
 ·have:=Xmx h2 (hst x (List.mem_of_getElem? hx)).2.2.1
  show (if x.k=0 then scB x.x else if x.k=1 then _ else _:List UInt8).length<=_
  rw[if_pos h0];exact this
 ·show (if x.k=0 then scB x.x else if x.k=1 then _ else _:List UInt8).length<=_
  rw[if_neg (by omega),if_pos h0];simp
 ·show (if x.k=0 then scB x.x else if x.k=1 then _ else _:List UInt8).length<=_
  rw[if_neg (by omega),if_neg (by omega)];simp
theorem Xhn (n:Int) (h:n<=1000):(Xao n).data.toList.length<=22:=by
 by_cases h0:0 < n
 ·rw[Xev h0]
  have:=Lib.itoa_length_le n (by omega) (by omega)
  simp only[List.length_cons];omega
 ·rw[Xd4 h0];simp
theorem Wum (d:Nat) (h:2<=d):((2*(d - 2):Nat):Int)+2=((2*(d+1 - 2):Nat):Int):=by omega
set_option maxHeartbeats 4000000 in
theorem Wgk (h:Env13 gp) {g:Gr} (hg:Tdy g) (hst:∀ x∈g.l,x.short) {l:Nat} {rc:Loop} (hR:Xp6 gp g l rc):∀ (N:Nat) {d i:Nat} {x:Nd} {met met':List Int} {q:List Tr} {out:List (List UInt8)},
  (q.flatMap Xiw).length<=N->g.l[i]?=some x->x.kids≠[]->EmW g d x.kids met q met'->2<=d->d<=24->Xah out<=8000 ->
  Tri QP gp 85 [.one (.ptr 1 0),yV l,vi i,vi ((2*(d - 2):Nat):Int)] (stC (mpC met) g out (lpR l rc) []) (ItR g l rc met' out (lnK (2*(d - 2)) (Xap x.k x.keys x.kids.length) q)):=by
 intro N
 induction N with
 | zero =>
  intro d i x met met' q out hN hx hk hem
  exfalso
  have h1:=Xuk q
  have h2:=hem.len
  have:0 < x.kids.length:=by cases hc:x.kids with|nil=>exact absurd hc hk|cons=>simp
  omega
 | succ N ih =>
 intro d i x met met' q out hN hx hk hem hd2 hd24 hout
 have c1:=Wgj h hg hst (Xgc g) met hx hk
 have c2:=kids (gp:=gp) g i hg.good.s
 rw[show atE g.l i=0 from by unfold atE;rw[if_pos (by have:=(Kr.1 hx).1;omega)],Xgs hx,hg.kids x (List.mem_of_getElem? hx)] at c2
 have hhl:=Xey hg hx hk
 have hhs:=Xuo hg hst hx
 have hsx:=hg.good.s x (List.mem_of_getElem? hx)
 have hql:=hem.len
 generalize hhd:Xap x.k x.keys x.kids.length=hd at *
 refine Y4l ?_
 simp only[go_sem]
 repeat' first|refine Kn rfl ?_|((first|refine Ka ?_|refine Kb ?_|refine Kv ?_|refine Ke ?_);simp only[go_sem])|refine Kf ?_|refine Kg ?_|(apply Kp<;>intro _<;>try (exfalso;omega))
 refine Or.inr (Or.inr ⟨[1,0],.one (.d (.sl (Xp5 hd))),[prC g (Xgc g),.map (Xd6 met)],(by simp only[Xaw,Xcv,rnV,rnA,Xc1,rn0,Xc0,Xbz,Xcx,rnC,Xaj,List.isEmpty_nil,Xag,reduceCtorEq,↓reduceIte,Qa,Qb,Qc,Qd,Qe,Qf,Qg,Qh,Qi,Qj,Qk,Ql,Qm,Qn,Qo,Qp,Qq,Qr];simp only[go_sem];exact⟨Y5v,c1⟩),Kg ?_⟩)
 simp only[bkO,bkC,Xag]
 simp only[go_sem]
 repeat' first|refine Kn rfl ?_|((first|refine Ka ?_|refine Kb ?_|refine Kv ?_|refine Ke ?_);simp only[go_sem])|refine Kf ?_|refine Kg ?_|refine⟨_,c2,Kg ?_⟩|refine⟨_,⟨c2,rfl⟩,Kg ?_⟩|(apply Kp<;>intro _<;>try (exfalso;omega))
 have hin:=Wum d hd2
 refine Kt (fr 72 [(0,.one (.ptr 1 0)),(1,yV l),(3,vi ((2*(d - 2):Nat):Int)),(8,vb false),(9,.one (.d (.sl (Xp5 hd)))),(30,.one (.d (.sl (Xaf x.kids)))),(31,vi x.kids.length),(32,vi ((0:Nat):Int))]) ?_
 refine Kk 7 (by simp only[List.length_nil,List.length_cons];decide) (by simp only[go_sem]) (by simp only[List.take_succ_cons,List.take_zero,List.all_cons,List.all_nil,Xag];simp only[Xgv,go_sem]) ?_
 simp only[go_sem]
 refine Km (fun mz sz=>∃ (j:Nat) (mj:List Int),j<=x.kids.length/\mz=x.kids.length - j/\EmW g d (x.kids.drop j) mj (q.drop j) met'/\Xah (out++lnK (2*(d - 2)) (hd.take j) (q.take j))<=8000 /\
  sz=⟨fr 72 [(0,.one (.ptr 1 0)),(1,yV l),(3,vi ((2*(d - 2):Nat):Int)),(8,vb false),(9,.one (.d (.sl (Xp5 hd)))),(30,.one (.d (.sl (Xaf x.kids)))),(31,vi x.kids.length),(32,vi (j:Int))],stC (mpC mj) g (out++lnK (2*(d - 2)) (hd.take j) (q.take j)) (lpR l rc) []⟩) _ ⟨0,met,Nat.zero_le _,rfl,hem,by rw[List.take_zero,List.take_zero,Xb6,List.append_nil];exact hout,by rw[List.take_zero,List.take_zero,Xb6,List.append_nil];rfl⟩ ?_
 rintro _ _ ⟨j,mj,hj,rfl,hemj,hoj,rfl⟩
 simp only[go_sem]
 by_cases hjl:j < x.kids.length
 case neg =>
  obtain rfl:x.kids.length=j:=by omega
  rw[show hd.take x.kids.length=hd from List.take_of_length_le (by omega),show q.take x.kids.length=q from List.take_of_length_le (by omega)] at hoj ⊢
  rw[List.drop_of_length_le (Nat.le_refl _)] at hemj
  rw[show q.drop x.kids.length=[] from List.drop_of_length_le (by omega)] at hemj
  cases hemj
  repeat' first|refine Kn rfl ?_|((first|refine Ka ?_|refine Kb ?_|refine Kv ?_|refine Ke ?_);simp only[go_sem])|refine Kf ?_|refine Kg ?_|(apply Kp<;>intro _<;>try (exfalso;omega))|((first|refine Kh ?_|refine Ki rfl ?_);simp only[or_self,Qs,Qt,Qu,Qv,Qw,Qx,Qy,Qz,Za,go_sem])
  exact⟨rfl,rfl⟩
 case pos =>
  obtain⟨cj,hcj⟩:=Xal hjl
  obtain⟨hdj,hhj⟩:=Xal (l:=hd) (i:=j) (by omega)
  obtain⟨tj,htj⟩:=Xal (l:=q) (i:=j) (by omega)
  have hsn:=X0a (2*(d - 2)) hd q j hdj tj hhj htj
  have hspl:=Yh2 (2*(d - 2)) hd q (j+1)
  have e1:x.kids.drop j=cj::x.kids.drop (j+1):=by
   obtain⟨h2,rfl⟩:=Kr.1 hcj
   exact List.drop_eq_getElem_cons h2
  have e2:q.drop j=tj::q.drop (j+1):=by
   obtain⟨h2,rfl⟩:=Kr.1 htj
   exact List.drop_eq_getElem_cons h2
  rw[e1,e2] at hemj
  have hhdj:hdj.length<=1700001:=hhs hdj (List.mem_of_getElem? hhj)
  have hnew:lnK (2*(d - 2)) hd q=lnK (2*(d - 2)) (hd.take j) (q.take j)++(lnT (2*(d - 2)) hdj tj++lnK (2*(d - 2)) (hd.drop (j+1)) (q.drop (j+1))):=by
   rw[hspl,hsn,List.append_assoc]
  have hflat:(Xiw tj).length<=N+1:=by
   have h1:=hN
   obtain⟨hl2,rfl⟩:=Kr.1 htj
   have h2:=X15 Xiw (List.getElem_mem hl2)
   omega
  generalize hB:lnK (2*(d - 2)) (hd.drop (j+1)) (q.drop (j+1))=B at *
  generalize hnn:lnK (2*(d - 2)) hd q=new at *
  generalize hP:lnK (2*(d - 2)) (hd.take j) (q.take j)=P at *
  generalize hP2:lnK (2*(d - 2)) (hd.take (j+1)) (q.take (j+1))=P2 at *
  have hstop:∀ s r,lnT (2*(d - 2)) hdj tj++B=s::r->Xb7 out new=Xb7 (out++P) (s::r):=fun s r hs=>by rw[hnew,hs,Xiz out P _ hoj]
  have hsize:Xah (out++new)=Xah (out++P)+(Xah (lnT (2*(d - 2)) hdj tj)+Xah B):=by rw[hnew,<- List.append_assoc,Xcz,Xcz (lnT _ _ _)]
  have hik:inK .i64 ((j:Int)+1):=by simp[inK,IntKind.min,IntKind.max,IntKind.signed,IntKind.bits];omega
  have key:(∃ w,stB tj=32::w/\tj.kids=[]/\w.length<=1700000/\EmW g d (x.kids.drop (j+1)) mj (q.drop (j+1)) met' /\
    Tri QP gp 83 [.one (.ptr 0 0),vi cj] [prC g (Xgc g),.map (Xd6 mj)] (fun r post=>r=.one (.d (Xun (bT w)))/\post=[prC g (Xgc g),.map (Xd6 mj)])) \/
    (∃ (i':Nat) (y:Nd) (q1:List Tr) (met1:List Int),cj=(i':Int)/\g.l[i']?=some y/\y.kids≠[]/\d < 24/\EmW g (d+1) y.kids (mj++[cj]) q1 met1/\EmW g d (x.kids.drop (j+1)) met1 (q.drop (j+1)) met'/\tj=.mk y.k (Xao (anc g i')) y.x y.keys q1 /\
    Tri QP gp 83 [.one (.ptr 0 0),vi cj] [prC g (Xgc g),.map (Xd6 mj)] (fun r post=>r=.one (.d (X13 cj (Xao (anc g i'))))/\post=[prC g (Xgc g),.map (Xd6 (mj++[cj]))])):=by
   clear hR ih hsn hspl hnew hB hnn hP hP2 hstop hsize
   generalize x.kids.drop (j+1)=tl at *
   generalize q.drop (j+1)=ql at *
   cases hemj with
   | @leaf _ i' y _ _ _ _ hy hyk hrest =>
    refine .inl ⟨Xex y,?_,rfl,Xog hg hst hy,hrest,Xmz h hg hst (Xgc g) mj hy hyk⟩
    show (if y.k=3 then _ else if ([]:List Tr)=[] then _ else _)=_
    rw[if_neg (Xbj hg hy),if_pos rfl]
   | @ref _ i' y _ _ _ _ hy hyk hm ha hrest =>
    refine .inl ⟨42::(Xao (anc g i')).data.toList,?_,rfl,?_,hrest,X14 h hg mj hy hyk hm ha⟩
    ·show (if (3:Int)=3 then _ else _)=_
     rw[if_pos rfl];rfl
    ·have:=Xhn (anc g i') (Xge h hg (Kr.1 hy).1)
     simp only[List.length_cons];omega
   | @node _ i' y _ _ met1 _ q1 _ hy hyk hm hd24' h1 h2 =>
    exact .inr ⟨i',y,q1,met1,rfl,hy,hyk,hd24',h1,h2,rfl,Xm0 h hg mj hy hyk hm⟩
  rw[Xfn] at hsize
  simp only[Xfn] at hstop
  rcases key with ⟨w,hw,hwk,hwl,hrest,c3⟩|⟨i',y,q1,met1,rfl,hy,hyk,hdd,hem1,hrest,rfl,c3⟩
  ·have c4:=Yhz (gp:=gp) (bT w) (by rw[Xgd];omega)
   have c5:Does QP gp 84 [vi ((2*(d - 2):Nat):Int),vi (-1),.one (.d (.sl [[.str (bT hdj)],[.str (bT (32::w))]]))] (itV (Xew (2*(d - 2))++(hdj++stB tj)) ((2*(d - 2):Nat):Int) (-1)):=by
    have:=Xz6 (gp:=gp) (2*(d - 2)) (by omega) (-1) [bT hdj,bT (32::w)] (by simp) (by simp[bT];omega) (by simp)
    rw[hw]
    have e:([bT hdj,bT (32::w)].flatMap fun s=>s.data.toList)=hdj++32::w:=by simp[bT]
    rw[e] at this
    exact this
   rw[hwk,Xb6] at hsize
   rw[hwk,Xb6] at hstop
   generalize hs1:Xew (2*(d - 2))++(hdj++stB tj)=s1 at *
   have hs1l:s1.length<=100000000:=by rw[<- hs1,hw];simp[Xew];omega
   have hst1:Xah (out++P++[s1])=Xah (out++P)+Xah [s1]:=Xcz _ _
   have hr:=fun (S:Sx) h1 h2 E=>hR S h1 h2 (mpC mj) E (out++P) s1 ((2*(d - 2):Nat):Int) (-1) (Xag mj) hoj hs1l
   have hPn:out++P2=out++P++[s1]:=by rw[hsn,Xfn,hwk,Xb6,hs1,List.append_assoc]
   by_cases hfit:Xah (out++P++[s1])<=8000
   case' pos =>
    have hb1:decide (Xah (out++P++[s1])<=8000)=true:=decide_eq_true hfit
    have hb2:¬ Xah (out++P++[s1]) > 8000:=by omega
    simp only[hb1,if_neg hb2] at hr
   case' neg =>
    have hb1:decide (Xah (out++P++[s1])<=8000)=false:=decide_eq_false hfit
    have hb2:Xah (out++P++[s1]) > 8000:=by omega
    simp only[hb1,if_pos hb2] at hr
   all_goals
    repeat' first|refine Kn rfl ?_|((first|refine Ka ?_|refine Kb ?_|refine Kv ?_|refine Ke ?_);simp only[go_sem])|refine Kf ?_|refine Kg ?_|refine⟨_,⟨Kq _,(by first|exact Xad hcj|(rw[Int.toNat_natCast];exact Xad hcj)),rfl⟩,Kg ?_⟩|(apply Kp<;>intro _<;>try (exfalso;omega))
    refine Or.inr (Or.inr ⟨[1,0],.one (.d (Xun (bT w))),[prC g (Xgc g),.map (Xd6 mj)],(by simp only[Xaw,Xcv,rnV,rnA,Xc1,rn0,Xc0,Xbz,Xcx,rnC,Xaj,List.isEmpty_nil,Xag,reduceCtorEq,↓reduceIte,Qa,Qb,Qc,Qd,Qe,Qf,Qg,Qh,Qi,Qj,Qk,Ql,Qm,Qn,Qo,Qp,Qq,Qr];simp only[go_sem];exact⟨Xrf,c3⟩),Kg ?_⟩)
    simp only[bkO,bkC,Xag]
    simp only[go_sem]
    repeat' first|refine Kn rfl ?_|((first|refine Ka ?_|refine Kb ?_|refine Kv ?_|refine Ke ?_);simp only[go_sem])|refine Kf ?_|refine Kg ?_|refine⟨_,c5,Kg ?_⟩|refine⟨_,⟨c5,rfl⟩,Kg ?_⟩|refine⟨_,⟨Kq _,(by first|exact Xad hhj|(rw[Int.toNat_natCast];exact Xad hhj)),rfl⟩,Kg ?_⟩|refine⟨_,_,⟨W01,c4⟩,Kg ?_⟩|(apply Kp<;>intro _<;>try (exfalso;omega))
    refine⟨_,_,?_,hr _ rfl rfl _,Kg ?_⟩
    ·simp
    simp only[go_sem]
    repeat' first|refine Kn rfl ?_|((first|refine Ka ?_|refine Kb ?_|refine Kv ?_|refine Ke ?_);simp only[go_sem])|refine Kf ?_|refine Kg ?_|refine⟨hik,?_⟩|(apply Kp<;>intro _<;>try (exfalso;omega))
   · -- too many
    have hT:=hstop _ _ rfl
    simp only[Xb7,if_pos hb2] at hT
    refine Yyp 0 ?_
    simp only[go_sem]
    refine Kt (fr 72 [(8,vb false)]) ?_
    refine Kk 7 (by simp only[List.length_nil,List.length_cons];decide) (by simp only[go_sem]) (by simp only[List.take_succ_cons,List.take_zero,List.all_cons,List.all_nil,Xag];simp only[Xgv,go_sem]) ?_
    simp only[go_sem]
    repeat' first|refine Kn rfl ?_|((first|refine Ka ?_|refine Kb ?_|refine Kv ?_|refine Ke ?_);simp only[go_sem])|refine Kf ?_|refine Kg ?_|(apply Kp<;>intro _<;>try (exfalso;omega))|((first|refine Kh ?_|refine Ki rfl ?_);simp only[or_self,Qs,Qt,Qu,Qv,Qw,Qx,Qy,Qz,Za,go_sem])
    exact⟨rfl,by rw[hT]⟩
   · -- one more
    refine Kt (fr 72 [(0,.one (.ptr 1 0)),(1,yV l),(3,vi ((2*(d - 2):Nat):Int)),(8,vb false),(9,.one (.d (.sl (Xp5 hd)))),(30,.one (.d (.sl (Xaf x.kids)))),(31,vi x.kids.length),(32,vi ((j+1:Nat):Int))]) ?_
    refine Kk 7 (by simp only[List.length_nil,List.length_cons];decide) (by simp only[go_sem]) (by simp only[List.take_succ_cons,List.take_zero,List.all_cons,List.all_nil,Xag];simp only[Xgv,go_sem]) ?_
    simp only[go_sem]
    exact Kl ⟨x.kids.length - (j+1),by omega,j+1,mj,by omega,rfl,hrest,by rw[hP2,hPn];exact hfit,by rw[hP2,hPn]⟩
  ·have hi':=(Kr.1 hy).1
   have hnl:=Xhn (anc g i') (Xge h hg hi')
   have hst0:stB (.mk y.k (Xao (anc g i')) y.x y.keys q1)=if Xao (anc g i')=⟨#[]⟩ then [] else 32::38::(Xao (anc g i')).data.toList:=by
    have hq1:q1≠[]:=fun e=>hyk (List.eq_nil_of_length_eq_zero (by rw[<- hem1.len,e];rfl))
    show (if y.k=3 then _ else if q1=[] then _ else _)=_
    rw[if_neg (Xbj hg hy),if_neg hq1]
    rfl
   have c4:=Yh0 (gp:=gp) (i':Int) (Xao (anc g i')) (by
    have:(Xao (anc g i')).size=(Xao (anc g i')).data.toList.length:=by simp
    omega)
   rw[<- hst0] at c4
   generalize hw:stB (.mk y.k (Xao (anc g i')) y.x y.keys q1)=w at *
   have hwl:w.length<=100:=by rw[hst0];split <;> (simp only[List.length_cons,List.length_nil];omega)
   have c5:Does QP gp 84 [vi ((2*(d - 2):Nat):Int),vi i',.one (.d (.sl [[.str (bT hdj)],[.str (bT w)]]))] (itV (Xew (2*(d - 2))++(hdj++w)) ((2*(d - 2):Nat):Int) i'):=by
    have:=Xz6 (gp:=gp) (2*(d - 2)) (by omega) (i':Int) [bT hdj,bT w] (by simp) (by simp[bT];omega) (by simp)
    have e:([bT hdj,bT w].flatMap fun s=>s.data.toList)=hdj++w:=by simp[bT]
    rw[e] at this
    exact this
   have hd2':2*(d+1 - 2)=2*(d - 2)+2:=by omega
   have hflq:(q1.flatMap Xiw).length<=N:=by
    rw[Xgt] at hflat
    simp only[Tr.kids,List.length_cons] at hflat
    omega
   have hql1:=hem1.len
   have hih:=fun o ho=>ih (d:=d+1) (i:=i') (x:=y) (met:=mj++[(i':Int)]) (met':=met1) (q:=q1) (out:=o) hflq hy hyk hem1 (by omega) (by omega) ho
   rw[hd2'] at hih
   simp only[Tr.k,Tr.keys,Tr.kids,hw] at hstop hsize
   rw[hql1] at hstop hsize
   generalize hn1:lnK (2*(d - 2)+2) (Xap y.k y.keys y.kids.length) q1=new1 at *
   generalize hs1:Xew (2*(d - 2))++(hdj++w)=s1 at *
   have hs1l:s1.length<=100000000:=by rw[<- hs1];simp[Xew];omega
   have hcons:Xah (s1::new1)=Xah [s1]+Xah new1:=Xcz [s1] new1
   have hst1:Xah (out++P++[s1])=Xah (out++P)+Xah [s1]:=Xcz _ _
   have hst2:Xah (out++P++[s1]++new1)=Xah (out++P++[s1])+Xah new1:=Xcz _ _
   have hmr:=Xag (mj++[(i':Int)])
   have hr:=fun (S:Sx) h1 h2 E=>hR S h1 h2 (mpC (mj++[(i':Int)])) E (out++P) s1 ((2*(d - 2):Nat):Int) i' hmr hoj hs1l
   have hPn:out++P2=out++P++[s1]++new1:=by
    rw[hsn,Xfn]
    simp only[Tr.k,Tr.keys,Tr.kids,hw]
    rw[hql1,hn1,hs1];simp
   have hik2:inK .i64 ((2*(d - 2)+2:Nat):Int):=by simp[inK,IntKind.min,IntKind.max,IntKind.signed,IntKind.bits];omega
   have hin2:((2*(d - 2):Nat):Int)+2=((2*(d - 2)+2:Nat):Int):=by omega
   by_cases hfit:Xah (out++P++[s1])<=8000
   case' pos =>
    have hb1:decide (Xah (out++P++[s1])<=8000)=true:=decide_eq_true hfit
    have hb2:¬ Xah (out++P++[s1]) > 8000:=by omega
    simp only[hb1,if_neg hb2] at hr
   case' neg =>
    have hb1:decide (Xah (out++P++[s1])<=8000)=false:=decide_eq_false hfit
    have hb2:Xah (out++P++[s1]) > 8000:=by omega
    simp only[hb1,if_pos hb2] at hr
   all_goals
    repeat' first|refine Kn rfl ?_|((first|refine Ka ?_|refine Kb ?_|refine Kv ?_|refine Ke ?_);simp only[go_sem])|refine Kf ?_|refine Kg ?_|refine⟨_,⟨Kq _,(by first|exact Xad hcj|(rw[Int.toNat_natCast];exact Xad hcj)),rfl⟩,Kg ?_⟩|(apply Kp<;>intro _<;>try (exfalso;omega))
    refine Or.inr (Or.inr ⟨[1,0],.one (.d (X13 i' (Xao (anc g i')))),[prC g (Xgc g),.map (Xd6 (mj++[(i':Int)]))],(by simp only[Xaw,Xcv,rnV,rnA,Xc1,rn0,Xc0,Xbz,Xcx,rnC,Xaj,List.isEmpty_nil,Xag,reduceCtorEq,↓reduceIte,Qa,Qb,Qc,Qd,Qe,Qf,Qg,Qh,Qi,Qj,Qk,Ql,Qm,Qn,Qo,Qp,Qq,Qr];simp only[go_sem];exact⟨Xrf,c3⟩),Kg ?_⟩)
    simp only[bkO,bkC,Xag]
    simp only[go_sem]
    repeat' first|refine Kn rfl ?_|((first|refine Ka ?_|refine Kb ?_|refine Kv ?_|refine Ke ?_);simp only[go_sem])|refine Kf ?_|refine Kg ?_|refine⟨_,c5,Kg ?_⟩|refine⟨_,⟨c5,rfl⟩,Kg ?_⟩|refine⟨_,⟨Kq _,(by first|exact Xad hhj|(rw[Int.toNat_natCast];exact Xad hhj)),rfl⟩,Kg ?_⟩|refine⟨_,_,⟨W02,c4⟩,Kg ?_⟩|(apply Kp<;>intro _<;>try (exfalso;omega))
    refine⟨_,_,?_,hr _ rfl rfl _,Kg ?_⟩
    ·simp
    simp only[go_sem]
    repeat' first|refine Kn rfl ?_|((first|refine Ka ?_|refine Kb ?_|refine Kv ?_|refine Ke ?_);simp only[hin2,go_sem])|refine Kf ?_|refine Kg ?_|refine⟨hik2,?_⟩|(apply Kp<;>intro _<;>try (exfalso;omega))
   · -- too many
    have hT:=hstop _ _ rfl
    simp only[List.cons_append,Xb7,if_pos hb2] at hT
    refine Yyp 0 ?_
    simp only[go_sem]
    refine Kt (fr 72 [(8,vb false)]) ?_
    refine Kk 7 (by simp only[List.length_nil,List.length_cons];decide) (by simp only[go_sem]) (by simp only[List.take_succ_cons,List.take_zero,List.all_cons,List.all_nil,Xag];simp only[Xgv,go_sem]) ?_
    simp only[go_sem]
    repeat' first|refine Kn rfl ?_|((first|refine Ka ?_|refine Kb ?_|refine Kv ?_|refine Ke ?_);simp only[go_sem])|refine Kf ?_|refine Kg ?_|(apply Kp<;>intro _<;>try (exfalso;omega))|((first|refine Kh ?_|refine Ki rfl ?_);simp only[or_self,Qs,Qt,Qu,Qv,Qw,Qx,Qy,Qz,Za,go_sem])
    exact⟨rfl,by rw[hT]⟩
   · -- what stands in it
    have hcall:=hih (out++P++[s1]) hfit
    by_cases hfit2:Xah (out++P++[s1]++new1)<=8000
    ·have hc:=Xm1 hcall fun r c hr=>hr.1 hfit2
     refine Or.inr (Or.inr ⟨[0,1,2,3,4,5,6],vb true,stC (mpC met1) g (out++P++[s1]++new1) (lpR l rc) [],(by simp only[Xaw,Xcv,rnV,rnA,Xc1,rn0,Xc0,Xbz,Xcx,rnC,Xaj,List.isEmpty_nil,Xag,Xz8,reduceCtorEq,↓reduceIte,Qa,Qb,Qc,Qd,Qe,Qf,Qg,Qh,Qi,Qj,Qk,Ql,Qm,Qn,Qo,Qp,Qq,Qr];simp only[go_sem];exact⟨Xv5,hc⟩),Kg ?_⟩)
     simp only[bkO,bkC,Xag,Xz9]
     simp only[go_sem]
     repeat' first|refine Kn rfl ?_|((first|refine Ka ?_|refine Kb ?_|refine Kv ?_|refine Ke ?_);simp only[go_sem])|refine Kf ?_|refine Kg ?_|refine⟨hik,?_⟩|(apply Kp<;>intro _<;>try (exfalso;omega))
     refine Kt (fr 72 [(0,.one (.ptr 1 0)),(1,yV l),(3,vi ((2*(d - 2):Nat):Int)),(8,vb false),(9,.one (.d (.sl (Xp5 hd)))),(30,.one (.d (.sl (Xaf x.kids)))),(31,vi x.kids.length),(32,vi ((j+1:Nat):Int))]) ?_
     refine Kk 7 (by simp only[List.length_nil,List.length_cons];decide) (by simp only[go_sem]) (by simp only[List.take_succ_cons,List.take_zero,List.all_cons,List.all_nil,Xag];simp only[Xgv,go_sem]) ?_
     simp only[go_sem]
     exact Kl ⟨x.kids.length - (j+1),by omega,j+1,met1,by omega,rfl,hrest,by rw[hP2,hPn];exact hfit2,by rw[hP2,hPn]⟩
    ·have hc:=Xm1 hcall fun r c hr=>hr.2 (by omega)
     have hT:=hstop _ _ rfl
     simp only[List.cons_append,Xb7,if_neg hb2] at hT
     change Xb7 out new=Xb7 (out++P++[s1]) (new1++B) at hT
     rw[Xof (out++P++[s1]) new1 B (by omega) hfit] at hT
     refine Or.inr (Or.inr ⟨[0,1,2,3,4,5,6],vb false,stC .dead g (Xb7 (out++P++[s1]) new1) (lpD l rc) [],(by simp only[Xaw,Xcv,rnV,rnA,Xc1,rn0,Xc0,Xbz,Xcx,rnC,Xaj,List.isEmpty_nil,Xag,Xz8,reduceCtorEq,↓reduceIte,Qa,Qb,Qc,Qd,Qe,Qf,Qg,Qh,Qi,Qj,Qk,Ql,Qm,Qn,Qo,Qp,Qq,Qr];simp only[go_sem];exact⟨Xv5,hc⟩),Kg ?_⟩)
     simp only[bkO,bkC,Xag,Xz9]
     simp only[go_sem]
     repeat' first|refine Kn rfl ?_|((first|refine Ka ?_|refine Kb ?_|refine Kv ?_|refine Ke ?_);simp only[go_sem])|refine Kf ?_|refine Kg ?_|(apply Kp<;>intro _<;>try (exfalso;omega))
     refine Kt (fr 72 [(8,vb false)]) ?_
     refine Kk 7 (by simp only[List.length_nil,List.length_cons];decide) (by simp only[go_sem]) (by simp only[List.take_succ_cons,List.take_zero,List.all_cons,List.all_nil,Xag];simp only[Xgv,go_sem]) ?_
     simp only[go_sem]
     repeat' first|refine Kn rfl ?_|((first|refine Ka ?_|refine Kb ?_|refine Kv ?_|refine Ke ?_);simp only[go_sem])|refine Kf ?_|refine Kg ?_|(apply Kp<;>intro _<;>try (exfalso;omega))|((first|refine Kh ?_|refine Ki rfl ?_);simp only[or_self,Qs,Qt,Qu,Qv,Qw,Qx,Qy,Qz,Za,go_sem])
     exact⟨rfl,by rw[hT]⟩
def Wwg (g:Gr) (i:Nat):Prop:=∀ (x:Nd) (d:Int),g.l[i]?=some x->(Xja g)[i]?=some d->d<=24/\(d=24->x.kids=[])
theorem Xsm (g:Gr):Xd9 g↔∀ i,Wwg g i:=⟨fun h i x d hx hd=>h i x d hx hd,fun h i x d hx hd=>h i x d hx hd⟩
theorem Wgl {g:Gr} (hg:Tdy g):∀ (i:Nat) (y:Int),(Xja g)[i]?=some y->1<=y/\y<=i+1:=by
 intro i
 induction i using Nat.strongRecOn with
 | ind i ih =>
  intro y hy
  by_cases h0:i=0
  ·subst h0
   have:=hg.dep_ok.1
   rw[this] at hy;cases hy;omega
  ·have hi:=(Kr.1 hy).1
   rw[hg.dep_len] at hi
   obtain⟨j,z,h1,h2,h3,h4⟩:=hg.dep_ok.2 i (by omega) hi
   have:=ih j h1 z h3
   rw[h4] at hy;cases hy;omega
theorem Yh3 {g:Gr} (hg:Tdy g) {i:Nat} {d:Int} (hd:(Xja g)[i]?=some d):1<=d/\d<=1000:=by
 have h1:=Wgl hg i d hd
 have h2:=(Kr.1 hd).1
 have h3:=hg.dep_len
 have h4:=hg.good.len
 omega
theorem Yh4 (h:Env gp) {g:Gr} (hg:Tdy g) {b:Bool} (hb:b=true↔¬ Xd9 g):Does QP gp 54 [g.v] (vb b):=by
 have c2:=Yps h hg
 have hdl:=hg.dep_len
 have hlen:=hg.good.len
 refine Wlq ?_
 simp only[go_sem]
 repeat' first|refine Kn rfl ?_|((first|refine Ka ?_|refine Kb ?_|refine Kv ?_|refine Ke ?_);simp only[go_sem])|refine Kf ?_|refine Kg ?_|refine⟨_,c2,Kg ?_⟩|refine⟨_,⟨c2,rfl⟩,Kg ?_⟩|(apply Kp<;>intro _<;>try (exfalso;omega))
 refine Kt (fr 32 [(1,.one (.d (.bx [.int .i64 g.root,.sl (nds g.l)]))),(2,vb false),(12,.one (.d (.sl (Xaf (Xja g))))),(13,vi (Xja g).length),(14,vi (0:Nat))]) ?_
 refine Km (fun mz sz=>∃ j:Nat,j<=(Xja g).length/\mz=(Xja g).length - j/\(∀ k,k < j->Wwg g k)/\sz=⟨fr 32 [(1,.one (.d (.bx [.int .i64 g.root,.sl (nds g.l)]))),(2,vb false),(12,.one (.d (.sl (Xaf (Xja g))))),(13,vi (Xja g).length),(14,vi j)],[]⟩) ((Xja g).length) ⟨0,Nat.zero_le _,(Nat.sub_zero _).symm,?_,rfl⟩ ?_
 ·intro k hk;omega
 rintro _ _ ⟨j,hj,rfl,hz,rfl⟩
 simp only[go_sem]
 by_cases hjl:j < (Xja g).length
 ·obtain⟨d,hd⟩:=Xal hjl
  obtain⟨x,hx⟩:=Xal (l:=g.l) (i:=j) (by omega)
  have hik:inK .i64 ((j:Int)+1):=by simp[inK,IntKind.min,IntKind.max,IntKind.signed,IntKind.bits];omega
  have hdr:=Yh3 hg hd
  have hid:inK .i64 (d+1):=by simp[inK,IntKind.min,IntKind.max,IntKind.signed,IntKind.bits];omega
  by_cases hok:Wwg g j
  ·obtain⟨o1,o2⟩:=hok x d hx hd
   have hnext:∀ k,k < j+1->Wwg g k:=fun k hk=>by
    by_cases e:k=j
    ·subst e;exact hok
    ·exact hz k (by omega)
   by_cases hk:x.kids=[]
   case' pos =>
    have e1:decide ((x.kids.length:Int) > 0)=false:=by simp[hk]
    have e2:decide (d > 24)=false:=by simp;omega
    repeat' first|refine Kn rfl ?_|((first|refine Ka ?_|refine Kb ?_|refine Kv ?_|refine Ke ?_);simp only[e1,e2,go_sem])|refine Kf ?_|refine Kg ?_|refine⟨_,⟨Kq _,(by first|exact Xad hd|(rw[Int.toNat_natCast];exact Xad hd)),rfl⟩,Kg ?_⟩|refine⟨_,⟨Kq _,(by first|exact Xad hx|(rw[Int.toNat_natCast];exact Xad hx)),rfl⟩,Kg ?_⟩|refine⟨hik,?_⟩|refine⟨hid,?_⟩|(apply Kp<;>intro _<;>try (exfalso;omega))
   case' neg =>
    have e1:decide ((x.kids.length:Int) > 0)=true:=by simp;exact List.length_pos_iff.2 hk
    have e2:decide (d+1 > 24)=false:=by
     have:d≠24:=fun e=>hk (o2 e)
     simp;omega
    repeat' first|refine Kn rfl ?_|((first|refine Ka ?_|refine Kb ?_|refine Kv ?_|refine Ke ?_);simp only[e1,e2,go_sem])|refine Kf ?_|refine Kg ?_|refine⟨_,⟨Kq _,(by first|exact Xad hd|(rw[Int.toNat_natCast];exact Xad hd)),rfl⟩,Kg ?_⟩|refine⟨_,⟨Kq _,(by first|exact Xad hx|(rw[Int.toNat_natCast];exact Xad hx)),rfl⟩,Kg ?_⟩|refine⟨hik,?_⟩|refine⟨hid,?_⟩|(apply Kp<;>intro _<;>try (exfalso;omega))
   all_goals
    refine Kt (fr 32 [(1,.one (.d (.bx [.int .i64 g.root,.sl (nds g.l)]))),(2,vb false),(12,.one (.d (.sl (Xaf (Xja g))))),(13,vi (Xja g).length),(14,vi (j+1))]) ?_
    refine Kl ⟨(Xja g).length - (j+1),by omega,j+1,by omega,rfl,?_,rfl⟩
    exact hnext
  ·have hbt:b=true:=hb.2 fun h=>hok ((Xsm g).1 h j)
   subst hbt
   have hno:d > 24\/(d=24/\x.kids≠[]):=by
    refine Classical.byContradiction fun hh=>hok fun x' d' hx' hd'=>?_
    rw[hx] at hx';cases hx'
    rw[hd] at hd';cases hd'
    refine⟨by omega,fun e=>Classical.byContradiction fun hne=>hh (.inr ⟨e,hne⟩)⟩
   by_cases hk:x.kids=[]
   ·have e1:decide ((x.kids.length:Int) > 0)=false:=by simp[hk]
    have e2:decide (d > 24)=true:=by
     simp
     rcases hno with h1|⟨_,h1⟩
     ·omega
     ·exact absurd hk h1
    repeat' first|refine Kn rfl ?_|((first|refine Ka ?_|refine Kb ?_|refine Kv ?_|refine Ke ?_);simp only[e1,e2,go_sem])|refine Kf ?_|refine Kg ?_|refine⟨_,⟨Kq _,(by first|exact Xad hd|(rw[Int.toNat_natCast];exact Xad hd)),rfl⟩,Kg ?_⟩|refine⟨_,⟨Kq _,(by first|exact Xad hx|(rw[Int.toNat_natCast];exact Xad hx)),rfl⟩,Kg ?_⟩|refine⟨hik,?_⟩|refine⟨hid,?_⟩|(apply Kp<;>intro _<;>try (exfalso;omega))|((first|refine Kh ?_|refine Ki rfl ?_);simp only[e1,e2,or_self,Qs,Qt,Qu,Qv,Qw,Qx,Qy,Qz,Za,go_sem])
    all_goals trace_state
   ·have e1:decide ((x.kids.length:Int) > 0)=true:=by simp;exact List.length_pos_iff.2 hk
    have e2:decide (d+1 > 24)=true:=by simp;rcases hno with h1|⟨h1,_⟩ <;> omega
    repeat' first|refine Kn rfl ?_|((first|refine Ka ?_|refine Kb ?_|refine Kv ?_|refine Ke ?_);simp only[e1,e2,go_sem])|refine Kf ?_|refine Kg ?_|refine⟨_,⟨Kq _,(by first|exact Xad hd|(rw[Int.toNat_natCast];exact Xad hd)),rfl⟩,Kg ?_⟩|refine⟨_,⟨Kq _,(by first|exact Xad hx|(rw[Int.toNat_natCast];exact Xad hx)),rfl⟩,Kg ?_⟩|refine⟨hik,?_⟩|refine⟨hid,?_⟩|(apply Kp<;>intro _<;>try (exfalso;omega))|((first|refine Kh ?_|refine Ki rfl ?_);simp only[e1,e2,or_self,Qs,Qt,Qu,Qv,Qw,Qx,Qy,Qz,Za,go_sem])
    all_goals trace_state
 ·obtain rfl:(Xja g).length=j:=by omega
  have hbf:b=false:=by
   cases b with
   | false=>rfl
   | true =>
    exfalso
    refine (hb.1 rfl) ((Xsm g).2 fun i=>?_)
    by_cases hi:i < (Xja g).length
    ·exact hz i hi
    ·intro x d hx hd
     rw[List.getElem?_eq_none (by omega)] at hd;cases hd
  subst hbf
  repeat' first|refine Kn rfl ?_|((first|refine Ka ?_|refine Kb ?_|refine Kv ?_|refine Ke ?_);simp only[go_sem])|refine Kf ?_|refine Kg ?_|(apply Kp<;>intro _<;>try (exfalso;omega))|((first|refine Kh ?_|refine Ki rfl ?_);simp only[or_self,Qs,Qt,Qu,Qv,Qw,Qx,Qy,Qz,Za,go_sem])
  all_goals trace_state
theorem Xsn {g:Gr} (hg:Tdy g) (hf:(flat g).length<=3000):∀ i:Nat,i<=g.l.length->0<=Xnc (fun i=>if 0 < anc g i then 1 else (((0::flat g).count (i:Int):Nat):Int)) i/\Xnc (fun i=>if 0 < anc g i then 1 else (((0::flat g).count (i:Int):Nat):Int)) i<=3001*i
 | 0,_=>by simp[Xnc]
 | i+1,h=>by
  obtain⟨h1,h2⟩:=Xsn hg hf i (by omega)
  simp only[Xnc]
  have h3:=List.count_le_length (a:=(i:Int)) (l:=0::flat g)
  simp only[List.length_cons] at h3
  split <;> omega
theorem Xso {g:Gr} (hg:Tdy g):(flat g).length<=3000:=by
 have h1:=hg.good.len
 have:∀ l:List Nd,(∀ x∈l,x.kids.length<=12)->(l.flatMap Nd.kids).length<=12*l.length:=by
  intro l
  induction l with
  | nil=>intro _;simp
  | cons x l ih =>
   intro h
   have:=ih fun y hy=>h y (by simp[hy])
   have:=h x (by simp)
   rw[List.flatMap_cons,List.length_append,List.length_cons];omega
 have:=this g.l fun x hx=>(hg.good.s x hx).2
 unfold flat;omega
theorem X0b (h:Env gp) {g:Gr} (hg:Tdy g):Does QP gp 56 [g.v,.one (.d (.sl (Xaf (Xgc g))))] (vi (Xee g)):=by
 have c2:=Wud h hg
 have hul:=Xsd g
 have hlen:=hg.good.len
 refine Wlz ?_
 simp only[go_sem]
 repeat' first|refine Kn rfl ?_|((first|refine Ka ?_|refine Kb ?_|refine Kv ?_|refine Ke ?_);simp only[go_sem])|refine Kf ?_|refine Kg ?_|refine⟨_,c2,Kg ?_⟩|refine⟨_,⟨c2,rfl⟩,Kg ?_⟩|(apply Kp<;>intro _<;>try (exfalso;omega))
 show G _ _ ⟨_,_⟩
 refine Kj (fr 32 [(1,.one (.d (.sl (Xaf (Xgc g))))),(7,vi (Xnc (fun i=>if 0 < anc g i then 1 else (((0::flat g).count (i:Int):Nat):Int)) 0)),(15,.one (.d (.sl (Xaf (Xce g))))),(16,vi (Xce g).length),(17,vi ((0:Nat):Int))]) (by simp only[Xnc,go_sem];repeat' (first|refine Kp ?_ ?_|exact Or.inl rfl|exact Or.inr rfl|rfl)) ?_
 refine Kt (fr 32 [(1,.one (.d (.sl (Xaf (Xgc g))))),(7,vi (Xnc (fun i=>if 0 < anc g i then 1 else (((0::flat g).count (i:Int):Nat):Int)) (0:Nat))),(15,.one (.d (.sl (Xaf (Xce g))))),(16,vi (Xce g).length),(17,vi (0:Nat))]) ?_
 refine Km (fun mz sz=>∃ j:Nat,j<=(Xce g).length/\mz=(Xce g).length - j/\(0<=j)/\sz=⟨fr 32 [(1,.one (.d (.sl (Xaf (Xgc g))))),(7,vi (Xnc (fun i=>if 0 < anc g i then 1 else (((0::flat g).count (i:Int):Nat):Int)) j)),(15,.one (.d (.sl (Xaf (Xce g))))),(16,vi (Xce g).length),(17,vi j)],[]⟩) ((Xce g).length) ⟨0,Nat.zero_le _,(Nat.sub_zero _).symm,?_,rfl⟩ ?_
 ·exact Nat.zero_le _
 rintro _ _ ⟨j,hj,rfl,-,rfl⟩
 simp only[go_sem]
 by_cases hjl:j < (Xce g).length
 ·have hjg:j < g.l.length:=by omega
  have hu:=Xk7 hjg
  have han:=Xp2 hjg
  have hik:inK .i64 ((j:Int)+1):=by simp[inK,IntKind.min,IntKind.max,IntKind.signed,IntKind.bits];omega
  have hs:=Xsn hg (Xso hg) (j+1) (by omega)
  have hsu:Xnc (fun i=>if 0 < anc g i then 1 else (((0::flat g).count (i:Int):Nat):Int)) (j+1)=Xnc (fun i=>if 0 < anc g i then 1 else (((0::flat g).count (i:Int):Nat):Int)) j+(if 0 < anc g j then 1 else (((0::flat g).count (j:Int):Nat):Int)):=rfl
  by_cases ha:0 < anc g j
  case' pos =>
   have e1:decide (anc g j > 0)=true:=by simp;omega
   rw[if_pos ha] at hsu
   have hi2:inK .i64 (Xnc (fun i=>if 0 < anc g i then 1 else (((0::flat g).count (i:Int):Nat):Int)) j+1):=by rw[<- hsu];simp[inK,IntKind.min,IntKind.max,IntKind.signed,IntKind.bits];omega
   repeat' first|refine Kn rfl ?_|((first|refine Ka ?_|refine Kb ?_|refine Kv ?_|refine Ke ?_);simp only[e1,go_sem])|refine Kf ?_|refine Kg ?_|refine⟨_,⟨Kq _,(by first|exact Xad hu|(rw[Int.toNat_natCast];exact Xad hu)),rfl⟩,Kg ?_⟩|refine⟨_,⟨Kq _,(by first|exact Xad han|(rw[Int.toNat_natCast];exact Xad han)),rfl⟩,Kg ?_⟩|refine⟨hik,?_⟩|refine⟨hi2,?_⟩|(apply Kp<;>intro _<;>try (exfalso;omega))
  case' neg =>
   have e1:decide (anc g j > 0)=false:=by simp;omega
   rw[if_neg ha] at hsu
   have hi2:inK .i64 (Xnc (fun i=>if 0 < anc g i then 1 else (((0::flat g).count (i:Int):Nat):Int)) j+(((0::flat g).count (j:Int):Nat):Int)):=by rw[<- hsu];simp[inK,IntKind.min,IntKind.max,IntKind.signed,IntKind.bits];omega
   repeat' first|refine Kn rfl ?_|((first|refine Ka ?_|refine Kb ?_|refine Kv ?_|refine Ke ?_);simp only[e1,go_sem])|refine Kf ?_|refine Kg ?_|refine⟨_,⟨Kq _,(by first|exact Xad hu|(rw[Int.toNat_natCast];exact Xad hu)),rfl⟩,Kg ?_⟩|refine⟨_,⟨Kq _,(by first|exact Xad han|(rw[Int.toNat_natCast];exact Xad han)),rfl⟩,Kg ?_⟩|refine⟨hik,?_⟩|refine⟨hi2,?_⟩|(apply Kp<;>intro _<;>try (exfalso;omega))
  all_goals
   rw[<- hsu]
   refine Kt (fr 32 [(1,.one (.d (.sl (Xaf (Xgc g))))),(7,vi (Xnc (fun i=>if 0 < anc g i then 1 else (((0::flat g).count (i:Int):Nat):Int)) (j+1))),(15,.one (.d (.sl (Xaf (Xce g))))),(16,vi (Xce g).length),(17,vi (j+1))]) ?_
   refine Kl ⟨(Xce g).length - (j+1),by omega,j+1,by omega,rfl,?_,rfl⟩
   exact Nat.zero_le _
 ·obtain rfl:(Xce g).length=j:=by omega
  repeat' first|refine Kn rfl ?_|((first|refine Ka ?_|refine Kb ?_|refine Kv ?_|refine Ke ?_);simp only[go_sem])|refine Kf ?_|refine Kg ?_|(apply Kp<;>intro _<;>try (exfalso;omega))|((first|refine Kh ?_|refine Ki rfl ?_);simp only[or_self,Qs,Qt,Qu,Qv,Qw,Qx,Qy,Qz,Za,go_sem])
  unfold Xee;rw[hul]
theorem Xk8 (E:List Ch) (c:Ch):Xaj (E++[c]) E.length=c:=by
 induction E with
 | nil=>rfl
 | cons e E ih=>simpa [Xaj] using ih
theorem Xk9 (E:List Ch) (c d:Ch):Xcc (E++[c]) E.length d=E++[d]:=by
 induction E with
 | nil=>rfl
 | cons e E ih=>simp[Xcc,ih]
theorem Xkk {S:Sx} {m:MI} {l K:List MI} {s:St} (hl:l=K) (h:∀ K',K'=K->G S (m::K') s):G S (m::l) s:=h l hl
theorem Wgm (g:Gr):Tri QP gp 57 [.one (.ptr 0 0)] [prC g (Xgc g),.map (Xd6 [])] fun r post=>r=.one (.clo (.func 82) [.ptr 2 0])/\post=[prC g (Xgc g),.map (Xd6 []),.cells [.ptr 0 0]]:=by
 refine Y23 ?_
 simp only[go_sem]
 repeat' first|refine Kn rfl ?_|((first|refine Ka ?_|refine Kb ?_|refine Kv ?_|refine Ke ?_);simp only[go_sem])|refine Kf ?_|refine Kg ?_|(apply Kp<;>intro _<;>try (exfalso;omega))|((first|refine Kh ?_|refine Ki rfl ?_);simp only[or_self,Qs,Qt,Qu,Qv,Qw,Qx,Qy,Qz,Za,go_sem])
 all_goals trace_state
abbrev lpE (l:Nat) (rc:Loop) (T:List (List UInt8)):Ch:=.lp l frP rc (if Xah T > 8000 then .done else .ready) (if Xah T > 8000 then some (.exit 0) else none)
def W03 (g:Gr) (l:Nat) (rc:Loop) (T:List (List UInt8)) (post:List Ch):Prop:=∃ m rest,post=stC m g T (lpE l rc T) rest
set_option maxHeartbeats 4000000 in
theorem Yqa (h:Env13 gp) {g:Gr} (hg:Tdy g) (hst:∀ x∈g.l,x.short) {l:Nat} {rc:Loop} (hR:Xp6 gp g l rc) {t:Tr} {met:List Int} (hem:EmW g 1 [0] [] [t] met) :
  Tri QP gp 82 [yV l,.one (.ptr 5 0)] (stC (mpC []) g [] (lpR l rc) []) fun _ post=>W03 g l rc (Xb7 [] (Xdn t)) post:=by
 generalize h00:(0:Int)=z at hem
 generalize htt:[t]=ts at hem
 generalize hzz:[z]=zs at hem
 cases hem with
 | nil=>cases htt
 | ref hy hk hm ha hrest=>cases hm
 | @leaf _ i y _ _ _ _ hy hyk hrest =>
  obtain⟨rfl,_⟩:=List.cons.inj hzz
  obtain⟨rfl,_⟩:=List.cons.inj htt
  obtain rfl:i=0:=by omega
  have hw:Xdn (.mk y.k ⟨#[]⟩ y.x y.keys [])=[Xex y]:=by unfold Xdn;rw[if_pos (show (Tr.mk y.k ⟨#[]⟩ y.x y.keys []).kids=[] from rfl)]
  rw[hw]
  have hwl:=Xog hg hst hy
  have c3:Tri QP gp 83 [.one (.ptr 0 0),vi 0] [prC g (Xgc g),.map (Xd6 [])] _:=Xmz h hg hst (Xgc g) [] hy hyk
  generalize Xex y=w at *
  have c5:Does QP gp 84 [vi 0,vi (-1),.one (.d (.sl [[.str (bT w)]]))] (itV w 0 (-1)):=by
   have:=Xz6 (gp:=gp) 0 (by omega) (-1) [bT w] (by simp) (by simp[bT];omega) (by simp)
   have e:(Xew 0++[bT w].flatMap fun s=>s.data.toList)=w:=by simp[bT,Xew]
   rw[e] at this
   exact this
  have hr:=fun (S:Sx) h1 h2 E=>hR S h1 h2 (mpC []) E [] w 0 (-1) (Xag []) (by simp[Xah]) (by omega)
  have hT:Xb7 [] [w]=[w]:=by simp only[Xb7];split <;> rfl
  rw[hT]
  refine Xtt ?_
  simp only[go_sem]
  repeat' first|refine Kn rfl ?_|((first|refine Ka ?_|refine Kb ?_|refine Kv ?_|refine Ke ?_);simp only[go_sem])|refine Kf ?_|refine Kg ?_|(apply Kp<;>intro _<;>try (exfalso;omega))
  refine Or.inr (Or.inr ⟨[1,0],.one (.d (Xun (bT w))),[prC g (Xgc g),.map (Xd6 [])],(by simp only[Xaw,Xcv,rnV,rnA,Xc1,rn0,Xc0,Xbz,Xcx,rnC,Xaj,List.isEmpty_nil,Xag,reduceCtorEq,↓reduceIte,Qa,Qb,Qc,Qd,Qe,Qf,Qg,Qh,Qi,Qj,Qk,Ql,Qm,Qn,Qo,Qp,Qq,Qr];simp only[go_sem];exact⟨Xrf,c3⟩),Kg ?_⟩)
  simp only[bkO,bkC,Xag]
  simp only[go_sem]
  repeat' first|refine Kn rfl ?_|((first|refine Ka ?_|refine Kb ?_|refine Kv ?_|refine Ke ?_);simp only[go_sem])|refine Kf ?_|refine Kg ?_|refine⟨_,c5,Kg ?_⟩|refine⟨_,⟨c5,rfl⟩,Kg ?_⟩|(apply Kp<;>intro _<;>try (exfalso;omega))
  refine⟨_,_,?_,hr _ rfl rfl _,Kg ?_⟩
  ·simp
  simp only[go_sem]
  repeat' first|refine Kn rfl ?_|((first|refine Ka ?_|refine Kb ?_|refine Kv ?_|refine Ke ?_);simp only[go_sem])|refine Kf ?_|refine Kg ?_|(apply Kp<;>intro _<;>try (exfalso;omega))|((first|refine Kh ?_|refine Ki rfl ?_);simp only[or_self,Qs,Qt,Qu,Qv,Qw,Qx,Qy,Qz,Za,go_sem])
  exact⟨_,_,rfl⟩
 | @node _ i y _ _ met1 _ q1 _ hy hyk hm hdd hem1 hrest =>
  obtain⟨rfl,_⟩:=List.cons.inj hzz
  obtain⟨rfl,_⟩:=List.cons.inj htt
  obtain rfl:i=0:=by omega
  have hq1:q1≠[]:=fun e=>hyk (List.eq_nil_of_length_eq_zero (by rw[<- hem1.len,e];rfl))
  have hw:Xdn (.mk y.k (Xao (anc g 0)) y.x y.keys q1)=(if Xao (anc g 0)=⟨#[]⟩ then [] else [38::(Xao (anc g 0)).data.toList])++lnK 0 (Xap y.k y.keys y.kids.length) q1:=by
   unfold Xdn;rw[if_neg (show ¬ (Tr.mk y.k (Xao (anc g 0)) y.x y.keys q1).kids=[] from hq1),<- hem1.len];rfl
  rw[hw]
  have hi':=(Kr.1 hy).1
  have hnl:=Xhn (anc g 0) (Xge h hg hi')
  have c3:Tri QP gp 83 [.one (.ptr 0 0),vi 0] [prC g (Xgc g),.map (Xd6 [])] (fun r post=>r=.one (.d (X13 0 (Xao (anc g 0))))/\post=[prC g (Xgc g),.map (Xd6 [0])]):=Xm0 h hg [] hy hyk hm
  have hit:=fun out ho=>Wgk h hg hst hR _ (d:=2) (i:=0) (x:=y) (met:=[0]) (met':=met1) (q:=q1) (out:=out) (Nat.le_refl _) hy hyk hem1 (by omega) (by omega) ho
  have hit:∀ out,Xah out<=8000->Tri QP gp 85 [.one (.ptr 1 0),yV l,vi 0,vi 0] (stC (mpC [0]) g out (lpR l rc) []) (ItR g l rc met1 out (lnK 0 (Xap y.k y.keys y.kids.length) q1)):=hit
  generalize lnK 0 (Xap y.k y.keys y.kids.length) q1=L at *
  have hcalls:∀ out,Xah out<=8000->∃ b m,Tri QP gp 85 [.one (.ptr 1 0),yV l,vi 0,vi 0] (stC (mpC [0]) g out (lpR l rc) []) (fun r post=>r=vb b/\post=stC m g (Xb7 out L) (lpE l rc (Xb7 out L)) [])/\∀ n,bkC n [0,1,2,3,4,5,6] m=m:=fun out ho=>by
   by_cases hf:Xah (out++L)<=8000
   ·have e:Xb7 out L=out++L:=by have:=Xiz out L [] hf;rw[List.append_nil] at this;rw[this];rfl
    refine⟨true,mpC met1,?_,fun n=>by simp only[bkC,Xag];rfl⟩
    rw[e]
    unfold lpE
    rw[if_neg (by omega),if_neg (by omega)]
    exact Xm1 (hit out ho) fun r c hr=>hr.1 hf
   ·have e:=Xm2 L out (by omega)
    refine⟨false,.dead,?_,fun n=>rfl⟩
    unfold lpE
    rw[if_pos (by omega),if_pos (by omega)]
    exact Xm1 (hit out ho) fun r c hr=>hr.2 (by omega)
  by_cases hn:Xao (anc g 0)=⟨#[]⟩
  ·have hd1:decide (Xao (anc g 0)=⟨#[]⟩)=true:=by simp[hn]
   rw[if_pos hn,List.nil_append]
   obtain⟨b,m,hc,hm2⟩:=hcalls [] (by simp[Xah])
   refine Xtt ?_
   simp only[go_sem]
   repeat' first|refine Kn rfl ?_|((first|refine Ka ?_|refine Kb ?_|refine Kv ?_|refine Ke ?_);simp only[go_sem])|refine Kf ?_|refine Kg ?_|(apply Kp<;>intro _<;>try (exfalso;omega))
   refine Or.inr (Or.inr ⟨[1,0],.one (.d (X13 0 (Xao (anc g 0)))),[prC g (Xgc g),.map (Xd6 [0])],(by simp only[Xaw,Xcv,rnV,rnA,Xc1,rn0,Xc0,Xbz,Xcx,rnC,Xaj,List.isEmpty_nil,Xag,reduceCtorEq,↓reduceIte,Qa,Qb,Qc,Qd,Qe,Qf,Qg,Qh,Qi,Qj,Qk,Ql,Qm,Qn,Qo,Qp,Qq,Qr];simp only[go_sem];exact⟨Xrf,c3⟩),Kg ?_⟩)
   simp only[bkO,bkC,Xag]
   simp only[go_sem]
   repeat' first|refine Kn rfl ?_|((first|refine Ka ?_|refine Kb ?_|refine Kv ?_|refine Ke ?_);simp only[hd1,go_sem])|refine Kf ?_|refine Kg ?_|(apply Kp<;>intro _<;>try (exfalso;omega))
   refine Or.inr (Or.inr ⟨[0,1,2,3,4,5,6],vb b,stC m g (Xb7 [] L) (lpE l rc (Xb7 [] L)) [],(by simp only[Xaw,Xcv,rnV,rnA,Xc1,rn0,Xc0,Xbz,Xcx,rnC,Xaj,List.isEmpty_nil,Xag,Xz8,reduceCtorEq,↓reduceIte,Qa,Qb,Qc,Qd,Qe,Qf,Qg,Qh,Qi,Qj,Qk,Ql,Qm,Qn,Qo,Qp,Qq,Qr];simp only[go_sem];exact⟨Xv5,hc⟩),Kg ?_⟩)
   simp only[bkO,hm2,bkC,Xag,Xz9]
   simp only[go_sem]
   repeat' first|refine Kn rfl ?_|((first|refine Ka ?_|refine Kb ?_|refine Kv ?_|refine Ke ?_);simp only[go_sem])|refine Kf ?_|refine Kg ?_|(apply Kp<;>intro _<;>try (exfalso;omega))|((first|refine Kh ?_|refine Ki rfl ?_);simp only[or_self,Qs,Qt,Qu,Qv,Qw,Qx,Qy,Qz,Za,go_sem])
   exact⟨_,_,rfl⟩
  ·have hd1:decide (Xao (anc g 0)=⟨#[]⟩)=false:=by simp[hn]
   rw[if_neg hn]
   have c5:Does QP gp 84 [vi 0,vi 0,.one (.d (.sl [[.str (bT (38::(Xao (anc g 0)).data.toList))]]))] (itV (38::(Xao (anc g 0)).data.toList) 0 0):=by
    have:=Xz6 (gp:=gp) 0 (by omega) 0 [bT (38::(Xao (anc g 0)).data.toList)] (by simp) (by simp[bT] at hnl ⊢;omega) (by simp)
    have e:(Xew 0++[bT (38::(Xao (anc g 0)).data.toList)].flatMap fun s=>s.data.toList)=38::(Xao (anc g 0)).data.toList:=by simp[bT,Xew]
    rw[e] at this
    exact this
   have hsz:((#[(38:UInt8)].size+(Xao (anc g 0)).size:Nat):Int)<=9223372036854775807:=by
    have:(Xao (anc g 0)).size=(Xao (anc g 0)).data.toList.length:=by simp
    rw[this];simp only[List.size_toArray,List.length_cons,List.length_nil];omega
   have e2:(⟨#[38]⟩:ByteArray)++Xao (anc g 0)=bT (38::(Xao (anc g 0)).data.toList):=Xz5 [38] _
   have hsl:(38::(Xao (anc g 0)).data.toList).length<=100:=by simp only[List.length_cons];omega
   generalize hs1:38::(Xao (anc g 0)).data.toList=s1 at *
   have hsm:Xah [s1]<=8000:=by simp only[Xah,List.map_cons,List.map_nil,List.sum_cons,List.sum_nil];omega
   obtain⟨b,m,hc,hm2⟩:=hcalls [s1] hsm
   have hT:Xb7 [] ([s1]++L)=Xb7 [s1] L:=by
    show (if Xah ([]++[s1]) > 8000 then _ else _)=_
    rw[if_neg (by rw[List.nil_append];omega)];rfl
   rw[hT]
   have hb1:decide (Xah [s1]<=8000)=true:=decide_eq_true hsm
   have hb2:¬ Xah [s1] > 8000:=by omega
   have hr:=fun (S:Sx) h1 h2 E=>hR S h1 h2 (mpC [0]) E [] s1 0 0 (Xag [0]) (by simp[Xah]) (by omega)
   simp only[List.nil_append,hb1,if_neg hb2] at hr
   refine Xtt ?_
   simp only[go_sem]
   repeat' first|refine Kn rfl ?_|((first|refine Ka ?_|refine Kb ?_|refine Kv ?_|refine Ke ?_);simp only[go_sem])|refine Kf ?_|refine Kg ?_|(apply Kp<;>intro _<;>try (exfalso;omega))
   refine Or.inr (Or.inr ⟨[1,0],.one (.d (X13 0 (Xao (anc g 0)))),[prC g (Xgc g),.map (Xd6 [0])],(by simp only[Xaw,Xcv,rnV,rnA,Xc1,rn0,Xc0,Xbz,Xcx,rnC,Xaj,List.isEmpty_nil,Xag,reduceCtorEq,↓reduceIte,Qa,Qb,Qc,Qd,Qe,Qf,Qg,Qh,Qi,Qj,Qk,Ql,Qm,Qn,Qo,Qp,Qq,Qr];simp only[go_sem];exact⟨Xrf,c3⟩),Kg ?_⟩)
   simp only[bkO,bkC,Xag]
   simp only[go_sem]
   repeat' first|refine Kn rfl ?_|((first|refine Ka ?_|refine Kb ?_|refine Kv ?_|refine Ke ?_);simp only[hd1,e2,go_sem])|refine Kf ?_|refine Kg ?_|refine⟨_,c5,Kg ?_⟩|refine⟨_,⟨c5,rfl⟩,Kg ?_⟩|refine⟨hsz,?_⟩|(apply Kp<;>intro _<;>try (exfalso;omega))
   refine⟨_,_,?_,hr _ rfl rfl _,Kg ?_⟩
   ·simp
   simp only[go_sem]
   repeat' first|refine Kn rfl ?_|((first|refine Ka ?_|refine Kb ?_|refine Kv ?_|refine Ke ?_);simp only[go_sem])|refine Kf ?_|refine Kg ?_|(apply Kp<;>intro _<;>try (exfalso;omega))
   refine Or.inr (Or.inr ⟨[0,1,2,3,4,5,6],vb b,stC m g (Xb7 [s1] L) (lpE l rc (Xb7 [s1] L)) [],(by simp only[Xaw,Xcv,rnV,rnA,Xc1,rn0,Xc0,Xbz,Xcx,rnC,Xaj,List.isEmpty_nil,Xag,Xz8,reduceCtorEq,↓reduceIte,Qa,Qb,Qc,Qd,Qe,Qf,Qg,Qh,Qi,Qj,Qk,Ql,Qm,Qn,Qo,Qp,Qq,Qr];simp only[go_sem];exact⟨Xv5,hc⟩),Kg ?_⟩)
   simp only[bkO,hm2,bkC,Xag,Xz9]
   simp only[go_sem]
   repeat' first|refine Kn rfl ?_|((first|refine Ka ?_|refine Kb ?_|refine Kv ?_|refine Ke ?_);simp only[go_sem])|refine Kf ?_|refine Kg ?_|(apply Kp<;>intro _<;>try (exfalso;omega))|((first|refine Kh ?_|refine Ki rfl ?_);simp only[or_self,Qs,Qt,Qu,Qv,Qw,Qx,Qy,Qz,Za,go_sem])
   exact⟨_,_,rfl⟩
theorem Yh5 (h:Env13 gp) {g:Gr} (hg:Tdy g) (hst:∀ x∈g.l,x.short) (hd:Xd9 g) (hp:¬ Xee g > 200) {t:Tr} {met:List Int} (hem:EmW g 1 [0] [] [t] met) :
  Does QP gp 26 [g.v] (.tup [.one (.d (.sl (Xp5 (if Xah (Xdn t) > 8000 then [] else Xdn t)))),vi (if Xah (Xdn t) > 8000 then 20 else 0)]):=by
 have c1:=Xpr h.e g hg.good.s
 rw[decide_eq_true ⟨hg.good.c,hg.self⟩] at c1
 have c2:=Yh4 (b:=false) h.e hg (by simp[hd])
 have c3:=Xsb h.e hg
 have c4:=X0b h.e hg
 have e1:decide (Xee g > 200)=false:=decide_eq_false hp
 refine Xv4 ?_
 simp only[go_sem]
 refine Kn rfl ?_
 refine Xkk rfl fun K hK=>?_
 repeat' first|refine Kn rfl ?_|((first|refine Ka ?_|refine Kb ?_|refine Kv ?_|refine Ke ?_);simp only[e1,go_sem])|refine Kf ?_|refine Kg ?_|refine⟨_,c1,Kg ?_⟩|refine⟨_,⟨c1,rfl⟩,Kg ?_⟩|refine⟨_,c2,Kg ?_⟩|refine⟨_,⟨c2,rfl⟩,Kg ?_⟩|refine⟨_,c3,Kg ?_⟩|refine⟨_,⟨c3,rfl⟩,Kg ?_⟩|refine⟨_,c4,Kg ?_⟩|refine⟨_,⟨c4,rfl⟩,Kg ?_⟩|(apply Kp<;>intro _<;>try (exfalso;omega))
 subst hK
 refine Kn rfl ?_
 refine Kn rfl ?_
 refine Xkk rfl fun K hK=>?_
 repeat' first|refine Kn rfl ?_|((first|refine Ka ?_|refine Kb ?_|refine Kv ?_|refine Ke ?_);simp only[e1,go_sem])|refine Kf ?_|refine Kg ?_|refine⟨_,c1,Kg ?_⟩|refine⟨_,⟨c1,rfl⟩,Kg ?_⟩|refine⟨_,c2,Kg ?_⟩|refine⟨_,⟨c2,rfl⟩,Kg ?_⟩|refine⟨_,c3,Kg ?_⟩|refine⟨_,⟨c3,rfl⟩,Kg ?_⟩|refine⟨_,c4,Kg ?_⟩|refine⟨_,⟨c4,rfl⟩,Kg ?_⟩|(apply Kp<;>intro _<;>try (exfalso;omega))
 subst hK
 refine Kn rfl ?_
 refine Xkk rfl fun K hK=>?_
 repeat' first|refine Kn rfl ?_|((first|refine Ka ?_|refine Kb ?_|refine Kv ?_|refine Ke ?_);simp only[e1,go_sem])|refine Kf ?_|refine Kg ?_|refine⟨_,c1,Kg ?_⟩|refine⟨_,⟨c1,rfl⟩,Kg ?_⟩|refine⟨_,c2,Kg ?_⟩|refine⟨_,⟨c2,rfl⟩,Kg ?_⟩|refine⟨_,c3,Kg ?_⟩|refine⟨_,⟨c3,rfl⟩,Kg ?_⟩|refine⟨_,c4,Kg ?_⟩|refine⟨_,⟨c4,rfl⟩,Kg ?_⟩|(apply Kp<;>intro _<;>try (exfalso;omega))
 subst hK
 refine Kn rfl ?_
 refine Xkk rfl fun K hK=>?_
 repeat' first|refine Kn rfl ?_|((first|refine Ka ?_|refine Kb ?_|refine Kv ?_|refine Ke ?_);simp only[e1,go_sem])|refine Kf ?_|refine Kg ?_|refine⟨_,c1,Kg ?_⟩|refine⟨_,⟨c1,rfl⟩,Kg ?_⟩|refine⟨_,c2,Kg ?_⟩|refine⟨_,⟨c2,rfl⟩,Kg ?_⟩|refine⟨_,c3,Kg ?_⟩|refine⟨_,⟨c3,rfl⟩,Kg ?_⟩|refine⟨_,c4,Kg ?_⟩|refine⟨_,⟨c4,rfl⟩,Kg ?_⟩|(apply Kp<;>intro _<;>try (exfalso;omega))
 subst hK
 refine Kn rfl ?_
 refine Xkk rfl fun K hK=>?_
 repeat' first|refine Kn rfl ?_|((first|refine Ka ?_|refine Kb ?_|refine Kv ?_|refine Ke ?_);simp only[e1,go_sem])|refine Kf ?_|refine Kg ?_|refine⟨_,c1,Kg ?_⟩|refine⟨_,⟨c1,rfl⟩,Kg ?_⟩|refine⟨_,c2,Kg ?_⟩|refine⟨_,⟨c2,rfl⟩,Kg ?_⟩|refine⟨_,c3,Kg ?_⟩|refine⟨_,⟨c3,rfl⟩,Kg ?_⟩|refine⟨_,c4,Kg ?_⟩|refine⟨_,⟨c4,rfl⟩,Kg ?_⟩|(apply Kp<;>intro _<;>try (exfalso;omega))
 subst hK
 refine Kn rfl ?_
 refine Xkk rfl fun K hK=>?_
 repeat' first|refine Kn rfl ?_|((first|refine Ka ?_|refine Kb ?_|refine Kv ?_|refine Ke ?_);simp only[e1,go_sem])|refine Kf ?_|refine Kg ?_|refine⟨_,c1,Kg ?_⟩|refine⟨_,⟨c1,rfl⟩,Kg ?_⟩|refine⟨_,c2,Kg ?_⟩|refine⟨_,⟨c2,rfl⟩,Kg ?_⟩|refine⟨_,c3,Kg ?_⟩|refine⟨_,⟨c3,rfl⟩,Kg ?_⟩|refine⟨_,c4,Kg ?_⟩|refine⟨_,⟨c4,rfl⟩,Kg ?_⟩|(apply Kp<;>intro _<;>try (exfalso;omega))
 subst hK
 refine Kn rfl ?_
 refine Xkk rfl fun K hK=>?_
 repeat' first|refine Kn rfl ?_|((first|refine Ka ?_|refine Kb ?_|refine Kv ?_|refine Ke ?_);simp only[e1,go_sem])|refine Kf ?_|refine Kg ?_|refine⟨_,c1,Kg ?_⟩|refine⟨_,⟨c1,rfl⟩,Kg ?_⟩|refine⟨_,c2,Kg ?_⟩|refine⟨_,⟨c2,rfl⟩,Kg ?_⟩|refine⟨_,c3,Kg ?_⟩|refine⟨_,⟨c3,rfl⟩,Kg ?_⟩|refine⟨_,c4,Kg ?_⟩|refine⟨_,⟨c4,rfl⟩,Kg ?_⟩|(apply Kp<;>intro _<;>try (exfalso;omega))
 subst hK
 refine Kn rfl ?_
 refine Xkk rfl fun K hK=>?_
 repeat' first|refine Kn rfl ?_|((first|refine Ka ?_|refine Kb ?_|refine Kv ?_|refine Ke ?_);simp only[e1,go_sem])|refine Kf ?_|refine Kg ?_|refine⟨_,c1,Kg ?_⟩|refine⟨_,⟨c1,rfl⟩,Kg ?_⟩|refine⟨_,c2,Kg ?_⟩|refine⟨_,⟨c2,rfl⟩,Kg ?_⟩|refine⟨_,c3,Kg ?_⟩|refine⟨_,⟨c3,rfl⟩,Kg ?_⟩|refine⟨_,c4,Kg ?_⟩|refine⟨_,⟨c4,rfl⟩,Kg ?_⟩|(apply Kp<;>intro _<;>try (exfalso;omega))
 subst hK
 refine Xhf 2 0 1 (by decide) rfl rfl ?_
 simp only[go_sem]
 repeat' first|refine Kn rfl ?_|((first|refine Ka ?_|refine Kb ?_|refine Kv ?_|refine Ke ?_);simp only[go_sem])|refine Kf ?_|refine Kg ?_|(apply Kp<;>intro _<;>try (exfalso;omega))
 refine Or.inr (Or.inr ⟨[1,0],.one (.clo (.func 82) [.ptr 2 0]),[prC g (Xgc g),.map (Xd6 []),.cells [.ptr 0 0]],(by simp only[Xaw,Xcv,rnV,rnA,Xc1,rn0,Xc0,Xbz,Xcx,rnC,Xaj,List.isEmpty_nil,Xag,reduceCtorEq,↓reduceIte,Qa,Qb,Qc,Qd,Qe,Qf,Qg,Qh,Qi,Qj,Qk,Ql,Qm,Qn,Qo,Qp,Qq,Qr];simp only[go_sem];exact⟨Wl2,Wgm g⟩),Kg ?_⟩)
 simp only[bkO,bkC,Xag]
 simp only[go_sem]
 repeat' first|refine Kn rfl ?_|((first|refine Ka ?_|refine Kb ?_|refine Kv ?_|refine Ke ?_);simp only[go_sem])|refine Kf ?_|refine Kg ?_|(apply Kp<;>intro _<;>try (exfalso;omega))
 have hst0:Xb7 [] (Xdn t)=if Xah (Xdn t) > 8000 then Xb7 [] (Xdn t) else Xdn t:=by
  by_cases hf:Xah (Xdn t) > 8000
  ·rw[if_pos hf]
  ·rw[if_neg hf]
   have:=Xiz [] (Xdn t) [] (by rw[List.nil_append];omega)
   rw[List.append_nil] at this;rw[this];rfl
 have hst1:Xah (Xb7 [] (Xdn t)) > 8000↔Xah (Xdn t) > 8000:=by
  by_cases hf:Xah (Xdn t) > 8000
  ·exact⟨fun _=>hf,fun _=>Xm2 _ _ (by rw[List.nil_append];exact hf)⟩
  ·rw[hst0,if_neg hf]
 refine Kt (fr 48 [(7,.one (.ptr 2 0)),(8,.one (.ptr 3 0)),(30,.one (.clo (.func 82) [.ptr 5 0]))]) ?_
 refine Kk 6 (by simp only[List.length_nil,List.length_cons];decide) (by simp only[go_sem]) (by simp only[List.take_succ_cons,List.take_zero,List.all_cons,List.all_nil,Xag];simp only[go_sem]) ?_
 simp only[go_sem]
 refine Y0b (f2:=82) (caps:=[.one (.ptr 5 0)]) (fun pd own'=>pd=(if Xah (Xdn t) > 8000 then some (.exit 0) else none)/\∃ m rest,own'=m::pbC g::.cells [.own 4 (Xb7 [] (Xdn t)).length]::.cells [.d (.int .i64 (Xah (Xb7 [] (Xdn t))))]::.row 1 (Xb7 [] (Xdn t)).length (Xp5 (Xb7 [] (Xdn t)))::rest) rfl ?_ Wnd ?_ ?_ ?_
 ·intro y;simp only[go_sem]
 ·rintro b rc hps ⟨hs,hta,htb⟩
  have hR:Xp6 gp g b rc:=by
   rintro⟨P0,gp0,np0,rs0,R0,rd0⟩ hP hgp m E out s n of hm hsz hsl
   dsimp only at hP hgp
   subst hP hgp
   refine⟨6,frP,rc,hs,_,_,stC m g (out++[s]) .dead (E++[.cells (itA s n of)]),(if Xah (out++[s]) > 8000 then some (.exit 0) else none),rfl,by rw[<- Array.length_toList,hps];rfl,hta,htb,?_,rfl,?_⟩
   ·rw[hps]
    unfold frP
    simp only[Xk8,Xk9,go_sem]
    repeat' first|refine Kn rfl ?_|((first|refine Ka ?_|refine Kb ?_|refine Kv ?_|refine Ke ?_);simp only[Xk8,Xk9,go_sem])|refine Kf ?_|refine Kg ?_|(apply Kp<;>intro _<;>try (exfalso;omega))
    refine Xfy ⟨rfl,?_⟩
    have hbs:(bT s).size=s.length:=Xgd s
    have hge:=Xz7 out
    have hk1:inK .i64 (((bT s).size:Int)+1):=by rw[hbs];simp[inK,IntKind.min,IntKind.max,IntKind.signed,IntKind.bits];omega
    have hsum:(Xah out:Int)+(((bT s).size:Int)+1)=((Xah (out++[s]):Nat):Int):=by rw[Xj1,hbs];omega
    have hk2:inK .i64 ((Xah (out++[s]):Nat):Int):=by rw[Xj1];simp[inK,IntKind.min,IntKind.max,IntKind.signed,IntKind.bits];omega
    have hp1:(out.length+1)*16<=140737488355328:=by omega
    have hp2:out.length+1 < lenMax:=by unfold lenMax;omega
    have hlen:(out++[s]).length=out.length+1:=by simp
    have hrow:Xp5 (out++[s])=Xp5 out++[[.str (bT s)]]:=by simp
    by_cases hf:Xah (out++[s]) > 8000
    ·have e3:decide (((Xah (out++[s]):Nat):Int) > 8000)=true:=by simp;omega
     have e4:decide (Xah (out++[s])<=8000)=false:=decide_eq_false (by omega)
     rw[if_pos hf,e4]
     repeat' first|refine Kn rfl ?_|((first|refine Ka ?_|refine Kb ?_|refine Kv ?_|refine Ke ?_);simp only[Xk8,Xk9,hsum,e3,go_sem])|refine Kf ?_|refine Kg ?_|refine⟨by simp,hp1,hp2,?_⟩|refine⟨hk1,?_⟩|refine⟨hk2,?_⟩|(apply Kp<;>intro _<;>try (exfalso;omega))
     exact X08 (id:=0) rfl ⟨⟨rfl,rfl⟩,by simp only[stC,hlen,hrow]⟩
    ·have e3:decide (((Xah (out++[s]):Nat):Int) > 8000)=false:=by simp;omega
     have e4:decide (Xah (out++[s])<=8000)=true:=decide_eq_true (by omega)
     rw[if_neg hf,e4]
     repeat' first|refine Kn rfl ?_|((first|refine Ka ?_|refine Kb ?_|refine Kv ?_|refine Ke ?_);simp only[Xk8,Xk9,hsum,e3,go_sem])|refine Kf ?_|refine Kg ?_|refine⟨by simp,hp1,hp2,?_⟩|refine⟨hk1,?_⟩|refine⟨hk2,?_⟩|(apply Kp<;>intro _<;>try (exfalso;omega))
     exact Xfy ⟨⟨rfl,rfl⟩,by simp only[stC,hlen,hrow]⟩
   ·by_cases hf:Xah (out++[s]) > 8000
    ·rw[if_pos hf,if_pos hf];rfl
    ·rw[if_neg hf,if_neg hf];rfl
  refine Xm1 (Yqa h hg hst hR hem) fun r post ⟨m,rest,hpost⟩=>?_
  rw[hpost]
  refine⟨_,_,rfl,?_,?_,m,_,rfl⟩
  ·split <;> simp
  ·by_cases hf:Xah (Xdn t) > 8000
   ·rw[if_pos (hst1.2 hf),if_pos hf]
   ·rw[if_neg (fun e=>hf (hst1.1 e)),if_neg hf]
 ·rintro own' ⟨hpd,m,rest,rfl⟩
  have hf:¬ Xah (Xdn t) > 8000:=fun hf=>by rw[if_pos hf] at hpd;cases hpd
  have e2:decide ((Xah (Xdn t):Int) > 8000)=false:=by simp;omega
  rw[hst0,if_neg hf,if_neg hf,if_neg hf]
  simp only[go_sem]
  repeat' first|refine Kn rfl ?_|((first|refine Ka ?_|refine Kb ?_|refine Kv ?_|refine Ke ?_);simp only[e2,go_sem])|refine Kf ?_|refine Kg ?_|(apply Kp<;>intro _<;>try (exfalso;omega))
  refine Xa6 4 ?_
  simp only[go_sem]
  repeat' first|refine Kn rfl ?_|((first|refine Ka ?_|refine Kb ?_|refine Kv ?_|refine Ke ?_);simp only[go_sem])|refine Kf ?_|refine Kg ?_|(apply Kp<;>intro _<;>try (exfalso;omega))|((first|refine Kh ?_|refine Ki rfl ?_);simp only[or_self,Qs,Qt,Qu,Qv,Qw,Qx,Qy,Qz,Za,go_sem])
  all_goals trace_state
 ·rintro c own' ⟨hpd,m,rest,rfl⟩
  have hf:Xah (Xdn t) > 8000:=Classical.byContradiction fun hf=>by rw[if_neg hf] at hpd;cases hpd
  rw[if_pos hf] at hpd
  cases hpd
  have e2:decide ((Xah (Xb7 [] (Xdn t)):Int) > 8000)=true:=by have:=hst1.2 hf;simp;omega
  refine⟨_,rfl,?_⟩
  rw[if_pos hf,if_pos hf]
  simp only[go_sem]
  repeat' first|refine Kn rfl ?_|((first|refine Ka ?_|refine Kb ?_|refine Kv ?_|refine Ke ?_);simp only[e2,go_sem])|refine Kf ?_|refine Kg ?_|(apply Kp<;>intro _<;>try (exfalso;omega))|((first|refine Kh ?_|refine Ki rfl ?_);simp only[e2,or_self,Qs,Qt,Qu,Qv,Qw,Qx,Qy,Qz,Za,go_sem])
  all_goals trace_state
open Classical in
noncomputable def emT (g:Gr):Tr:=if h:∃ (t:Tr) (met:List Int),EmW g 1 [0] [] [t] met/\NmW 0 [t] (X1z g g.l.length)/\(Xiw t).length=1+(flat g).length then h.choose else .mk 0 ⟨#[]⟩ z13 [] []
theorem Yh6 {g:Gr} (hg:Tdy g) (hd:Xd9 g):∃ met,EmW g 1 [0] [] [emT g] met/\NmW 0 [emT g] (X1z g g.l.length)/\(Xiw (emT g)).length=1+(flat g).length:=by
 have h:=Ypy hg hd
 unfold emT
 rw[dif_pos h]
 exact h.choose_spec
open Classical in
noncomputable def Xez (g:Gr):List (List UInt8) × Int :=
 if chk g=none/\g=Xau g then (if Xd9 g then (if Xee g > 200 then ([],71) else if Xah (Xdn (emT g)) > 8000 then ([],20) else (Xdn (emT g),0)) else ([],73)) else ([],72)
theorem Wun {g:Gr} (hs:Xc4 g) (h:chk g=none/\g=Xau g):Tdy g:=by
 have:=Good.tdy ⟨h.1,hs⟩
 rwa [<- h.2] at this
theorem X0c {g:Gr} (h:¬ (chk g=none/\g=Xau g)):Xez g=([],72):=by unfold Xez;rw[if_neg h]
theorem Xsp {g:Gr} (h:chk g=none/\g=Xau g) (hd:¬ Xd9 g):Xez g=([],73):=by unfold Xez;rw[if_pos h,if_neg hd]
theorem Xsq {g:Gr} (h:chk g=none/\g=Xau g) (hd:Xd9 g) (hp:Xee g > 200):Xez g=([],71):=by unfold Xez;rw[if_pos h,if_pos hd,if_pos hp]
theorem Xsr {g:Gr} (h:chk g=none/\g=Xau g) (hd:Xd9 g) (hp:¬ Xee g > 200) (hl:Xah (Xdn (emT g)) > 8000):Xez g=([],20):=by unfold Xez;rw[if_pos h,if_pos hd,if_neg hp,if_pos hl]
theorem Xup {g:Gr} (h:chk g=none/\g=Xau g) (hd:Xd9 g) (hp:¬ Xee g > 200) (hl:¬ Xah (Xdn (emT g)) > 8000):Xez g=(Xdn (emT g),0):=by unfold Xez;rw[if_pos h,if_pos hd,if_neg hp,if_neg hl]
theorem Yh7 (g:Gr):Xah (Xez g).1<=8000:=by
 unfold Xez
 split
 ·split
  ·split
   ·simp[Xah]
   ·split
    ·simp[Xah]
    ·show Xah (Xdn (emT g))<=8000;omega
  ·simp[Xah]
 ·simp[Xah]
theorem Xss (h:Env13 gp) {g:Gr} (hs:Xc4 g) (hst:∀ x∈g.l,x.short):Does QP gp 26 [g.v] (.tup [.one (.d (.sl (Xp5 (Xez g).1))),vi (Xez g).2]):=by
 by_cases ht:chk g=none/\g=Xau g
 ·have hg:=Wun hs ht
  have c1:=Xpr h.e g hs
  rw[decide_eq_true ht] at c1
  by_cases hd:Xd9 g
  ·by_cases hp:Xee g > 200
   ·have c2:=Yh4 (b:=false) h.e hg (by simp[hd])
    have c3:=Xsb h.e hg
    have c4:=X0b h.e hg
    have e1:decide (Xee g > 200)=true:=decide_eq_true hp
    rw[Xsq ht hd hp]
    refine Xv4 ?_
    simp only[go_sem]
    repeat' first|refine Kn rfl ?_|((first|refine Ka ?_|refine Kb ?_|refine Kv ?_|refine Ke ?_);simp only[e1,go_sem])|refine Kf ?_|refine Kg ?_|refine⟨_,c1,Kg ?_⟩|refine⟨_,⟨c1,rfl⟩,Kg ?_⟩|refine⟨_,c2,Kg ?_⟩|refine⟨_,⟨c2,rfl⟩,Kg ?_⟩|refine⟨_,c3,Kg ?_⟩|refine⟨_,⟨c3,rfl⟩,Kg ?_⟩|refine⟨_,c4,Kg ?_⟩|refine⟨_,⟨c4,rfl⟩,Kg ?_⟩|(apply Kp<;>intro _<;>try (exfalso;omega))|((first|refine Kh ?_|refine Ki rfl ?_);simp only[e1,or_self,Qs,Qt,Qu,Qv,Qw,Qx,Qy,Qz,Za,go_sem])
    all_goals trace_state
   ·obtain⟨met,hem,_⟩:=Yh6 hg hd
    have:=Yh5 h hg hst hd hp hem
    by_cases hl:Xah (Xdn (emT g)) > 8000
    ·rw[Xsr ht hd hp hl];rwa [if_pos hl,if_pos hl] at this
    ·rw[Xup ht hd hp hl];rwa [if_neg hl,if_neg hl] at this
  ·have c2:=Yh4 (b:=true) h.e hg (by simp[hd])
   rw[Xsp ht hd]
   refine Xv4 ?_
   simp only[go_sem]
   repeat' first|refine Kn rfl ?_|((first|refine Ka ?_|refine Kb ?_|refine Kv ?_|refine Ke ?_);simp only[go_sem])|refine Kf ?_|refine Kg ?_|refine⟨_,c1,Kg ?_⟩|refine⟨_,⟨c1,rfl⟩,Kg ?_⟩|refine⟨_,c2,Kg ?_⟩|refine⟨_,⟨c2,rfl⟩,Kg ?_⟩|(apply Kp<;>intro _<;>try (exfalso;omega))|((first|refine Kh ?_|refine Ki rfl ?_);simp only[or_self,Qs,Qt,Qu,Qv,Qw,Qx,Qy,Qz,Za,go_sem])
   all_goals trace_state
 ·have c1:=Xpr h.e g hs
  rw[decide_eq_false ht] at c1
  rw[X0c ht]
  refine Xv4 ?_
  simp only[go_sem]
  repeat' first|refine Kn rfl ?_|((first|refine Ka ?_|refine Kb ?_|refine Kv ?_|refine Ke ?_);simp only[go_sem])|refine Kf ?_|refine Kg ?_|refine⟨_,c1,Kg ?_⟩|refine⟨_,⟨c1,rfl⟩,Kg ?_⟩|(apply Kp<;>intro _<;>try (exfalso;omega))|((first|refine Kh ?_|refine Ki rfl ?_);simp only[or_self,Qs,Qt,Qu,Qv,Qw,Qx,Qy,Qz,Za,go_sem])
  all_goals trace_state
theorem Wgn (h:Env13 gp) {g:Gr} (hs:Xc4 g) (hst:∀ x∈g.l,x.short):Does QP gp 13 [g.v] (.tup [.one (.d (.sl (Xp5 (Xez g).1))),vi (Xez g).2]):=by
 have c1:=Xss h hs hst
 generalize Xez g=o at *
 refine Wi4 ?_
 simp only[go_sem]
 repeat' first|refine Kn rfl ?_|((first|refine Ka ?_|refine Kb ?_|refine Kv ?_|refine Ke ?_);simp only[go_sem])|refine Kf ?_|refine Kg ?_|refine⟨_,c1,Kg ?_⟩|refine⟨_,⟨c1,rfl⟩,Kg ?_⟩|(apply Kp<;>intro _<;>try (exfalso;omega))|((first|refine Kh ?_|refine Ki rfl ?_);simp only[or_self,Qs,Qt,Qu,Qv,Qw,Qx,Qy,Qz,Za,go_sem])
 all_goals trace_state
theorem X16 (l:List (List UInt8)) (s:List UInt8):Xcj (l++[s])=Xcj l++(s++[10]):=by unfold Xcj;rw[List.flatMap_append];simp
theorem Xoh (l:List (List UInt8)) (j:Nat):Xah (l.take j)<=Xah l:=by
 have:=Xcz (l.take j) (l.drop j)
 rw[List.take_append_drop] at this;omega
theorem Xst (h:Env13 gp) {g:Gr} (hs:Xc4 g) (hst:∀ x∈g.l,x.short):Does QP gp 11 [g.v] (.tup [vs (bT (Xcj (Xez g).1)),vi (Xez g).2]):=by
 have c1:=Xss h hs hst
 have hsz:=Yh7 g
 generalize Xez g=o at *
 obtain⟨L,e⟩:=o
 have hsz:Xah L<=8000:=hsz
 refine Wi0 ?_
 simp only[go_sem]
 repeat' first|refine Kn rfl ?_|((first|refine Ka ?_|refine Kb ?_|refine Kv ?_|refine Ke ?_);simp only[go_sem])|refine Kf ?_|refine Kg ?_|refine⟨_,c1,Kg ?_⟩|refine⟨_,⟨c1,rfl⟩,Kg ?_⟩|(apply Kp<;>intro _<;>try (exfalso;omega))
 refine Kt (fr 26 [(5,vi e),(6,.one (.ptr 0 0)),(14,.one (.d (.sl (Xp5 L)))),(15,vi L.length),(16,vi (0:Nat))]) ?_
 refine Km (fun mz sz=>∃ j:Nat,j<=L.length/\mz=L.length - j/\(0<=j)/\sz=⟨fr 26 [(5,vi e),(6,.one (.ptr 0 0)),(14,.one (.d (.sl (Xp5 L)))),(15,vi L.length),(16,vi j)],[.bld TB (.own 1 j),.brow TU j (Xcj (L.take j))]⟩) (L.length) ⟨0,Nat.zero_le _,(Nat.sub_zero _).symm,?_,rfl⟩ ?_
 ·exact Nat.zero_le _
 rintro _ _ ⟨j,hj,rfl,-,rfl⟩
 simp only[go_sem]
 by_cases hjl:j < L.length
 ·obtain⟨s,hsj⟩:=Xal hjl
  have hik:inK .i64 ((j:Int)+1):=by
   have:=Xz7 L
   simp[inK,IntKind.min,IntKind.max,IntKind.signed,IntKind.bits];omega
  have htl:(Xcj (L.take j)).length<=8000:=by rw[Xsg];have:=Xoh L j;omega
  have hsl:s.length<=8000:=by
   have h1:=Xoh L (j+1)
   rw[Xg7 hsj,Xj1] at h1;omega
  have e1:bT s++(⟨#[10]⟩:ByteArray)=bT (s++[10]):=Xoc s [10]
  have hsz2:(((bT s).size+#[(10:UInt8)].size:Nat):Int)<=9223372036854775807:=by rw[Xgd];simp;omega
  have bW:=Xmt (gp:=gp) (ver:=j) (bs:=Xcj (L.take j)) (s:=bT (s++[10])) (by rw[Xgd];simp;omega)
  have e2:Xcj (L.take j)++(bT (s++[10])).data.toList=Xcj (L.take (j+1)):=by rw[Xg7 hsj,X16];simp[bT]
  rw[e2] at bW
  repeat' first|refine Kn rfl ?_|((first|refine Ka ?_|refine Kb ?_|refine Kv ?_|refine Ke ?_);simp only[e1,go_sem])|refine Kf ?_|refine Kg ?_|refine⟨_,⟨Kq _,(by first|exact Xad hsj|(rw[Int.toNat_natCast];exact Xad hsj)),rfl⟩,Kg ?_⟩|refine⟨hsz2,?_⟩|(apply Kp<;>intro _<;>try (exfalso;omega))
  refine Or.inr (Or.inr ⟨[0,1],.tup [vi (bT (s++[10])).size,.one (.d .nilI)],[.bld TB (.own 1 (j+1)),.brow TU (j+1) (Xcj (L.take (j+1)))],(by simp only[Xaw,Xcv,rnV,rnA,Xc1,rn0,Xc0,Xbz,Xcx,rnC,Xaj,List.isEmpty_nil,reduceCtorEq,↓reduceIte,Qa,Qb,Qc,Qd,Qe,Qf,Qg,Qh,Qi,Qj,Qk,Ql,Qm,Qn,Qo,Qp,Qq,Qr];simp only[go_sem];exact⟨Yb0,bW⟩),Kg ?_⟩)
  simp only[go_sem]
  repeat' first|refine Kn rfl ?_|((first|refine Ka ?_|refine Kb ?_|refine Kv ?_|refine Ke ?_);simp only[go_sem])|refine Kf ?_|refine Kg ?_|refine⟨hik,?_⟩|(apply Kp<;>intro _<;>try (exfalso;omega))
  refine Kt (fr 26 [(5,vi e),(6,.one (.ptr 0 0)),(14,.one (.d (.sl (Xp5 L)))),(15,vi L.length),(16,vi (j+1))]) ?_
  refine Ku 2 ?_
  simp only[go_sem]
  refine Kl ⟨L.length - (j+1),by omega,j+1,by omega,rfl,?_,rfl⟩
  exact Nat.zero_le _
 ·obtain rfl:L.length=j:=by omega
  rw[List.take_length]
  repeat' first|refine Kn rfl ?_|((first|refine Ka ?_|refine Kb ?_|refine Kv ?_|refine Ke ?_);simp only[go_sem])|refine Kf ?_|refine Kg ?_|(apply Kp<;>intro _<;>try (exfalso;omega))
  refine Or.inr (Or.inr ⟨[0,1],vs (bT (Xcj L)),[.dead,.dead],(by simp only[Xaw,Xcv,rnV,rnA,Xc1,rn0,Xc0,Xbz,Xcx,rnC,Xaj,List.isEmpty_nil,reduceCtorEq,↓reduceIte,Qa,Qb,Qc,Qd,Qe,Qf,Qg,Qh,Qi,Qj,Qk,Ql,Qm,Qn,Qo,Qp,Qq,Qr];simp only[go_sem];exact⟨by kernel_rfl,Xgq⟩),Kg ?_⟩)
  simp only[go_sem]
  repeat' first|refine Kn rfl ?_|((first|refine Ka ?_|refine Kb ?_|refine Kv ?_|refine Ke ?_);simp only[go_sem])|refine Kf ?_|refine Kg ?_|(apply Kp<;>intro _<;>try (exfalso;omega))|((first|refine Kh ?_|refine Ki rfl ?_);simp only[or_self,Qs,Qt,Qu,Qv,Qw,Qx,Qy,Qz,Za,go_sem])
  all_goals trace_state
theorem Wuo (h:Env13 gp) {g:Gr} (hs:Xc4 g) (hst:∀ x∈g.l,x.short):Does QP gp 15 [g.v] (.tup [vi (Xah (Xez g).1),vi (Xez g).2]):=by
 have c1:=Xst h hs hst
 have e1:(((bT (Xcj (Xez g).1)).size:Nat):Int)=((Xah (Xez g).1:Nat):Int):=by rw[Xgd,Xsg]
 rw[<- e1]
 generalize Xez g=o at *
 refine Wi9 ?_
 simp only[go_sem]
 repeat' first|refine Kn rfl ?_|((first|refine Ka ?_|refine Kb ?_|refine Kv ?_|refine Ke ?_);simp only[go_sem])|refine Kf ?_|refine Kg ?_|refine⟨_,c1,Kg ?_⟩|refine⟨_,⟨c1,rfl⟩,Kg ?_⟩|(apply Kp<;>intro _<;>try (exfalso;omega))|((first|refine Kh ?_|refine Ki rfl ?_);simp only[or_self,Qs,Qt,Qu,Qv,Qw,Qx,Qy,Qz,Za,go_sem])
 all_goals trace_state
def W1a (g:Gr) (j:Nat):Int:=((g.l[j]?).map fun x=>(x.kids.length:Int)).getD 0
end Go.Fw.L07
