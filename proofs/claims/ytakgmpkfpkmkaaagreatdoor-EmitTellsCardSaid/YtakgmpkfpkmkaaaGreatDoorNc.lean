/- Chapter 13: a node's items. -/
import Derived.Test.YtakgmpkfpkmkaaaGreatDoorNb
import Derived.Test.YtakgmpkfpkmkaaaGreatDoorEb
import Derived.Test.YtakgmpkfpkmkaaaGreatDoorVy
set_option linter.all false
namespace Go.Fw.L07
open Go Go.Fw
open Go.Fw.Sh renaming intro->Kg
open Go.Fw renaming Xdt->Ka,Xd2->Kf,X4q->Kj,Xcp->Kt,Xlj->Kk,Xfl->Ku,Xco->Kl,Xeg->Km,Gx->Kn
open Go.Fw renaming Xbs->Ka, Xbw->Ka, Xby->Ka, Xbz->Ka
open Go.Fw renaming Xdt->Kw, Xbs->Kw, Xbw->Kw, Xby->Kw, Xbz->Kw, Xhh->Kw, Xd3->Kw
open Go.Fw.Sh renaming intro->Kf
open Int renaming natCast_nonneg->Kq
open List renaming getElem?_eq_some_iff->Kr
open And renaming intro->Kp
open Go.Proofs.Tryz renaming prog->QP
open Nat renaming reduceAdd->Qa,reduceSub->Qb,reduceMul->Qc,reduceLeDiff->Qd,reduceLT->Qe,reduceEqDiff->Qf
open Int renaming reduceToNat->Qg,reduceLT->Qh,reduceLE->Qi,reduceGT->Qj,reduceGE->Qk,reduceEq->Ql,reduceNe->Qm,reduceBEq->Qn,reduceBNe->Qo,reduceAdd->Qp,reduceSub->Qq,reduceNeg->Qr
set_option maxRecDepth 4000
variable {gp:Heap}
abbrev mpC (met:List Int):Ch:=.map (Xec met)
abbrev lpR (l:Nat) (rc:Loop):Ch:=.lp l frP rc .ready none
abbrev lpD (l:Nat) (rc:Loop):Ch:=.lp l frP rc .done (some (.exit 0))
def ItR (g:Gr) (l:Nat) (rc:Loop) (met':List Int) (out new:List (List UInt8)) (r:V) (post:List Ch):Prop :=
 (Xag (out++new)<=8000->r=vb true/\post=stC (mpC met') g (out++new) (lpR l rc) [])/\(8000 < Xag (out++new)->r=vb false/\post=stC .dead g (Xbv out new) (lpD l rc) [])
theorem Xcb {α:Type} {l:List α} {j:Nat} {x:α} (h:l[j]?=some x):l.take (j+1)=l.take j++[x]:=(Xbx h).symm
theorem Xpl (n:Nat):∀ (hs:List (List UInt8)) (q:List Tr) (j:Nat) (h:List UInt8) (t:Tr),hs[j]?=some h->q[j]?=some t->lnK n (hs.take (j+1)) (q.take (j+1))=lnK n (hs.take j) (q.take j)++lnT n h t
 | h0::hs,t0::q,0,h,t,e1,e2=>by
  simp at e1 e2;subst e1 e2
  simp only[List.take_succ_cons,List.take_zero]
  simp[Xct,Xbu]
 | h0::hs,t0::q,j+1,h,t,e1,e2=>by
  simp only[List.take_succ_cons]
  rw[Xct,Xct,Xpl n hs q j h t (by simpa using e1) (by simpa using e2),List.append_assoc]
 | [],_,_,_,_,e,_=>by simp at e
 | _::_,[],_,_,_,_,e=>by simp at e
theorem Ym9 (n:Nat) (hs:List (List UInt8)) (q:List Tr) (j:Nat):lnK n hs q=lnK n (hs.take j) (q.take j)++lnK n (hs.drop j) (q.drop j):=by
 induction j generalizing hs q with
 | zero=>simp[Xbu]
 | succ j ih =>
  cases hs with
  | nil=>cases q <;> simp[lnK]
  | cons h hs =>
   cases q with
   | nil=>simp[Xbu]
   | cons t q=>simp only[List.take_succ_cons,List.drop_succ_cons];rw[Xct,Xct,ih hs q,List.append_assoc]
theorem X21 {α β:Type} (f:α->List β) {l:List α} {x:α} (h:x∈l):(f x).length<=(l.flatMap f).length:=by
 induction l with
 | nil=>cases h
 | cons y l ih =>
  rw[List.flatMap_cons,List.length_append]
  rcases List.mem_cons.1 h with rfl|h
  ·omega
  ·have:=ih h;omega
theorem Xgm {g:Gr} (hg:Tdy g) {i:Nat} {x:Nd} (hx:g.l[i]?=some x) (hk:x.kids≠[]):(Xar x.k x.keys x.kids.length).length=x.kids.length:=by
 rcases Xgk hg hx with ⟨_,h1,_⟩|⟨h0,_⟩|⟨h0,h1,_⟩
 ·exact absurd h1 hk
 ·unfold Xar;rw[if_pos h0];simp
 ·unfold Xar;rw[if_neg (by omega)];simp[h1]
theorem Xft {g:Gr} (hg:Tdy g) (hst:∀ x∈g.l,x.short) {i:Nat} {x:Nd} (hx:g.l[i]?=some x):∀ h∈Xar x.k x.keys x.kids.length,h.length<=1700001:=by
 intro h hm
 rcases Xgk hg hx with ⟨h0,_,h2,_⟩|⟨h0,_⟩|⟨h0,_,h2,_⟩
 ·unfold Xar at hm;rw[if_neg (by omega),h2] at hm;simp at hm
 ·unfold Xar at hm;rw[if_pos h0,List.mem_replicate] at hm;rw[hm.2];simp
 ·unfold Xar at hm
  rw[if_neg (by omega)] at hm
  obtain⟨y,hy,rfl⟩:=List.mem_map.1 hm
  have:=Xt0 (List.all_eq_true.1 h2 y hy) ((hst x (List.mem_of_getElem? hx)).2.2.2 y hy)
  simp;omega
theorem Xfb {g:Gr} (hg:Tdy g) (hst:∀ x∈g.l,x.short) {i:Nat} {x:Nd} (hx:g.l[i]?=some x):(Xfs x).length<=1700000:=by
 rcases Xgk hg hx with ⟨h0,_,_,h2⟩|⟨h0,_⟩|⟨h0,_⟩
 ·have:=Xt0 h2 (hst x (List.mem_of_getElem? hx)).2.2.1
  show (if x.k=0 then scB x.x else if x.k=1 then _ else _:List UInt8).length<=_
  rw[if_pos h0];exact this
 ·show (if x.k=0 then scB x.x else if x.k=1 then _ else _:List UInt8).length<=_
  rw[if_neg (by omega),if_pos h0];simp
 ·show (if x.k=0 then scB x.x else if x.k=1 then _ else _:List UInt8).length<=_
  rw[if_neg (by omega),if_neg (by omega)];simp
theorem Xb4 (n:Int) (h:n<=1000):(Xaj n).data.toList.length<=22:=by
 by_cases h0:0 < n
 ·rw[Xi4 h0]
  have:=Lib.itoa_length_le n (by omega) (by omega)
  simp only[List.length_cons];omega
 ·rw[Xe8 h0];simp
theorem Jdx (d:Nat) (h:2<=d):((2*(d - 2):Nat):Int)+2=((2*(d+1 - 2):Nat):Int):=by omega
set_option maxHeartbeats 4000000 in
theorem Wwj (h:Env13 gp) {g:Gr} (hg:Tdy g) (hst:∀ x∈g.l,x.short) {l:Nat} {rc:Loop} (hR:Xpk gp g l rc):∀ (N:Nat) {d i:Nat} {x:Nd} {met met':List Int} {q:List Tr} {out:List (List UInt8)},
  (q.flatMap Xch).length<=N->g.l[i]?=some x->x.kids≠[]->EmW g d x.kids met q met'->2<=d->d<=24->Xag out<=8000 ->
  Tri QP gp 85 [.one (.ptr 1 0),yV l,vi i,vi ((2*(d - 2):Nat):Int)] (stC (mpC met) g out (lpR l rc) []) (ItR g l rc met' out (lnK (2*(d - 2)) (Xar x.k x.keys x.kids.length) q)):=by
 intro N
 induction N with
 | zero =>
  intro d i x met met' q out hN hx hk hem
  exfalso
  have h1:=Xhk q
  have h2:=hem.len
  have:0 < x.kids.length:=by cases hc:x.kids with|nil=>exact absurd hc hk|cons=>simp
  omega
 | succ N ih =>
 intro d i x met met' q out hN hx hk hem hd2 hd24 hout
 have c1:=Wwh h hg hst (Xel g) met hx hk
 have c2:=kids (gp:=gp) g i hg.good.s
 rw[show atE g.l i=0 from by unfold atE;rw[if_pos (by have:=(Kr.1 hx).1;omega)],Xkc hx,hg.kids x (List.mem_of_getElem? hx)] at c2
 have hhl:=Xgm hg hx hk
 have hhs:=Xft hg hst hx
 have hsx:=hg.good.s x (List.mem_of_getElem? hx)
 have hql:=hem.len
 generalize hhd:Xar x.k x.keys x.kids.length=hd at *
 refine Wf9 ?_
 simp only[go_sem]
 repeat' first|refine Kn rfl ?_|(refine Ka ?_;simp only[go_sem])|refine Kf ?_|(apply Kp<;>intro _<;>try (exfalso;omega))
 refine Or.inr (Or.inr ⟨[1,0],.one (.d (.sl (Xey hd))),[prC g (Xel g),.map (Xec met)],(by simp only[Xay,Xcl,rnV,rnA,Xcx,rn0,Xcw,Xbo,Xcm,rnC,Xak,List.isEmpty_nil,Xah,reduceCtorEq,↓reduceIte,Qa,Qb,Qc,Qd,Qe,Qf,Qg,Qh,Qi,Qj,Qk,Ql,Qm,Qn,Qo,Qp,Qq,Qr];simp only[go_sem];exact⟨Whu,c1⟩),Kg ?_⟩)
 simp only[bkO,bkC,Xah]
 simp only[go_sem]
 repeat' first|refine Kn rfl ?_|(refine Ka ?_;simp only[go_sem])|refine Kf ?_|refine⟨_,c2,Kg ?_⟩|refine⟨_,⟨c2,rfl⟩,Kg ?_⟩|(apply Kp<;>intro _<;>try (exfalso;omega))
 have hin:=Jdx d hd2
 refine Kt (fr 72 [(0,.one (.ptr 1 0)),(1,yV l),(3,vi ((2*(d - 2):Nat):Int)),(8,vb false),(9,.one (.d (.sl (Xey hd)))),(30,.one (.d (.sl (Xad x.kids)))),(31,vi x.kids.length),(32,vi ((0:Nat):Int))]) ?_
 refine Kk 7 (by simp only[List.length_nil,List.length_cons];decide) (by simp only[go_sem]) (by simp only[List.take_succ_cons,List.take_zero,List.all_cons,List.all_nil,Xah];simp only[Xg3,go_sem]) ?_
 simp only[go_sem]
 refine Km (fun mz sz=>∃ (j:Nat) (mj:List Int),j<=x.kids.length/\mz=x.kids.length - j/\EmW g d (x.kids.drop j) mj (q.drop j) met'/\Xag (out++lnK (2*(d - 2)) (hd.take j) (q.take j))<=8000 /\
  sz=⟨fr 72 [(0,.one (.ptr 1 0)),(1,yV l),(3,vi ((2*(d - 2):Nat):Int)),(8,vb false),(9,.one (.d (.sl (Xey hd)))),(30,.one (.d (.sl (Xad x.kids)))),(31,vi x.kids.length),(32,vi (j:Int))],stC (mpC mj) g (out++lnK (2*(d - 2)) (hd.take j) (q.take j)) (lpR l rc) []⟩) _ ⟨0,met,Nat.zero_le _,rfl,hem,by rw[List.take_zero,List.take_zero,Xbu,List.append_nil];exact hout,by rw[List.take_zero,List.take_zero,Xbu,List.append_nil];rfl⟩ ?_
 rintro _ _ ⟨j,mj,hj,rfl,hemj,hoj,rfl⟩
 simp only[go_sem]
 by_cases hjl:j < x.kids.length
 case neg =>
  obtain rfl:x.kids.length=j:=by omega
  rw[show hd.take x.kids.length=hd from List.take_of_length_le (by omega),show q.take x.kids.length=q from List.take_of_length_le (by omega)] at hoj ⊢
  rw[List.drop_of_length_le (Nat.le_refl _)] at hemj
  rw[show q.drop x.kids.length=[] from List.drop_of_length_le (by omega)] at hemj
  cases hemj
  repeat' first|refine Kn rfl ?_|(refine Kw ?_;simp only[go_sem])|refine Kf ?_|(apply Kp<;>intro _<;>try (exfalso;omega))
  exact⟨rfl,rfl⟩
 case pos =>
  obtain⟨cj,hcj⟩:=Xaf hjl
  obtain⟨hdj,hhj⟩:=Xaf (l:=hd) (i:=j) (by omega)
  obtain⟨tj,htj⟩:=Xaf (l:=q) (i:=j) (by omega)
  have hsn:=Xpl (2*(d - 2)) hd q j hdj tj hhj htj
  have hspl:=Ym9 (2*(d - 2)) hd q (j+1)
  have e1:x.kids.drop j=cj::x.kids.drop (j+1):=by
   obtain⟨h2,rfl⟩:=Kr.1 hcj
   exact List.drop_eq_getElem_cons h2
  have e2:q.drop j=tj::q.drop (j+1):=by
   obtain⟨h2,rfl⟩:=Kr.1 htj
   exact List.drop_eq_getElem_cons h2
  rw[e1,e2] at hemj
  have hhdj:hdj.length<=1700001:=hhs hdj (List.mem_of_getElem? hhj)
  have hnew:lnK (2*(d - 2)) hd q=lnK (2*(d - 2)) (hd.take j) (q.take j)++(lnT (2*(d - 2)) hdj tj++lnK (2*(d - 2)) (hd.drop (j+1)) (q.drop (j+1))):=by
   rw[hspl,hsn,List.append_assoc]
  have hflat:(Xch tj).length<=N+1:=by
   have h1:=hN
   obtain⟨hl2,rfl⟩:=Kr.1 htj
   have h2:=X21 Xch (List.getElem_mem hl2)
   omega
  generalize hB:lnK (2*(d - 2)) (hd.drop (j+1)) (q.drop (j+1))=B at *
  generalize hnn:lnK (2*(d - 2)) hd q=new at *
  generalize hP:lnK (2*(d - 2)) (hd.take j) (q.take j)=P at *
  generalize hP2:lnK (2*(d - 2)) (hd.take (j+1)) (q.take (j+1))=P2 at *
  have hstop:∀ s r,lnT (2*(d - 2)) hdj tj++B=s::r->Xbv out new=Xbv (out++P) (s::r):=fun s r hs=>by rw[hnew,hs,Xii out P _ hoj]
  have hsize:Xag (out++new)=Xag (out++P)+(Xag (lnT (2*(d - 2)) hdj tj)+Xag B):=by rw[hnew,<- List.append_assoc,Xcu,Xcu (lnT _ _ _)]
  have hik:inK .i64 ((j:Int)+1):=Xaw (by omega)
  have key:(∃ w,stB tj=32::w/\tj.kids=[]/\w.length<=1700000/\EmW g d (x.kids.drop (j+1)) mj (q.drop (j+1)) met' /\
    Tri QP gp 83 [.one (.ptr 0 0),vi cj] [prC g (Xel g),.map (Xec mj)] (fun r post=>r=.one (.d (Xt1 (bT w)))/\post=[prC g (Xel g),.map (Xec mj)])) \/
    (∃ (i':Nat) (y:Nd) (q1:List Tr) (met1:List Int),cj=(i':Int)/\g.l[i']?=some y/\y.kids≠[]/\d < 24/\EmW g (d+1) y.kids (mj++[cj]) q1 met1/\EmW g d (x.kids.drop (j+1)) met1 (q.drop (j+1)) met'/\tj=.mk y.k (Xaj (anc g i')) y.x y.keys q1 /\
    Tri QP gp 83 [.one (.ptr 0 0),vi cj] [prC g (Xel g),.map (Xec mj)] (fun r post=>r=.one (.d (X2z cj (Xaj (anc g i'))))/\post=[prC g (Xel g),.map (Xec (mj++[cj]))])):=by
   clear hR ih hsn hspl hnew hB hnn hP hP2 hstop hsize
   generalize x.kids.drop (j+1)=tl at *
   generalize q.drop (j+1)=ql at *
   cases hemj with
   | @leaf _ i' y _ _ _ _ hy hyk hrest =>
    refine .inl ⟨Xfs y,?_,rfl,Xfb hg hst hy,hrest,Xmc h hg hst (Xel g) mj hy hyk⟩
    show (if y.k=3 then _ else if ([]:List Tr)=[] then _ else _)=_
    rw[if_neg (Xca hg hy),if_pos rfl]
   | @ref _ i' y _ _ _ _ hy hyk hm ha hrest =>
    refine .inl ⟨42::(Xaj (anc g i')).data.toList,?_,rfl,?_,hrest,X20 h hg mj hy hyk hm ha⟩
    ·show (if (3:Int)=3 then _ else _)=_
     rw[if_pos rfl];rfl
    ·have:=Xb4 (anc g i') (Xgl h hg (Kr.1 hy).1)
     simp only[List.length_cons];omega
   | @node _ i' y _ _ met1 _ q1 _ hy hyk hm hd24' h1 h2 =>
    exact .inr ⟨i',y,q1,met1,rfl,hy,hyk,hd24',h1,h2,rfl,Xmd h hg mj hy hyk hm⟩
  rw[Xd9] at hsize
  simp only[Xd9] at hstop
  rcases key with ⟨w,hw,hwk,hwl,hrest,c3⟩|⟨i',y,q1,met1,rfl,hy,hyk,hdd,hem1,hrest,rfl,c3⟩
  ·have c4:=Ym7 (gp:=gp) (bT w) (by rw[Xdp];omega)
   have c5:Does QP gp 84 [vi ((2*(d - 2):Nat):Int),vi (-1),.one (.d (.sl [[.str (bT hdj)],[.str (bT (32::w))]]))] (itV (Xbf (2*(d - 2))++(hdj++stB tj)) ((2*(d - 2):Nat):Int) (-1)):=by
    have:=X1j (gp:=gp) (2*(d - 2)) (by omega) (-1) [bT hdj,bT (32::w)] (by simp) (by simp[bT];omega) (by simp)
    rw[hw]
    have e:([bT hdj,bT (32::w)].flatMap fun s=>s.data.toList)=hdj++32::w:=by simp[bT]
    rw[e] at this
    exact this
   rw[hwk,Xbu] at hsize
   rw[hwk,Xbu] at hstop
   generalize hs1:Xbf (2*(d - 2))++(hdj++stB tj)=s1 at *
   have hs1l:s1.length<=100000000:=by rw[<- hs1,hw];simp[Xbf];omega
   have hst1:Xag (out++P++[s1])=Xag (out++P)+Xag [s1]:=Xcu _ _
   have hr:=fun (S:Sx) h1 h2 E=>hR S h1 h2 (mpC mj) E (out++P) s1 ((2*(d - 2):Nat):Int) (-1) (Xah mj) hoj hs1l
   have hPn:out++P2=out++P++[s1]:=by rw[hsn,Xd9,hwk,Xbu,hs1,List.append_assoc]
   by_cases hfit:Xag (out++P++[s1])<=8000
   case' pos =>
    have hb1:decide (Xag (out++P++[s1])<=8000)=true:=decide_eq_true hfit
    have hb2:¬ Xag (out++P++[s1]) > 8000:=by omega
    simp only[hb1,if_neg hb2] at hr
   case' neg =>
    have hb1:decide (Xag (out++P++[s1])<=8000)=false:=decide_eq_false hfit
    have hb2:Xag (out++P++[s1]) > 8000:=by omega
    simp only[hb1,if_pos hb2] at hr
   all_goals
    repeat' first|refine Kn rfl ?_|(refine Ka ?_;simp only[go_sem])|refine Kf ?_|refine⟨_,⟨Kq _,(Xab hcj),rfl⟩,Kg ?_⟩|(apply Kp<;>intro _<;>try (exfalso;omega))
    refine Or.inr (Or.inr ⟨[1,0],.one (.d (Xt1 (bT w))),[prC g (Xel g),.map (Xec mj)],(by simp only[Xay,Xcl,rnV,rnA,Xcx,rn0,Xcw,Xbo,Xcm,rnC,Xak,List.isEmpty_nil,Xah,reduceCtorEq,↓reduceIte,Qa,Qb,Qc,Qd,Qe,Qf,Qg,Qh,Qi,Qj,Qk,Ql,Qm,Qn,Qo,Qp,Qq,Qr];simp only[go_sem];exact⟨Xq3,c3⟩),Kg ?_⟩)
    simp only[bkO,bkC,Xah]
    simp only[go_sem]
    repeat' first|refine Kn rfl ?_|(refine Ka ?_;simp only[go_sem])|refine Kf ?_|refine⟨_,c5,Kg ?_⟩|refine⟨_,⟨c5,rfl⟩,Kg ?_⟩|refine⟨_,⟨Kq _,(Xab hhj),rfl⟩,Kg ?_⟩|refine⟨_,_,⟨Jj5,c4⟩,Kg ?_⟩|(apply Kp<;>intro _<;>try (exfalso;omega))
    refine⟨_,_,?_,hr _ rfl rfl _,Kg ?_⟩
    ·simp
    simp only[go_sem]
    repeat' first|refine Kn rfl ?_|(refine Ka ?_;simp only[go_sem])|refine Kf ?_|refine⟨hik,?_⟩|(apply Kp<;>intro _<;>try (exfalso;omega))
   · -- too many
    have hT:=hstop _ _ rfl
    simp only[Xbv,if_pos hb2] at hT
    refine Y8v 0 ?_
    simp only[go_sem]
    refine Kt (fr 72 [(8,vb false)]) ?_
    refine Kk 7 (by simp only[List.length_nil,List.length_cons];decide) (by simp only[go_sem]) (by simp only[List.take_succ_cons,List.take_zero,List.all_cons,List.all_nil,Xah];simp only[Xg3,go_sem]) ?_
    simp only[go_sem]
    repeat' first|refine Kn rfl ?_|(refine Kw ?_;simp only[go_sem])|refine Kf ?_|(apply Kp<;>intro _<;>try (exfalso;omega))
    exact⟨rfl,by rw[hT]⟩
   · -- one more
    refine Kt (fr 72 [(0,.one (.ptr 1 0)),(1,yV l),(3,vi ((2*(d - 2):Nat):Int)),(8,vb false),(9,.one (.d (.sl (Xey hd)))),(30,.one (.d (.sl (Xad x.kids)))),(31,vi x.kids.length),(32,vi ((j+1:Nat):Int))]) ?_
    refine Kk 7 (by simp only[List.length_nil,List.length_cons];decide) (by simp only[go_sem]) (by simp only[List.take_succ_cons,List.take_zero,List.all_cons,List.all_nil,Xah];simp only[Xg3,go_sem]) ?_
    simp only[go_sem]
    exact Kl ⟨x.kids.length - (j+1),by omega,j+1,mj,by omega,rfl,hrest,by rw[hP2,hPn];exact hfit,by rw[hP2,hPn]⟩
  ·have hi':=(Kr.1 hy).1
   have hnl:=Xb4 (anc g i') (Xgl h hg hi')
   have hst0:stB (.mk y.k (Xaj (anc g i')) y.x y.keys q1)=if Xaj (anc g i')=⟨#[]⟩ then [] else 32::38::(Xaj (anc g i')).data.toList:=by
    have hq1:q1≠[]:=fun e=>hyk (List.eq_nil_of_length_eq_zero (by rw[<- hem1.len,e];rfl))
    show (if y.k=3 then _ else if q1=[] then _ else _)=_
    rw[if_neg (Xca hg hy),if_neg hq1]
    rfl
   have c4:=Ym8 (gp:=gp) (i':Int) (Xaj (anc g i')) (by
    have:(Xaj (anc g i')).size=(Xaj (anc g i')).data.toList.length:=by simp
    omega)
   rw[<- hst0] at c4
   generalize hw:stB (.mk y.k (Xaj (anc g i')) y.x y.keys q1)=w at *
   have hwl:w.length<=100:=by rw[hst0];split <;> (simp only[List.length_cons,List.length_nil];omega)
   have c5:Does QP gp 84 [vi ((2*(d - 2):Nat):Int),vi i',.one (.d (.sl [[.str (bT hdj)],[.str (bT w)]]))] (itV (Xbf (2*(d - 2))++(hdj++w)) ((2*(d - 2):Nat):Int) i'):=by
    have:=X1j (gp:=gp) (2*(d - 2)) (by omega) (i':Int) [bT hdj,bT w] (by simp) (by simp[bT];omega) (by simp)
    have e:([bT hdj,bT w].flatMap fun s=>s.data.toList)=hdj++w:=by simp[bT]
    rw[e] at this
    exact this
   have hd2':2*(d+1 - 2)=2*(d - 2)+2:=by omega
   have hflq:(q1.flatMap Xch).length<=N:=by
    rw[Xbp] at hflat
    simp only[Tr.kids,List.length_cons] at hflat
    omega
   have hql1:=hem1.len
   have hih:=fun o ho=>ih (d:=d+1) (i:=i') (x:=y) (met:=mj++[(i':Int)]) (met':=met1) (q:=q1) (out:=o) hflq hy hyk hem1 (by omega) (by omega) ho
   rw[hd2'] at hih
   simp only[Tr.k,Tr.keys,Tr.kids,hw] at hstop hsize
   rw[hql1] at hstop hsize
   generalize hn1:lnK (2*(d - 2)+2) (Xar y.k y.keys y.kids.length) q1=new1 at *
   generalize hs1:Xbf (2*(d - 2))++(hdj++w)=s1 at *
   have hs1l:s1.length<=100000000:=by rw[<- hs1];simp[Xbf];omega
   have hcons:Xag (s1::new1)=Xag [s1]+Xag new1:=Xcu [s1] new1
   have hst1:Xag (out++P++[s1])=Xag (out++P)+Xag [s1]:=Xcu _ _
   have hst2:Xag (out++P++[s1]++new1)=Xag (out++P++[s1])+Xag new1:=Xcu _ _
   have hmr:=Xah (mj++[(i':Int)])
   have hr:=fun (S:Sx) h1 h2 E=>hR S h1 h2 (mpC (mj++[(i':Int)])) E (out++P) s1 ((2*(d - 2):Nat):Int) i' hmr hoj hs1l
   have hPn:out++P2=out++P++[s1]++new1:=by
    rw[hsn,Xd9]
    simp only[Tr.k,Tr.keys,Tr.kids,hw]
    rw[hql1,hn1,hs1];simp
   have hik2:inK .i64 ((2*(d - 2)+2:Nat):Int):=Xaw (by omega)
   have hin2:((2*(d - 2):Nat):Int)+2=((2*(d - 2)+2:Nat):Int):=by omega
   by_cases hfit:Xag (out++P++[s1])<=8000
   case' pos =>
    have hb1:decide (Xag (out++P++[s1])<=8000)=true:=decide_eq_true hfit
    have hb2:¬ Xag (out++P++[s1]) > 8000:=by omega
    simp only[hb1,if_neg hb2] at hr
   case' neg =>
    have hb1:decide (Xag (out++P++[s1])<=8000)=false:=decide_eq_false hfit
    have hb2:Xag (out++P++[s1]) > 8000:=by omega
    simp only[hb1,if_pos hb2] at hr
   all_goals
    repeat' first|refine Kn rfl ?_|(refine Ka ?_;simp only[go_sem])|refine Kf ?_|refine⟨_,⟨Kq _,(Xab hcj),rfl⟩,Kg ?_⟩|(apply Kp<;>intro _<;>try (exfalso;omega))
    refine Or.inr (Or.inr ⟨[1,0],.one (.d (X2z i' (Xaj (anc g i')))),[prC g (Xel g),.map (Xec (mj++[(i':Int)]))],(by simp only[Xay,Xcl,rnV,rnA,Xcx,rn0,Xcw,Xbo,Xcm,rnC,Xak,List.isEmpty_nil,Xah,reduceCtorEq,↓reduceIte,Qa,Qb,Qc,Qd,Qe,Qf,Qg,Qh,Qi,Qj,Qk,Ql,Qm,Qn,Qo,Qp,Qq,Qr];simp only[go_sem];exact⟨Xq3,c3⟩),Kg ?_⟩)
    simp only[bkO,bkC,Xah]
    simp only[go_sem]
    repeat' first|refine Kn rfl ?_|(refine Ka ?_;simp only[go_sem])|refine Kf ?_|refine⟨_,c5,Kg ?_⟩|refine⟨_,⟨c5,rfl⟩,Kg ?_⟩|refine⟨_,⟨Kq _,(Xab hhj),rfl⟩,Kg ?_⟩|refine⟨_,_,⟨Jj6,c4⟩,Kg ?_⟩|(apply Kp<;>intro _<;>try (exfalso;omega))
    refine⟨_,_,?_,hr _ rfl rfl _,Kg ?_⟩
    ·simp
    simp only[go_sem]
    repeat' first|refine Kn rfl ?_|(refine Ka ?_;simp only[hin2,go_sem])|refine Kf ?_|refine⟨hik2,?_⟩|(apply Kp<;>intro _<;>try (exfalso;omega))
   · -- too many
    have hT:=hstop _ _ rfl
    simp only[List.cons_append,Xbv,if_pos hb2] at hT
    refine Y8v 0 ?_
    simp only[go_sem]
    refine Kt (fr 72 [(8,vb false)]) ?_
    refine Kk 7 (by simp only[List.length_nil,List.length_cons];decide) (by simp only[go_sem]) (by simp only[List.take_succ_cons,List.take_zero,List.all_cons,List.all_nil,Xah];simp only[Xg3,go_sem]) ?_
    simp only[go_sem]
    repeat' first|refine Kn rfl ?_|(refine Kw ?_;simp only[go_sem])|refine Kf ?_|(apply Kp<;>intro _<;>try (exfalso;omega))
    exact⟨rfl,by rw[hT]⟩
   · -- what stands in it
    have hcall:=hih (out++P++[s1]) hfit
    by_cases hfit2:Xag (out++P++[s1]++new1)<=8000
    ·have hc:=Xme hcall fun r c hr=>hr.1 hfit2
     refine Or.inr (Or.inr ⟨[0,1,2,3,4,5,6],vb true,stC (mpC met1) g (out++P++[s1]++new1) (lpR l rc) [],(by simp only[Xay,Xcl,rnV,rnA,Xcx,rn0,Xcw,Xbo,Xcm,rnC,Xak,List.isEmpty_nil,Xah,X1k,reduceCtorEq,↓reduceIte,Qa,Qb,Qc,Qd,Qe,Qf,Qg,Qh,Qi,Qj,Qk,Ql,Qm,Qn,Qo,Qp,Qq,Qr];simp only[go_sem];exact⟨Xve,hc⟩),Kg ?_⟩)
     simp only[bkO,bkC,Xah,X1l]
     simp only[go_sem]
     repeat' first|refine Kn rfl ?_|(refine Ka ?_;simp only[go_sem])|refine Kf ?_|refine⟨hik,?_⟩|(apply Kp<;>intro _<;>try (exfalso;omega))
     refine Kt (fr 72 [(0,.one (.ptr 1 0)),(1,yV l),(3,vi ((2*(d - 2):Nat):Int)),(8,vb false),(9,.one (.d (.sl (Xey hd)))),(30,.one (.d (.sl (Xad x.kids)))),(31,vi x.kids.length),(32,vi ((j+1:Nat):Int))]) ?_
     refine Kk 7 (by simp only[List.length_nil,List.length_cons];decide) (by simp only[go_sem]) (by simp only[List.take_succ_cons,List.take_zero,List.all_cons,List.all_nil,Xah];simp only[Xg3,go_sem]) ?_
     simp only[go_sem]
     exact Kl ⟨x.kids.length - (j+1),by omega,j+1,met1,by omega,rfl,hrest,by rw[hP2,hPn];exact hfit2,by rw[hP2,hPn]⟩
    ·have hc:=Xme hcall fun r c hr=>hr.2 (by omega)
     have hT:=hstop _ _ rfl
     simp only[List.cons_append,Xbv,if_neg hb2] at hT
     change Xbv out new=Xbv (out++P++[s1]) (new1++B) at hT
     rw[Xnv (out++P++[s1]) new1 B (by omega) hfit] at hT
     refine Or.inr (Or.inr ⟨[0,1,2,3,4,5,6],vb false,stC .dead g (Xbv (out++P++[s1]) new1) (lpD l rc) [],(by simp only[Xay,Xcl,rnV,rnA,Xcx,rn0,Xcw,Xbo,Xcm,rnC,Xak,List.isEmpty_nil,Xah,X1k,reduceCtorEq,↓reduceIte,Qa,Qb,Qc,Qd,Qe,Qf,Qg,Qh,Qi,Qj,Qk,Ql,Qm,Qn,Qo,Qp,Qq,Qr];simp only[go_sem];exact⟨Xve,hc⟩),Kg ?_⟩)
     simp only[bkO,bkC,Xah,X1l]
     simp only[go_sem]
     repeat' first|refine Kn rfl ?_|(refine Ka ?_;simp only[go_sem])|refine Kf ?_|(apply Kp<;>intro _<;>try (exfalso;omega))
     refine Kt (fr 72 [(8,vb false)]) ?_
     refine Kk 7 (by simp only[List.length_nil,List.length_cons];decide) (by simp only[go_sem]) (by simp only[List.take_succ_cons,List.take_zero,List.all_cons,List.all_nil,Xah];simp only[Xg3,go_sem]) ?_
     simp only[go_sem]
     repeat' first|refine Kn rfl ?_|(refine Kw ?_;simp only[go_sem])|refine Kf ?_|(apply Kp<;>intro _<;>try (exfalso;omega))
     exact⟨rfl,by rw[hT]⟩
def Jel (g:Gr) (i:Nat):Prop:=∀ (x:Nd) (d:Int),g.l[i]?=some x->(Xfq g)[i]?=some d->d<=24/\(d=24->x.kids=[])
theorem Xr4 (g:Gr):Xgj g↔∀ i,Jel g i:=⟨fun h i x d hx hd=>h i x d hx hd,fun h i x d hx hd=>h i x d hx hd⟩
theorem Wwk {g:Gr} (hg:Tdy g):∀ (i:Nat) (y:Int),(Xfq g)[i]?=some y->1<=y/\y<=i+1:=by
 intro i
 induction i using Nat.strongRecOn with
 | ind i ih =>
  intro y hy
  by_cases h0:i=0
  ·subst h0
   have:=hg.dep_ok.1
   rw[this] at hy;cases hy;omega
  ·have hi:=(Kr.1 hy).1
   rw[hg.dep_len] at hi
   obtain⟨j,z,h1,h2,h3,h4⟩:=hg.dep_ok.2 i (by omega) hi
   have:=ih j h1 z h3
   rw[h4] at hy;cases hy;omega
theorem Yna {g:Gr} (hg:Tdy g) {i:Nat} {d:Int} (hd:(Xfq g)[i]?=some d):1<=d/\d<=1000:=by
 have h1:=Wwk hg i d hd
 have h2:=(Kr.1 hd).1
 have h3:=hg.dep_len
 have h4:=hg.good.len
 omega
theorem Ynb (h:Env gp) {g:Gr} (hg:Tdy g) {b:Bool} (hb:b=true↔¬ Xgj g):Does QP gp 54 [g.v] (vb b):=by
 have c2:=Yxr h hg
 have hdl:=hg.dep_len
 have hlen:=hg.good.len
 refine W2p ?_
 simp only[go_sem]
 repeat' first|refine Kn rfl ?_|(refine Ka ?_;simp only[go_sem])|refine Kf ?_|refine⟨_,c2,Kg ?_⟩|refine⟨_,⟨c2,rfl⟩,Kg ?_⟩|(apply Kp<;>intro _<;>try (exfalso;omega))
 refine Kt (fr 32 [(1,.one (.d (.bx [.int .i64 g.root,.sl (nds g.l)]))),(2,vb false),(12,.one (.d (.sl (Xad (Xfq g))))),(13,vi (Xfq g).length),(14,vi (0:Nat))]) ?_
 refine Km (fun mz sz=>∃ j:Nat,j<=(Xfq g).length/\mz=(Xfq g).length - j/\(∀ k,k < j->Jel g k)/\sz=⟨fr 32 [(1,.one (.d (.bx [.int .i64 g.root,.sl (nds g.l)]))),(2,vb false),(12,.one (.d (.sl (Xad (Xfq g))))),(13,vi (Xfq g).length),(14,vi j)],[]⟩) ((Xfq g).length) ⟨0,Nat.zero_le _,(Nat.sub_zero _).symm,?_,rfl⟩ ?_
 ·intro k hk;omega
 rintro _ _ ⟨j,hj,rfl,hz,rfl⟩
 simp only[go_sem]
 by_cases hjl:j < (Xfq g).length
 ·obtain⟨d,hd⟩:=Xaf hjl
  obtain⟨x,hx⟩:=Xaf (l:=g.l) (i:=j) (by omega)
  have hik:inK .i64 ((j:Int)+1):=Xaw (by omega)
  have hdr:=Yna hg hd
  have hid:inK .i64 (d+1):=Xaw (by omega)
  by_cases hok:Jel g j
  ·obtain⟨o1,o2⟩:=hok x d hx hd
   have hnext:∀ k,k < j+1->Jel g k:=fun k hk=>by
    by_cases e:k=j
    ·subst e;exact hok
    ·exact hz k (by omega)
   by_cases hk:x.kids=[]
   case' pos =>
    have e1:decide ((x.kids.length:Int) > 0)=false:=by simp[hk]
    have e2:decide (d > 24)=false:=by simp;omega
    repeat' first|refine Kn rfl ?_|(refine Ka ?_;simp only[e1,e2,go_sem])|refine Kf ?_|refine⟨_,⟨Kq _,(Xab hd),rfl⟩,Kg ?_⟩|refine⟨_,⟨Kq _,(Xab hx),rfl⟩,Kg ?_⟩|refine⟨hik,?_⟩|refine⟨hid,?_⟩|(apply Kp<;>intro _<;>try (exfalso;omega))
   case' neg =>
    have e1:decide ((x.kids.length:Int) > 0)=true:=by simp;exact List.length_pos_iff.2 hk
    have e2:decide (d+1 > 24)=false:=by
     have:d≠24:=fun e=>hk (o2 e)
     simp;omega
    repeat' first|refine Kn rfl ?_|(refine Ka ?_;simp only[e1,e2,go_sem])|refine Kf ?_|refine⟨_,⟨Kq _,(Xab hd),rfl⟩,Kg ?_⟩|refine⟨_,⟨Kq _,(Xab hx),rfl⟩,Kg ?_⟩|refine⟨hik,?_⟩|refine⟨hid,?_⟩|(apply Kp<;>intro _<;>try (exfalso;omega))
   all_goals
    refine Kt (fr 32 [(1,.one (.d (.bx [.int .i64 g.root,.sl (nds g.l)]))),(2,vb false),(12,.one (.d (.sl (Xad (Xfq g))))),(13,vi (Xfq g).length),(14,vi (j+1))]) ?_
    refine Kl ⟨(Xfq g).length - (j+1),by omega,j+1,by omega,rfl,?_,rfl⟩
    exact hnext
  ·have hbt:b=true:=hb.2 fun h=>hok ((Xr4 g).1 h j)
   subst hbt
   have hno:d > 24\/(d=24/\x.kids≠[]):=by
    refine Classical.byContradiction fun hh=>hok fun x' d' hx' hd'=>?_
    rw[hx] at hx';cases hx'
    rw[hd] at hd';cases hd'
    refine⟨by omega,fun e=>Classical.byContradiction fun hne=>hh (.inr ⟨e,hne⟩)⟩
   by_cases hk:x.kids=[]
   ·have e1:decide ((x.kids.length:Int) > 0)=false:=by simp[hk]
    have e2:decide (d > 24)=true:=by
     simp
     rcases hno with h1|⟨_,h1⟩
     ·omega
     ·exact absurd hk h1
    repeat' first|refine Kn rfl ?_|(refine Kw ?_;simp only[e1,e2,go_sem])|refine Kf ?_|refine⟨_,⟨Kq _,(Xab hd),rfl⟩,Kg ?_⟩|refine⟨_,⟨Kq _,(Xab hx),rfl⟩,Kg ?_⟩|refine⟨hik,?_⟩|refine⟨hid,?_⟩|(apply Kp<;>intro _<;>try (exfalso;omega))
    all_goals trace_state
   ·have e1:decide ((x.kids.length:Int) > 0)=true:=by simp;exact List.length_pos_iff.2 hk
    have e2:decide (d+1 > 24)=true:=by simp;rcases hno with h1|⟨h1,_⟩ <;> omega
    repeat' first|refine Kn rfl ?_|(refine Kw ?_;simp only[e1,e2,go_sem])|refine Kf ?_|refine⟨_,⟨Kq _,(Xab hd),rfl⟩,Kg ?_⟩|refine⟨_,⟨Kq _,(Xab hx),rfl⟩,Kg ?_⟩|refine⟨hik,?_⟩|refine⟨hid,?_⟩|(apply Kp<;>intro _<;>try (exfalso;omega))
    all_goals trace_state
 ·obtain rfl:(Xfq g).length=j:=by omega
  have hbf:b=false:=by
   cases b with
   | false=>rfl
   | true =>
    exfalso
    refine (hb.1 rfl) ((Xr4 g).2 fun i=>?_)
    by_cases hi:i < (Xfq g).length
    ·exact hz i hi
    ·intro x d hx hd
     rw[List.getElem?_eq_none (by omega)] at hd;cases hd
  subst hbf
  repeat' first|refine Kn rfl ?_|(refine Kw ?_;simp only[go_sem])|refine Kf ?_|(apply Kp<;>intro _<;>try (exfalso;omega))
  all_goals trace_state
theorem Xr5 {g:Gr} (hg:Tdy g) (hf:(flat g).length<=3000):∀ i:Nat,i<=g.l.length->0<=Xg6 (fun i=>if 0 < anc g i then 1 else (((0::flat g).count (i:Int):Nat):Int)) i/\Xg6 (fun i=>if 0 < anc g i then 1 else (((0::flat g).count (i:Int):Nat):Int)) i<=3001*i
 | 0,_=>by simp[Xg6]
 | i+1,h=>by
  obtain⟨h1,h2⟩:=Xr5 hg hf i (by omega)
  simp only[Xg6]
  have h3:=List.count_le_length (a:=(i:Int)) (l:=0::flat g)
  simp only[List.length_cons] at h3
  split <;> omega
theorem Xr6 {g:Gr} (hg:Tdy g):(flat g).length<=3000:=by
 have h1:=hg.good.len
 have:∀ l:List Nd,(∀ x∈l,x.kids.length<=12)->(l.flatMap Nd.kids).length<=12*l.length:=by
  intro l
  induction l with
  | nil=>intro _;simp
  | cons x l ih =>
   intro h
   have:=ih fun y hy=>h y (by simp[hy])
   have:=h x (by simp)
   rw[List.flatMap_cons,List.length_append,List.length_cons];omega
 have:=this g.l fun x hx=>(hg.good.s x hx).2
 unfold flat;omega
theorem X1m (h:Env gp) {g:Gr} (hg:Tdy g):Does QP gp 56 [g.v,.one (.d (.sl (Xad (Xel g))))] (vi (Xea g)):=by
 have c2:=Jdt h hg
 have hul:=Xma g
 have hlen:=hg.good.len
 refine W2y ?_
 simp only[go_sem]
 repeat' first|refine Kn rfl ?_|(refine Ka ?_;simp only[go_sem])|refine Kf ?_|refine⟨_,c2,Kg ?_⟩|refine⟨_,⟨c2,rfl⟩,Kg ?_⟩|(apply Kp<;>intro _<;>try (exfalso;omega))
 show G _ _ ⟨_,_⟩
 refine Kj (fr 32 [(1,.one (.d (.sl (Xad (Xel g))))),(7,vi (Xg6 (fun i=>if 0 < anc g i then 1 else (((0::flat g).count (i:Int):Nat):Int)) 0)),(15,.one (.d (.sl (Xad (Xbi g))))),(16,vi (Xbi g).length),(17,vi ((0:Nat):Int))]) (by simp only[Xg6,go_sem];repeat' (first|refine Kp ?_ ?_|exact Or.inl rfl|exact Or.inr rfl|rfl)) ?_
 refine Kt (fr 32 [(1,.one (.d (.sl (Xad (Xel g))))),(7,vi (Xg6 (fun i=>if 0 < anc g i then 1 else (((0::flat g).count (i:Int):Nat):Int)) (0:Nat))),(15,.one (.d (.sl (Xad (Xbi g))))),(16,vi (Xbi g).length),(17,vi (0:Nat))]) ?_
 refine Km (fun mz sz=>∃ j:Nat,j<=(Xbi g).length/\mz=(Xbi g).length - j/\(0<=j)/\sz=⟨fr 32 [(1,.one (.d (.sl (Xad (Xel g))))),(7,vi (Xg6 (fun i=>if 0 < anc g i then 1 else (((0::flat g).count (i:Int):Nat):Int)) j)),(15,.one (.d (.sl (Xad (Xbi g))))),(16,vi (Xbi g).length),(17,vi j)],[]⟩) ((Xbi g).length) ⟨0,Nat.zero_le _,(Nat.sub_zero _).symm,?_,rfl⟩ ?_
 ·exact Nat.zero_le _
 rintro _ _ ⟨j,hj,rfl,-,rfl⟩
 simp only[go_sem]
 by_cases hjl:j < (Xbi g).length
 ·have hjg:j < g.l.length:=by omega
  have hu:=Xkd hjg
  have han:=Xfr hjg
  have hik:inK .i64 ((j:Int)+1):=Xaw (by omega)
  have hs:=Xr5 hg (Xr6 hg) (j+1) (by omega)
  have hsu:Xg6 (fun i=>if 0 < anc g i then 1 else (((0::flat g).count (i:Int):Nat):Int)) (j+1)=Xg6 (fun i=>if 0 < anc g i then 1 else (((0::flat g).count (i:Int):Nat):Int)) j+(if 0 < anc g j then 1 else (((0::flat g).count (j:Int):Nat):Int)):=rfl
  by_cases ha:0 < anc g j
  case' pos =>
   have e1:decide (anc g j > 0)=true:=by simp;omega
   rw[if_pos ha] at hsu
   have hi2:inK .i64 (Xg6 (fun i=>if 0 < anc g i then 1 else (((0::flat g).count (i:Int):Nat):Int)) j+1):=by rw[<- hsu];simp[inK,IntKind.min,IntKind.max,IntKind.signed,IntKind.bits];omega
   repeat' first|refine Kn rfl ?_|(refine Ka ?_;simp only[e1,go_sem])|refine Kf ?_|refine⟨_,⟨Kq _,(Xab hu),rfl⟩,Kg ?_⟩|refine⟨_,⟨Kq _,(Xab han),rfl⟩,Kg ?_⟩|refine⟨hik,?_⟩|refine⟨hi2,?_⟩|(apply Kp<;>intro _<;>try (exfalso;omega))
  case' neg =>
   have e1:decide (anc g j > 0)=false:=by simp;omega
   rw[if_neg ha] at hsu
   have hi2:inK .i64 (Xg6 (fun i=>if 0 < anc g i then 1 else (((0::flat g).count (i:Int):Nat):Int)) j+(((0::flat g).count (j:Int):Nat):Int)):=by rw[<- hsu];simp[inK,IntKind.min,IntKind.max,IntKind.signed,IntKind.bits];omega
   repeat' first|refine Kn rfl ?_|(refine Ka ?_;simp only[e1,go_sem])|refine Kf ?_|refine⟨_,⟨Kq _,(Xab hu),rfl⟩,Kg ?_⟩|refine⟨_,⟨Kq _,(Xab han),rfl⟩,Kg ?_⟩|refine⟨hik,?_⟩|refine⟨hi2,?_⟩|(apply Kp<;>intro _<;>try (exfalso;omega))
  all_goals
   rw[<- hsu]
   refine Kt (fr 32 [(1,.one (.d (.sl (Xad (Xel g))))),(7,vi (Xg6 (fun i=>if 0 < anc g i then 1 else (((0::flat g).count (i:Int):Nat):Int)) (j+1))),(15,.one (.d (.sl (Xad (Xbi g))))),(16,vi (Xbi g).length),(17,vi (j+1))]) ?_
   refine Kl ⟨(Xbi g).length - (j+1),by omega,j+1,by omega,rfl,?_,rfl⟩
   exact Nat.zero_le _
 ·obtain rfl:(Xbi g).length=j:=by omega
  repeat' first|refine Kn rfl ?_|(refine Kw ?_;simp only[go_sem])|refine Kf ?_|(apply Kp<;>intro _<;>try (exfalso;omega))
  unfold Xea;rw[hul]
theorem Xkf (E:List Ch) (c:Ch):Xak (E++[c]) E.length=c:=by
 induction E with
 | nil=>rfl
 | cons e E ih=>simpa [Xak] using ih
theorem Xkg (E:List Ch) (c d:Ch):Xb1 (E++[c]) E.length d=E++[d]:=by
 induction E with
 | nil=>rfl
 | cons e E ih=>simp[Xb1,ih]
theorem Xjr {S:Sx} {m:MI} {l K:List MI} {s:St} (hl:l=K) (h:∀ K',K'=K->G S (m::K') s):G S (m::l) s:=h l hl
theorem Wwl (g:Gr):Tri QP gp 57 [.one (.ptr 0 0)] [prC g (Xel g),.map (Xec [])] fun r post=>r=.one (.clo (.func 82) [.ptr 2 0])/\post=[prC g (Xel g),.map (Xec []),.cells [.ptr 0 0]]:=by
 refine Wd9 ?_
 simp only[go_sem]
 repeat' first|refine Kn rfl ?_|(refine Kw ?_;simp only[go_sem])|refine Kf ?_|(apply Kp<;>intro _<;>try (exfalso;omega))
 all_goals trace_state
abbrev lpE (l:Nat) (rc:Loop) (T:List (List UInt8)):Ch:=.lp l frP rc (if Xag T > 8000 then .done else .ready) (if Xag T > 8000 then some (.exit 0) else none)
def Jj7 (g:Gr) (l:Nat) (rc:Loop) (T:List (List UInt8)) (post:List Ch):Prop:=∃ m rest,post=stC m g T (lpE l rc T) rest
set_option maxHeartbeats 4000000 in
theorem Yx4 (h:Env13 gp) {g:Gr} (hg:Tdy g) (hst:∀ x∈g.l,x.short) {l:Nat} {rc:Loop} (hR:Xpk gp g l rc) {t:Tr} {met:List Int} (hem:EmW g 1 [0] [] [t] met) :
  Tri QP gp 82 [yV l,.one (.ptr 5 0)] (stC (mpC []) g [] (lpR l rc) []) fun _ post=>Jj7 g l rc (Xbv [] (Xcy t)) post:=by
 generalize h00:(0:Int)=z at hem
 generalize htt:[t]=ts at hem
 generalize hzz:[z]=zs at hem
 cases hem with
 | nil=>cases htt
 | ref hy hk hm ha hrest=>cases hm
 | @leaf _ i y _ _ _ _ hy hyk hrest =>
  obtain⟨rfl,_⟩:=List.cons.inj hzz
  obtain⟨rfl,_⟩:=List.cons.inj htt
  obtain rfl:i=0:=by omega
  have hw:Xcy (.mk y.k ⟨#[]⟩ y.x y.keys [])=[Xfs y]:=by unfold Xcy;rw[if_pos (show (Tr.mk y.k ⟨#[]⟩ y.x y.keys []).kids=[] from rfl)]
  rw[hw]
  have hwl:=Xfb hg hst hy
  have c3:Tri QP gp 83 [.one (.ptr 0 0),vi 0] [prC g (Xel g),.map (Xec [])] _:=Xmc h hg hst (Xel g) [] hy hyk
  generalize Xfs y=w at *
  have c5:Does QP gp 84 [vi 0,vi (-1),.one (.d (.sl [[.str (bT w)]]))] (itV w 0 (-1)):=by
   have:=X1j (gp:=gp) 0 (by omega) (-1) [bT w] (by simp) (by simp[bT];omega) (by simp)
   have e:(Xbf 0++[bT w].flatMap fun s=>s.data.toList)=w:=by simp[bT,Xbf]
   rw[e] at this
   exact this
  have hr:=fun (S:Sx) h1 h2 E=>hR S h1 h2 (mpC []) E [] w 0 (-1) (Xah []) (by simp[Xag]) (by omega)
  have hT:Xbv [] [w]=[w]:=by simp only[Xbv];split <;> rfl
  rw[hT]
  refine Xtc ?_
  simp only[go_sem]
  repeat' first|refine Kn rfl ?_|(refine Ka ?_;simp only[go_sem])|refine Kf ?_|(apply Kp<;>intro _<;>try (exfalso;omega))
  refine Or.inr (Or.inr ⟨[1,0],.one (.d (Xt1 (bT w))),[prC g (Xel g),.map (Xec [])],(by simp only[Xay,Xcl,rnV,rnA,Xcx,rn0,Xcw,Xbo,Xcm,rnC,Xak,List.isEmpty_nil,Xah,reduceCtorEq,↓reduceIte,Qa,Qb,Qc,Qd,Qe,Qf,Qg,Qh,Qi,Qj,Qk,Ql,Qm,Qn,Qo,Qp,Qq,Qr];simp only[go_sem];exact⟨Xq3,c3⟩),Kg ?_⟩)
  simp only[bkO,bkC,Xah]
  simp only[go_sem]
  repeat' first|refine Kn rfl ?_|(refine Ka ?_;simp only[go_sem])|refine Kf ?_|refine⟨_,c5,Kg ?_⟩|refine⟨_,⟨c5,rfl⟩,Kg ?_⟩|(apply Kp<;>intro _<;>try (exfalso;omega))
  refine⟨_,_,?_,hr _ rfl rfl _,Kg ?_⟩
  ·simp
  simp only[go_sem]
  repeat' first|refine Kn rfl ?_|(refine Kw ?_;simp only[go_sem])|refine Kf ?_|(apply Kp<;>intro _<;>try (exfalso;omega))
  exact⟨_,_,rfl⟩
 | @node _ i y _ _ met1 _ q1 _ hy hyk hm hdd hem1 hrest =>
  obtain⟨rfl,_⟩:=List.cons.inj hzz
  obtain⟨rfl,_⟩:=List.cons.inj htt
  obtain rfl:i=0:=by omega
  have hq1:q1≠[]:=fun e=>hyk (List.eq_nil_of_length_eq_zero (by rw[<- hem1.len,e];rfl))
  have hw:Xcy (.mk y.k (Xaj (anc g 0)) y.x y.keys q1)=(if Xaj (anc g 0)=⟨#[]⟩ then [] else [38::(Xaj (anc g 0)).data.toList])++lnK 0 (Xar y.k y.keys y.kids.length) q1:=by
   unfold Xcy;rw[if_neg (show ¬ (Tr.mk y.k (Xaj (anc g 0)) y.x y.keys q1).kids=[] from hq1),<- hem1.len];rfl
  rw[hw]
  have hi':=(Kr.1 hy).1
  have hnl:=Xb4 (anc g 0) (Xgl h hg hi')
  have c3:Tri QP gp 83 [.one (.ptr 0 0),vi 0] [prC g (Xel g),.map (Xec [])] (fun r post=>r=.one (.d (X2z 0 (Xaj (anc g 0))))/\post=[prC g (Xel g),.map (Xec [0])]):=Xmd h hg [] hy hyk hm
  have hit:=fun out ho=>Wwj h hg hst hR _ (d:=2) (i:=0) (x:=y) (met:=[0]) (met':=met1) (q:=q1) (out:=out) (Nat.le_refl _) hy hyk hem1 (by omega) (by omega) ho
  have hit:∀ out,Xag out<=8000->Tri QP gp 85 [.one (.ptr 1 0),yV l,vi 0,vi 0] (stC (mpC [0]) g out (lpR l rc) []) (ItR g l rc met1 out (lnK 0 (Xar y.k y.keys y.kids.length) q1)):=hit
  generalize lnK 0 (Xar y.k y.keys y.kids.length) q1=L at *
  have hcalls:∀ out,Xag out<=8000->∃ b m,Tri QP gp 85 [.one (.ptr 1 0),yV l,vi 0,vi 0] (stC (mpC [0]) g out (lpR l rc) []) (fun r post=>r=vb b/\post=stC m g (Xbv out L) (lpE l rc (Xbv out L)) [])/\∀ n,bkC n [0,1,2,3,4,5,6] m=m:=fun out ho=>by
   by_cases hf:Xag (out++L)<=8000
   ·have e:Xbv out L=out++L:=by have:=Xii out L [] hf;rw[List.append_nil] at this;rw[this];rfl
    refine⟨true,mpC met1,?_,fun n=>by simp only[bkC,Xah];rfl⟩
    rw[e]
    unfold lpE
    rw[if_neg (by omega),if_neg (by omega)]
    exact Xme (hit out ho) fun r c hr=>hr.1 hf
   ·have e:=Xmf L out (by omega)
    refine⟨false,.dead,?_,fun n=>rfl⟩
    unfold lpE
    rw[if_pos (by omega),if_pos (by omega)]
    exact Xme (hit out ho) fun r c hr=>hr.2 (by omega)
  by_cases hn:Xaj (anc g 0)=⟨#[]⟩
  ·have hd1:decide (Xaj (anc g 0)=⟨#[]⟩)=true:=by simp[hn]
   rw[if_pos hn,List.nil_append]
   obtain⟨b,m,hc,hm2⟩:=hcalls [] (by simp[Xag])
   refine Xtc ?_
   simp only[go_sem]
   repeat' first|refine Kn rfl ?_|(refine Ka ?_;simp only[go_sem])|refine Kf ?_|(apply Kp<;>intro _<;>try (exfalso;omega))
   refine Or.inr (Or.inr ⟨[1,0],.one (.d (X2z 0 (Xaj (anc g 0)))),[prC g (Xel g),.map (Xec [0])],(by simp only[Xay,Xcl,rnV,rnA,Xcx,rn0,Xcw,Xbo,Xcm,rnC,Xak,List.isEmpty_nil,Xah,reduceCtorEq,↓reduceIte,Qa,Qb,Qc,Qd,Qe,Qf,Qg,Qh,Qi,Qj,Qk,Ql,Qm,Qn,Qo,Qp,Qq,Qr];simp only[go_sem];exact⟨Xq3,c3⟩),Kg ?_⟩)
   simp only[bkO,bkC,Xah]
   simp only[go_sem]
   repeat' first|refine Kn rfl ?_|(refine Ka ?_;simp only[hd1,go_sem])|refine Kf ?_|(apply Kp<;>intro _<;>try (exfalso;omega))
   refine Or.inr (Or.inr ⟨[0,1,2,3,4,5,6],vb b,stC m g (Xbv [] L) (lpE l rc (Xbv [] L)) [],(by simp only[Xay,Xcl,rnV,rnA,Xcx,rn0,Xcw,Xbo,Xcm,rnC,Xak,List.isEmpty_nil,Xah,X1k,reduceCtorEq,↓reduceIte,Qa,Qb,Qc,Qd,Qe,Qf,Qg,Qh,Qi,Qj,Qk,Ql,Qm,Qn,Qo,Qp,Qq,Qr];simp only[go_sem];exact⟨Xve,hc⟩),Kg ?_⟩)
   simp only[bkO,hm2,bkC,Xah,X1l]
   simp only[go_sem]
   repeat' first|refine Kn rfl ?_|(refine Kw ?_;simp only[go_sem])|refine Kf ?_|(apply Kp<;>intro _<;>try (exfalso;omega))
   exact⟨_,_,rfl⟩
  ·have hd1:decide (Xaj (anc g 0)=⟨#[]⟩)=false:=by simp[hn]
   rw[if_neg hn]
   have c5:Does QP gp 84 [vi 0,vi 0,.one (.d (.sl [[.str (bT (38::(Xaj (anc g 0)).data.toList))]]))] (itV (38::(Xaj (anc g 0)).data.toList) 0 0):=by
    have:=X1j (gp:=gp) 0 (by omega) 0 [bT (38::(Xaj (anc g 0)).data.toList)] (by simp) (by simp[bT] at hnl ⊢;omega) (by simp)
    have e:(Xbf 0++[bT (38::(Xaj (anc g 0)).data.toList)].flatMap fun s=>s.data.toList)=38::(Xaj (anc g 0)).data.toList:=by simp[bT,Xbf]
    rw[e] at this
    exact this
   have hsz:((#[(38:UInt8)].size+(Xaj (anc g 0)).size:Nat):Int)<=9223372036854775807:=by
    have:(Xaj (anc g 0)).size=(Xaj (anc g 0)).data.toList.length:=by simp
    rw[this];simp only[List.size_toArray,List.length_cons,List.length_nil];omega
   have e2:(⟨#[38]⟩:ByteArray)++Xaj (anc g 0)=bT (38::(Xaj (anc g 0)).data.toList):=Xnu [38] _
   have hsl:(38::(Xaj (anc g 0)).data.toList).length<=100:=by simp only[List.length_cons];omega
   generalize hs1:38::(Xaj (anc g 0)).data.toList=s1 at *
   have hsm:Xag [s1]<=8000:=by simp only[Xag,List.map_cons,List.map_nil,List.sum_cons,List.sum_nil];omega
   obtain⟨b,m,hc,hm2⟩:=hcalls [s1] hsm
   have hT:Xbv [] ([s1]++L)=Xbv [s1] L:=by
    show (if Xag ([]++[s1]) > 8000 then _ else _)=_
    rw[if_neg (by rw[List.nil_append];omega)];rfl
   rw[hT]
   have hb1:decide (Xag [s1]<=8000)=true:=decide_eq_true hsm
   have hb2:¬ Xag [s1] > 8000:=by omega
   have hr:=fun (S:Sx) h1 h2 E=>hR S h1 h2 (mpC [0]) E [] s1 0 0 (Xah [0]) (by simp[Xag]) (by omega)
   simp only[List.nil_append,hb1,if_neg hb2] at hr
   refine Xtc ?_
   simp only[go_sem]
   repeat' first|refine Kn rfl ?_|(refine Ka ?_;simp only[go_sem])|refine Kf ?_|(apply Kp<;>intro _<;>try (exfalso;omega))
   refine Or.inr (Or.inr ⟨[1,0],.one (.d (X2z 0 (Xaj (anc g 0)))),[prC g (Xel g),.map (Xec [0])],(by simp only[Xay,Xcl,rnV,rnA,Xcx,rn0,Xcw,Xbo,Xcm,rnC,Xak,List.isEmpty_nil,Xah,reduceCtorEq,↓reduceIte,Qa,Qb,Qc,Qd,Qe,Qf,Qg,Qh,Qi,Qj,Qk,Ql,Qm,Qn,Qo,Qp,Qq,Qr];simp only[go_sem];exact⟨Xq3,c3⟩),Kg ?_⟩)
   simp only[bkO,bkC,Xah]
   simp only[go_sem]
   repeat' first|refine Kn rfl ?_|(refine Ka ?_;simp only[hd1,e2,go_sem])|refine Kf ?_|refine⟨_,c5,Kg ?_⟩|refine⟨_,⟨c5,rfl⟩,Kg ?_⟩|refine⟨hsz,?_⟩|(apply Kp<;>intro _<;>try (exfalso;omega))
   refine⟨_,_,?_,hr _ rfl rfl _,Kg ?_⟩
   ·simp
   simp only[go_sem]
   repeat' first|refine Kn rfl ?_|(refine Ka ?_;simp only[go_sem])|refine Kf ?_|(apply Kp<;>intro _<;>try (exfalso;omega))
   refine Or.inr (Or.inr ⟨[0,1,2,3,4,5,6],vb b,stC m g (Xbv [s1] L) (lpE l rc (Xbv [s1] L)) [],(by simp only[Xay,Xcl,rnV,rnA,Xcx,rn0,Xcw,Xbo,Xcm,rnC,Xak,List.isEmpty_nil,Xah,X1k,reduceCtorEq,↓reduceIte,Qa,Qb,Qc,Qd,Qe,Qf,Qg,Qh,Qi,Qj,Qk,Ql,Qm,Qn,Qo,Qp,Qq,Qr];simp only[go_sem];exact⟨Xve,hc⟩),Kg ?_⟩)
   simp only[bkO,hm2,bkC,Xah,X1l]
   simp only[go_sem]
   repeat' first|refine Kn rfl ?_|(refine Kw ?_;simp only[go_sem])|refine Kf ?_|(apply Kp<;>intro _<;>try (exfalso;omega))
   exact⟨_,_,rfl⟩
theorem Ync (h:Env13 gp) {g:Gr} (hg:Tdy g) (hst:∀ x∈g.l,x.short) (hd:Xgj g) (hp:¬ Xea g > 200) {t:Tr} {met:List Int} (hem:EmW g 1 [0] [] [t] met) :
  Does QP gp 26 [g.v] (.tup [.one (.d (.sl (Xey (if Xag (Xcy t) > 8000 then [] else Xcy t)))),vi (if Xag (Xcy t) > 8000 then 20 else 0)]):=by
 have c1:=Xpe h.e g hg.good.s
 rw[decide_eq_true ⟨hg.good.c,hg.self⟩] at c1
 have c2:=Ynb (b:=false) h.e hg (by simp[hd])
 have c3:=Xrw h.e hg
 have c4:=X1m h.e hg
 have e1:decide (Xea g > 200)=false:=decide_eq_false hp
 refine Xvc ?_
 simp only[go_sem]
 refine Kn rfl ?_
 refine Xjr rfl fun K hK=>?_
 repeat' first|refine Kn rfl ?_|(refine Ka ?_;simp only[e1,go_sem])|refine Kf ?_|refine⟨_,c1,Kg ?_⟩|refine⟨_,⟨c1,rfl⟩,Kg ?_⟩|refine⟨_,c2,Kg ?_⟩|refine⟨_,⟨c2,rfl⟩,Kg ?_⟩|refine⟨_,c3,Kg ?_⟩|refine⟨_,⟨c3,rfl⟩,Kg ?_⟩|refine⟨_,c4,Kg ?_⟩|refine⟨_,⟨c4,rfl⟩,Kg ?_⟩|(apply Kp<;>intro _<;>try (exfalso;omega))
 subst hK
 refine Kn rfl ?_
 refine Kn rfl ?_
 refine Xjr rfl fun K hK=>?_
 repeat' first|refine Kn rfl ?_|(refine Ka ?_;simp only[e1,go_sem])|refine Kf ?_|refine⟨_,c1,Kg ?_⟩|refine⟨_,⟨c1,rfl⟩,Kg ?_⟩|refine⟨_,c2,Kg ?_⟩|refine⟨_,⟨c2,rfl⟩,Kg ?_⟩|refine⟨_,c3,Kg ?_⟩|refine⟨_,⟨c3,rfl⟩,Kg ?_⟩|refine⟨_,c4,Kg ?_⟩|refine⟨_,⟨c4,rfl⟩,Kg ?_⟩|(apply Kp<;>intro _<;>try (exfalso;omega))
 subst hK
 refine Kn rfl ?_
 refine Xjr rfl fun K hK=>?_
 repeat' first|refine Kn rfl ?_|(refine Ka ?_;simp only[e1,go_sem])|refine Kf ?_|refine⟨_,c1,Kg ?_⟩|refine⟨_,⟨c1,rfl⟩,Kg ?_⟩|refine⟨_,c2,Kg ?_⟩|refine⟨_,⟨c2,rfl⟩,Kg ?_⟩|refine⟨_,c3,Kg ?_⟩|refine⟨_,⟨c3,rfl⟩,Kg ?_⟩|refine⟨_,c4,Kg ?_⟩|refine⟨_,⟨c4,rfl⟩,Kg ?_⟩|(apply Kp<;>intro _<;>try (exfalso;omega))
 subst hK
 refine Kn rfl ?_
 refine Xjr rfl fun K hK=>?_
 repeat' first|refine Kn rfl ?_|(refine Ka ?_;simp only[e1,go_sem])|refine Kf ?_|refine⟨_,c1,Kg ?_⟩|refine⟨_,⟨c1,rfl⟩,Kg ?_⟩|refine⟨_,c2,Kg ?_⟩|refine⟨_,⟨c2,rfl⟩,Kg ?_⟩|refine⟨_,c3,Kg ?_⟩|refine⟨_,⟨c3,rfl⟩,Kg ?_⟩|refine⟨_,c4,Kg ?_⟩|refine⟨_,⟨c4,rfl⟩,Kg ?_⟩|(apply Kp<;>intro _<;>try (exfalso;omega))
 subst hK
 refine Kn rfl ?_
 refine Xjr rfl fun K hK=>?_
 repeat' first|refine Kn rfl ?_|(refine Ka ?_;simp only[e1,go_sem])|refine Kf ?_|refine⟨_,c1,Kg ?_⟩|refine⟨_,⟨c1,rfl⟩,Kg ?_⟩|refine⟨_,c2,Kg ?_⟩|refine⟨_,⟨c2,rfl⟩,Kg ?_⟩|refine⟨_,c3,Kg ?_⟩|refine⟨_,⟨c3,rfl⟩,Kg ?_⟩|refine⟨_,c4,Kg ?_⟩|refine⟨_,⟨c4,rfl⟩,Kg ?_⟩|(apply Kp<;>intro _<;>try (exfalso;omega))
 subst hK
 refine Kn rfl ?_
 refine Xjr rfl fun K hK=>?_
 repeat' first|refine Kn rfl ?_|(refine Ka ?_;simp only[e1,go_sem])|refine Kf ?_|refine⟨_,c1,Kg ?_⟩|refine⟨_,⟨c1,rfl⟩,Kg ?_⟩|refine⟨_,c2,Kg ?_⟩|refine⟨_,⟨c2,rfl⟩,Kg ?_⟩|refine⟨_,c3,Kg ?_⟩|refine⟨_,⟨c3,rfl⟩,Kg ?_⟩|refine⟨_,c4,Kg ?_⟩|refine⟨_,⟨c4,rfl⟩,Kg ?_⟩|(apply Kp<;>intro _<;>try (exfalso;omega))
 subst hK
 refine Kn rfl ?_
 refine Xjr rfl fun K hK=>?_
 repeat' first|refine Kn rfl ?_|(refine Ka ?_;simp only[e1,go_sem])|refine Kf ?_|refine⟨_,c1,Kg ?_⟩|refine⟨_,⟨c1,rfl⟩,Kg ?_⟩|refine⟨_,c2,Kg ?_⟩|refine⟨_,⟨c2,rfl⟩,Kg ?_⟩|refine⟨_,c3,Kg ?_⟩|refine⟨_,⟨c3,rfl⟩,Kg ?_⟩|refine⟨_,c4,Kg ?_⟩|refine⟨_,⟨c4,rfl⟩,Kg ?_⟩|(apply Kp<;>intro _<;>try (exfalso;omega))
 subst hK
 refine Kn rfl ?_
 refine Xjr rfl fun K hK=>?_
 repeat' first|refine Kn rfl ?_|(refine Ka ?_;simp only[e1,go_sem])|refine Kf ?_|refine⟨_,c1,Kg ?_⟩|refine⟨_,⟨c1,rfl⟩,Kg ?_⟩|refine⟨_,c2,Kg ?_⟩|refine⟨_,⟨c2,rfl⟩,Kg ?_⟩|refine⟨_,c3,Kg ?_⟩|refine⟨_,⟨c3,rfl⟩,Kg ?_⟩|refine⟨_,c4,Kg ?_⟩|refine⟨_,⟨c4,rfl⟩,Kg ?_⟩|(apply Kp<;>intro _<;>try (exfalso;omega))
 subst hK
 refine Xeq 2 0 1 (by decide) rfl rfl ?_
 simp only[go_sem]
 repeat' first|refine Kn rfl ?_|(refine Ka ?_;simp only[go_sem])|refine Kf ?_|(apply Kp<;>intro _<;>try (exfalso;omega))
 refine Or.inr (Or.inr ⟨[1,0],.one (.clo (.func 82) [.ptr 2 0]),[prC g (Xel g),.map (Xec []),.cells [.ptr 0 0]],(by simp only[Xay,Xcl,rnV,rnA,Xcx,rn0,Xcw,Xbo,Xcm,rnC,Xak,List.isEmpty_nil,Xah,reduceCtorEq,↓reduceIte,Qa,Qb,Qc,Qd,Qe,Qf,Qg,Qh,Qi,Qj,Qk,Ql,Qm,Qn,Qo,Qp,Qq,Qr];simp only[go_sem];exact⟨W21,Wwl g⟩),Kg ?_⟩)
 simp only[bkO,bkC,Xah]
 simp only[go_sem]
 repeat' first|refine Kn rfl ?_|(refine Ka ?_;simp only[go_sem])|refine Kf ?_|(apply Kp<;>intro _<;>try (exfalso;omega))
 have hst0:Xbv [] (Xcy t)=if Xag (Xcy t) > 8000 then Xbv [] (Xcy t) else Xcy t:=by
  by_cases hf:Xag (Xcy t) > 8000
  ·rw[if_pos hf]
  ·rw[if_neg hf]
   have:=Xii [] (Xcy t) [] (by rw[List.nil_append];omega)
   rw[List.append_nil] at this;rw[this];rfl
 have hst1:Xag (Xbv [] (Xcy t)) > 8000↔Xag (Xcy t) > 8000:=by
  by_cases hf:Xag (Xcy t) > 8000
  ·exact⟨fun _=>hf,fun _=>Xmf _ _ (by rw[List.nil_append];exact hf)⟩
  ·rw[hst0,if_neg hf]
 refine Kt (fr 48 [(7,.one (.ptr 2 0)),(8,.one (.ptr 3 0)),(30,.one (.clo (.func 82) [.ptr 5 0]))]) ?_
 refine Kk 6 (by simp only[List.length_nil,List.length_cons];decide) (by simp only[go_sem]) (by simp only[List.take_succ_cons,List.take_zero,List.all_cons,List.all_nil,Xah];simp only[go_sem]) ?_
 simp only[go_sem]
 refine Wxo (f2:=82) (caps:=[.one (.ptr 5 0)]) (fun pd own'=>pd=(if Xag (Xcy t) > 8000 then some (.exit 0) else none)/\∃ m rest,own'=m::pbC g::.cells [.own 4 (Xbv [] (Xcy t)).length]::.cells [.d (.int .i64 (Xag (Xbv [] (Xcy t))))]::.row 1 (Xbv [] (Xcy t)).length (Xey (Xbv [] (Xcy t)))::rest) rfl ?_ W4p ?_ ?_ ?_
 ·intro y;simp only[go_sem]
 ·rintro b rc hps ⟨hs,hta,htb⟩
  have hR:Xpk gp g b rc:=by
   rintro⟨P0,gp0,np0,rs0,R0,rd0⟩ hP hgp m E out s n of hm hsz hsl
   dsimp only at hP hgp
   subst hP hgp
   refine⟨6,frP,rc,hs,_,_,stC m g (out++[s]) .dead (E++[.cells (itA s n of)]),(if Xag (out++[s]) > 8000 then some (.exit 0) else none),rfl,by rw[<- Array.length_toList,hps];rfl,hta,htb,?_,rfl,?_⟩
   ·rw[hps]
    unfold frP
    simp only[Xkf,Xkg,go_sem]
    repeat' first|refine Kn rfl ?_|(refine Ka ?_;simp only[Xkf,Xkg,go_sem])|refine Kf ?_|(apply Kp<;>intro _<;>try (exfalso;omega))
    refine Xlh ⟨rfl,?_⟩
    have hbs:(bT s).size=s.length:=Xdp s
    have hge:=Xke out
    have hk1:inK .i64 (((bT s).size:Int)+1):=by rw[hbs];simp[inK,IntKind.min,IntKind.max,IntKind.signed,IntKind.bits];omega
    have hsum:(Xag out:Int)+(((bT s).size:Int)+1)=((Xag (out++[s]):Nat):Int):=by rw[Xfa,hbs];omega
    have hk2:inK .i64 ((Xag (out++[s]):Nat):Int):=by rw[Xfa];simp[inK,IntKind.min,IntKind.max,IntKind.signed,IntKind.bits];omega
    have hp1:(out.length+1)*16<=140737488355328:=by omega
    have hp2:out.length+1 < lenMax:=by unfold lenMax;omega
    have hlen:(out++[s]).length=out.length+1:=by simp
    have hrow:Xey (out++[s])=Xey out++[[.str (bT s)]]:=by simp
    by_cases hf:Xag (out++[s]) > 8000
    ·have e3:decide (((Xag (out++[s]):Nat):Int) > 8000)=true:=by simp;omega
     have e4:decide (Xag (out++[s])<=8000)=false:=decide_eq_false (by omega)
     rw[if_pos hf,e4]
     repeat' first|refine Kn rfl ?_|(refine Ka ?_;simp only[Xkf,Xkg,hsum,e3,go_sem])|refine Kf ?_|refine⟨by simp,hp1,hp2,?_⟩|refine⟨hk1,?_⟩|refine⟨hk2,?_⟩|(apply Kp<;>intro _<;>try (exfalso;omega))
     exact X2c (id:=0) rfl ⟨⟨rfl,rfl⟩,by simp only[stC,hlen,hrow]⟩
    ·have e3:decide (((Xag (out++[s]):Nat):Int) > 8000)=false:=by simp;omega
     have e4:decide (Xag (out++[s])<=8000)=true:=decide_eq_true (by omega)
     rw[if_neg hf,e4]
     repeat' first|refine Kn rfl ?_|(refine Ka ?_;simp only[Xkf,Xkg,hsum,e3,go_sem])|refine Kf ?_|refine⟨by simp,hp1,hp2,?_⟩|refine⟨hk1,?_⟩|refine⟨hk2,?_⟩|(apply Kp<;>intro _<;>try (exfalso;omega))
     exact Xlh ⟨⟨rfl,rfl⟩,by simp only[stC,hlen,hrow]⟩
   ·by_cases hf:Xag (out++[s]) > 8000
    ·rw[if_pos hf,if_pos hf];rfl
    ·rw[if_neg hf,if_neg hf];rfl
  refine Xme (Yx4 h hg hst hR hem) fun r post ⟨m,rest,hpost⟩=>?_
  rw[hpost]
  refine⟨_,_,rfl,?_,?_,m,_,rfl⟩
  ·split <;> simp
  ·by_cases hf:Xag (Xcy t) > 8000
   ·rw[if_pos (hst1.2 hf),if_pos hf]
   ·rw[if_neg (fun e=>hf (hst1.1 e)),if_neg hf]
 ·rintro own' ⟨hpd,m,rest,rfl⟩
  have hf:¬ Xag (Xcy t) > 8000:=fun hf=>by rw[if_pos hf] at hpd;cases hpd
  have e2:decide ((Xag (Xcy t):Int) > 8000)=false:=by simp;omega
  rw[hst0,if_neg hf,if_neg hf,if_neg hf]
  simp only[go_sem]
  repeat' first|refine Kn rfl ?_|(refine Ka ?_;simp only[e2,go_sem])|refine Kf ?_|(apply Kp<;>intro _<;>try (exfalso;omega))
  refine Xap 4 ?_
  simp only[go_sem]
  repeat' first|refine Kn rfl ?_|(refine Kw ?_;simp only[go_sem])|refine Kf ?_|(apply Kp<;>intro _<;>try (exfalso;omega))
  all_goals trace_state
 ·rintro c own' ⟨hpd,m,rest,rfl⟩
  have hf:Xag (Xcy t) > 8000:=Classical.byContradiction fun hf=>by rw[if_neg hf] at hpd;cases hpd
  rw[if_pos hf] at hpd
  cases hpd
  have e2:decide ((Xag (Xbv [] (Xcy t)):Int) > 8000)=true:=by have:=hst1.2 hf;simp;omega
  refine⟨_,rfl,?_⟩
  rw[if_pos hf,if_pos hf]
  simp only[go_sem]
  repeat' first|refine Kn rfl ?_|(refine Kw ?_;simp only[e2,go_sem])|refine Kf ?_|(apply Kp<;>intro _<;>try (exfalso;omega))
  all_goals trace_state
open Classical in
noncomputable def emT (g:Gr):Tr:=if h:∃ (t:Tr) (met:List Int),EmW g 1 [0] [] [t] met/\NmW 0 [t] (X2x g g.l.length)/\(Xch t).length=1+(flat g).length then h.choose else .mk 0 ⟨#[]⟩ z13 [] []
theorem X1n {g:Gr} (hg:Tdy g) (hd:Xgj g):∃ met,EmW g 1 [0] [] [emT g] met/\NmW 0 [emT g] (X2x g g.l.length)/\(Xch (emT g)).length=1+(flat g).length:=by
 have h:=Yxx hg hd
 unfold emT
 rw[dif_pos h]
 exact h.choose_spec
open Classical in
noncomputable def Xfc (g:Gr):List (List UInt8) × Int :=
 if chk g=none/\g=Xa0 g then (if Xgj g then (if Xea g > 200 then ([],71) else if Xag (Xcy (emT g)) > 8000 then ([],20) else (Xcy (emT g),0)) else ([],73)) else ([],72)
theorem Y8w {g:Gr} (hs:Xc9 g) (h:chk g=none/\g=Xa0 g):Tdy g:=by
 have:=Good.tdy ⟨h.1,hs⟩
 rwa [<- h.2] at this
theorem Xpm {g:Gr} (h:¬ (chk g=none/\g=Xa0 g)):Xfc g=([],72):=by unfold Xfc;rw[if_neg h]
theorem Xr7 {g:Gr} (h:chk g=none/\g=Xa0 g) (hd:¬ Xgj g):Xfc g=([],73):=by unfold Xfc;rw[if_pos h,if_neg hd]
theorem Xr8 {g:Gr} (h:chk g=none/\g=Xa0 g) (hd:Xgj g) (hp:Xea g > 200):Xfc g=([],71):=by unfold Xfc;rw[if_pos h,if_pos hd,if_pos hp]
theorem Xr9 {g:Gr} (h:chk g=none/\g=Xa0 g) (hd:Xgj g) (hp:¬ Xea g > 200) (hl:Xag (Xcy (emT g)) > 8000):Xfc g=([],20):=by unfold Xfc;rw[if_pos h,if_pos hd,if_neg hp,if_pos hl]
theorem Xt2 {g:Gr} (h:chk g=none/\g=Xa0 g) (hd:Xgj g) (hp:¬ Xea g > 200) (hl:¬ Xag (Xcy (emT g)) > 8000):Xfc g=(Xcy (emT g),0):=by unfold Xfc;rw[if_pos h,if_pos hd,if_neg hp,if_neg hl]
theorem Xmg (g:Gr):Xag (Xfc g).1<=8000:=by
 unfold Xfc
 split
 ·split
  ·split
   ·simp[Xag]
   ·split
    ·simp[Xag]
    ·show Xag (Xcy (emT g))<=8000;omega
  ·simp[Xag]
 ·simp[Xag]
theorem Xsa (h:Env13 gp) {g:Gr} (hs:Xc9 g) (hst:∀ x∈g.l,x.short):Does QP gp 26 [g.v] (.tup [.one (.d (.sl (Xey (Xfc g).1))),vi (Xfc g).2]):=by
 by_cases ht:chk g=none/\g=Xa0 g
 ·have hg:=Y8w hs ht
  have c1:=Xpe h.e g hs
  rw[decide_eq_true ht] at c1
  by_cases hd:Xgj g
  ·by_cases hp:Xea g > 200
   ·have c2:=Ynb (b:=false) h.e hg (by simp[hd])
    have c3:=Xrw h.e hg
    have c4:=X1m h.e hg
    have e1:decide (Xea g > 200)=true:=decide_eq_true hp
    rw[Xr8 ht hd hp]
    refine Xvc ?_
    simp only[go_sem]
    repeat' first|refine Kn rfl ?_|(refine Kw ?_;simp only[e1,go_sem])|refine Kf ?_|refine⟨_,c1,Kg ?_⟩|refine⟨_,⟨c1,rfl⟩,Kg ?_⟩|refine⟨_,c2,Kg ?_⟩|refine⟨_,⟨c2,rfl⟩,Kg ?_⟩|refine⟨_,c3,Kg ?_⟩|refine⟨_,⟨c3,rfl⟩,Kg ?_⟩|refine⟨_,c4,Kg ?_⟩|refine⟨_,⟨c4,rfl⟩,Kg ?_⟩|(apply Kp<;>intro _<;>try (exfalso;omega))
    all_goals trace_state
   ·obtain⟨met,hem,_⟩:=X1n hg hd
    have:=Ync h hg hst hd hp hem
    by_cases hl:Xag (Xcy (emT g)) > 8000
    ·rw[Xr9 ht hd hp hl];rwa [if_pos hl,if_pos hl] at this
    ·rw[Xt2 ht hd hp hl];rwa [if_neg hl,if_neg hl] at this
  ·have c2:=Ynb (b:=true) h.e hg (by simp[hd])
   rw[Xr7 ht hd]
   refine Xvc ?_
   simp only[go_sem]
   repeat' first|refine Kn rfl ?_|(refine Kw ?_;simp only[go_sem])|refine Kf ?_|refine⟨_,c1,Kg ?_⟩|refine⟨_,⟨c1,rfl⟩,Kg ?_⟩|refine⟨_,c2,Kg ?_⟩|refine⟨_,⟨c2,rfl⟩,Kg ?_⟩|(apply Kp<;>intro _<;>try (exfalso;omega))
   all_goals trace_state
 ·have c1:=Xpe h.e g hs
  rw[decide_eq_false ht] at c1
  rw[Xpm ht]
  refine Xvc ?_
  simp only[go_sem]
  repeat' first|refine Kn rfl ?_|(refine Kw ?_;simp only[go_sem])|refine Kf ?_|refine⟨_,c1,Kg ?_⟩|refine⟨_,⟨c1,rfl⟩,Kg ?_⟩|(apply Kp<;>intro _<;>try (exfalso;omega))
  all_goals trace_state
theorem Ynd (h:Env13 gp) {g:Gr} (hs:Xc9 g) (hst:∀ x∈g.l,x.short):Does QP gp 13 [g.v] (.tup [.one (.d (.sl (Xey (Xfc g).1))),vi (Xfc g).2]):=by
 have c1:=Xsa h hs hst
 generalize Xfc g=o at *
 refine Wy2 ?_
 simp only[go_sem]
 repeat' first|refine Kn rfl ?_|(refine Kw ?_;simp only[go_sem])|refine Kf ?_|refine⟨_,c1,Kg ?_⟩|refine⟨_,⟨c1,rfl⟩,Kg ?_⟩|(apply Kp<;>intro _<;>try (exfalso;omega))
 all_goals trace_state
theorem Xnw (l:List (List UInt8)) (s:List UInt8):Xe9 (l++[s])=Xe9 l++(s++[10]):=by unfold Xe9;rw[List.flatMap_append];simp
theorem Xfd (l:List (List UInt8)) (j:Nat):Xag (l.take j)<=Xag l:=by
 have:=Xcu (l.take j) (l.drop j)
 rw[List.take_append_drop] at this;omega
theorem X1o (h:Env13 gp) {g:Gr} (hs:Xc9 g) (hst:∀ x∈g.l,x.short):Does QP gp 11 [g.v] (.tup [vs (bT (Xe9 (Xfc g).1)),vi (Xfc g).2]):=by
 have c1:=Xsa h hs hst
 have hsz:=Xmg g
 generalize Xfc g=o at *
 obtain⟨L,e⟩:=o
 have hsz:Xag L<=8000:=hsz
 refine Wyq ?_
 simp only[go_sem]
 repeat' first|refine Kn rfl ?_|(refine Ka ?_;simp only[go_sem])|refine Kf ?_|refine⟨_,c1,Kg ?_⟩|refine⟨_,⟨c1,rfl⟩,Kg ?_⟩|(apply Kp<;>intro _<;>try (exfalso;omega))
 refine Kt (fr 26 [(5,vi e),(6,.one (.ptr 0 0)),(14,.one (.d (.sl (Xey L)))),(15,vi L.length),(16,vi (0:Nat))]) ?_
 refine Km (fun mz sz=>∃ j:Nat,j<=L.length/\mz=L.length - j/\(0<=j)/\sz=⟨fr 26 [(5,vi e),(6,.one (.ptr 0 0)),(14,.one (.d (.sl (Xey L)))),(15,vi L.length),(16,vi j)],[.bld TB (.own 1 j),.brow TU j (Xe9 (L.take j))]⟩) (L.length) ⟨0,Nat.zero_le _,(Nat.sub_zero _).symm,?_,rfl⟩ ?_
 ·exact Nat.zero_le _
 rintro _ _ ⟨j,hj,rfl,-,rfl⟩
 simp only[go_sem]
 by_cases hjl:j < L.length
 ·obtain⟨s,hsj⟩:=Xaf hjl
  have hik:inK .i64 ((j:Int)+1):=by
   have:=Xke L
   simp[inK,IntKind.min,IntKind.max,IntKind.signed,IntKind.bits];omega
  have htl:(Xe9 (L.take j)).length<=8000:=by rw[Xih];have:=Xfd L j;omega
  have hsl:s.length<=8000:=by
   have h1:=Xfd L (j+1)
   rw[Xcb hsj,Xfa] at h1;omega
  have e1:bT s++(⟨#[10]⟩:ByteArray)=bT (s++[10]):=Xl7 s [10]
  have hsz2:(((bT s).size+#[(10:UInt8)].size:Nat):Int)<=9223372036854775807:=by rw[Xdp];simp;omega
  have bW:=Ykr (gp:=gp) (ver:=j) (bs:=Xe9 (L.take j)) (s:=bT (s++[10])) (by rw[Xdp];simp;omega)
  have e2:Xe9 (L.take j)++(bT (s++[10])).data.toList=Xe9 (L.take (j+1)):=by rw[Xcb hsj,Xnw];simp[bT]
  rw[e2] at bW
  repeat' first|refine Kn rfl ?_|(refine Ka ?_;simp only[e1,go_sem])|refine Kf ?_|refine⟨_,⟨Kq _,(Xab hsj),rfl⟩,Kg ?_⟩|refine⟨hsz2,?_⟩|(apply Kp<;>intro _<;>try (exfalso;omega))
  refine Or.inr (Or.inr ⟨[0,1],.tup [vi (bT (s++[10])).size,.one (.d .nilI)],[.bld TB (.own 1 (j+1)),.brow TU (j+1) (Xe9 (L.take (j+1)))],(by simp only[Xay,Xcl,rnV,rnA,Xcx,rn0,Xcw,Xbo,Xcm,rnC,Xak,List.isEmpty_nil,reduceCtorEq,↓reduceIte,Qa,Qb,Qc,Qd,Qe,Qf,Qg,Qh,Qi,Qj,Qk,Ql,Qm,Qn,Qo,Qp,Qq,Qr];simp only[go_sem];exact⟨W7s,bW⟩),Kg ?_⟩)
  simp only[go_sem]
  repeat' first|refine Kn rfl ?_|(refine Ka ?_;simp only[go_sem])|refine Kf ?_|refine⟨hik,?_⟩|(apply Kp<;>intro _<;>try (exfalso;omega))
  refine Kt (fr 26 [(5,vi e),(6,.one (.ptr 0 0)),(14,.one (.d (.sl (Xey L)))),(15,vi L.length),(16,vi (j+1))]) ?_
  refine Ku 2 ?_
  simp only[go_sem]
  refine Kl ⟨L.length - (j+1),by omega,j+1,by omega,rfl,?_,rfl⟩
  exact Nat.zero_le _
 ·obtain rfl:L.length=j:=by omega
  rw[List.take_length]
  repeat' first|refine Kn rfl ?_|(refine Ka ?_;simp only[go_sem])|refine Kf ?_|(apply Kp<;>intro _<;>try (exfalso;omega))
  refine Or.inr (Or.inr ⟨[0,1],vs (bT (Xe9 L)),[.dead,.dead],(by simp only[Xay,Xcl,rnV,rnA,Xcx,rn0,Xcw,Xbo,Xcm,rnC,Xak,List.isEmpty_nil,reduceCtorEq,↓reduceIte,Qa,Qb,Qc,Qd,Qe,Qf,Qg,Qh,Qi,Qj,Qk,Ql,Qm,Qn,Qo,Qp,Qq,Qr];simp only[go_sem];exact⟨by kernel_rfl,Xnq⟩),Kg ?_⟩)
  simp only[go_sem]
  repeat' first|refine Kn rfl ?_|(refine Kw ?_;simp only[go_sem])|refine Kf ?_|(apply Kp<;>intro _<;>try (exfalso;omega))
  all_goals trace_state
theorem Y8x (h:Env13 gp) {g:Gr} (hs:Xc9 g) (hst:∀ x∈g.l,x.short):Does QP gp 15 [g.v] (.tup [vi (Xag (Xfc g).1),vi (Xfc g).2]):=by
 have c1:=X1o h hs hst
 have e1:(((bT (Xe9 (Xfc g).1)).size:Nat):Int)=((Xag (Xfc g).1:Nat):Int):=by rw[Xdp,Xih]
 rw[<- e1]
 generalize Xfc g=o at *
 refine Wzd ?_
 simp only[go_sem]
 repeat' first|refine Kn rfl ?_|(refine Kw ?_;simp only[go_sem])|refine Kf ?_|refine⟨_,c1,Kg ?_⟩|refine⟨_,⟨c1,rfl⟩,Kg ?_⟩|(apply Kp<;>intro _<;>try (exfalso;omega))
 all_goals trace_state
theorem Yx5 (h:Env gp) (g:Gr) (t:Bool):Does QP gp 10 [g.v,vb t] (Xfx g t).v:=by
 refine Wyh ?_
 simp only[go_sem]
 have cg:=W63 (gp:=gp) g
 have hsm:=g.cut_small
 unfold Xfx
 generalize g.cut=q at *
 have c1:=Yj8 h q hsm
 by_cases hc:chk q=none
 ·rw[Xi0 hc,Xpd ⟨hc,hsm⟩] at c1
  cases t with
  | true =>
   rw[if_pos ⟨rfl,hc⟩]
   repeat' first|refine Kn rfl ?_|(refine Kw ?_;simp only[go_sem])|refine Kf ?_|refine⟨_,cg,Kg ?_⟩|refine⟨_,⟨cg,rfl⟩,Kg ?_⟩|refine⟨_,c1,Kg ?_⟩|refine⟨_,⟨c1,rfl⟩,Kg ?_⟩|apply Kp<;>intro _
  | false =>
   rw[if_neg (by simp)]
   repeat' first|refine Kn rfl ?_|(refine Kw ?_;simp only[go_sem])|refine Kf ?_|refine⟨_,cg,Kg ?_⟩|refine⟨_,⟨cg,rfl⟩,Kg ?_⟩|refine⟨_,c1,Kg ?_⟩|refine⟨_,⟨c1,rfl⟩,Kg ?_⟩|apply Kp<;>intro _
 ·have he:=Xgy hc
  rw[if_neg (by simp[hc])]
  generalize Xtp q=e at *
  cases t with
  | true =>
   repeat' first|refine Kn rfl ?_|(refine Kw ?_;simp only[go_sem])|refine Kf ?_|refine⟨_,cg,Kg ?_⟩|refine⟨_,⟨cg,rfl⟩,Kg ?_⟩|refine⟨_,c1,Kg ?_⟩|refine⟨_,⟨c1,rfl⟩,Kg ?_⟩|apply Kp<;>intro _
   all_goals first|(exfalso;simp_all;done)|skip
  | false=>repeat' (first|refine Kn rfl ?_|(refine Kw ?_;simp only[go_sem])|refine Kf ?_|refine⟨_,cg,Kg ?_⟩|refine⟨_,⟨cg,rfl⟩,Kg ?_⟩|refine⟨_,c1,Kg ?_⟩|refine⟨_,⟨c1,rfl⟩,Kg ?_⟩|apply Kp<;>intro _)
theorem Xnx:Nd.zero.short:=by
 refine⟨by simp[Nd.zero],by simp[Nd.zero],?_,by simp[Nd.zero]⟩
 show Nd.zero.x.s.size<=100000
 exact Nat.zero_le _
theorem X22 {l:List Nd} (h:∀ x∈l,x.short) (i:Int):(Xbr l i).short:=by
 unfold Xbr
 split
 ·cases hx:l[i.toNat]? with
  | none=>exact Xnx
  | some x=>exact h x (List.mem_of_getElem? hx)
 ·exact Xnx
theorem Xt3 {q:Gr} (hg:Good q) (h:∀ x∈q.l,x.short):∀ x∈(Xa0 q).l,x.short:=by
 intro x hx
 have hs:=hg.tidy.s x hx
 unfold Xa0 at hx
 obtain⟨i,-,rfl⟩:=List.mem_map.1 hx
 have h1:=X22 h i
 refine⟨hs.1,hs.2,h1.2.2.1,fun y hy=>h1.2.2.2 y ?_⟩
 have hy':y∈Xaq (Xbr q.l i):=hy
 unfold Xaq Xae at hy'
 split at hy'
 ·rename_i hk
  rw[((Xdv (Xb5 (Xbr q.l i))).map Pr.key).mem_iff,Xgu hk.2] at hy'
  exact hy'
 ·simp at hy'
theorem Xsb (g:Gr) (t:Bool):∀ x∈(Xfx g t).l,x.short:=by
 unfold Xfx
 split
 ·rename_i h
  exact Xt3 ⟨h.2,g.cut_small⟩ (Xr3 g)
 ·exact Xr3 g
theorem Xsc (g:Gr) (t:Bool):Xc9 (Xfx g t):=by
 unfold Xfx
 split
 ·rename_i h
  exact (Good.tidy ⟨h.2,g.cut_small⟩).s
 ·exact g.cut_small
theorem X23 (g:Gr) (t:Bool):(Xfx g t).l.length<=900:=by
 have hc:g.cut.l.length<=900:=by simp[Gr.cut];omega
 unfold Xfx
 split
 ·rename_i h
  have hg:Good g.cut:=⟨h.2,g.cut_small⟩
  have:=hg.wlen
  rw[Xd6]
  omega
 ·exact hc
def Jkk (g:Gr) (j:Nat):Int:=((g.l[j]?).map fun x=>(x.kids.length:Int)).getD 0
theorem Xny {f:Nat->Int} {c:Int} {n:Nat} (h:∀ j,j < n->-c<=f j/\f j<=c):∀ i,i<=n->-(c*i)<=Xg6 f i/\Xg6 f i<=c*i
 | 0,_=>by simp[Xg6]
 | i+1,hi=>by
  have h1:=Xny h i (by omega)
  have h2:=h i (by omega)
  simp only[Xg6]
  have:c*((i+1:Nat):Int)=c*(i:Int)+c:=by rw[Int.natCast_add,Int.mul_add];simp
  omega
theorem Xfe {x:Int} (h:-1000000000<=x) (h':x<=1000000000):inK .i64 x:=by simp[inK,IntKind.min,IntKind.max,IntKind.signed,IntKind.bits];omega
end Go.Fw.L07
