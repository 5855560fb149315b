/- Chapter 7: kids as own rows. -/
import Derived.Test.YtiklocoaghcliaaGreatDoorL07R
import Derived.Test.YtiklocoaghcliaaGreatDoorJb
import Derived.Test.YtiklocoaghcliaaGreatDoorL07L10Mini
import Derived.Test.YtiklocoaghcliaaGreatDoorJa
import Derived.Test.YtiklocoaghcliaaGreatDoorEa
set_option linter.all false
namespace Go.Fw
open Go
section
variable {S:Sx} {Y:Dyn} {k:List MI} {s:St} {a:Act} {w w':World} {H:Xaj} {an:Anc} {F:Nat->Nat->Prop} {ms:List Nat}
theorem SatX.nil_row_v (h:SatX S Y s a w H an F ms) {u:Value} (hu:∃ A,u=.slice A 0 0) (sz ver:Nat) (hsz:0 < sz) :
  SatX S Y { s with own:=s.own++[.row sz ver []] } a w H (an.put s.own.length (ver,u)) (fun j b=>if j=s.own.length then False else F j b) ms:=by
 obtain⟨A,rfl⟩:=hu
 exact h.add_own (WKeep.refl w _) (fun _ hb=>hb.elim) ⟨rfl,⟨_,_,_,rfl⟩,hsz,by simp,by simp[Xad],.inl ⟨rfl,⟨_,rfl⟩,fun _ hb=>hb⟩⟩
theorem Yh7 (t sz ver:Nat) (hsz:0 < sz) (ht:Xav s.fr t=.one .nil) (h:G S k ⟨Xbb s.fr t (.one (.own s.own.length ver)),s.own++[.row sz ver []]⟩):G S k s:=by
 rintro Y a w ⟨H,an,F,ms,hs⟩
 obtain⟨u,hu,hd⟩:=hs.fr.get (Xa4 _ _ _ ht (by simp))
 have hd:∃ A,u=.slice A 0 0:=hd
 have h1:=hs.nil_row_v hd sz ver hsz
 refine h Y a w ⟨H,_,_,ms,h1.reframe ?_⟩
 have:=Xbx s.fr a.tmps.toList t (.one (.own s.own.length ver)) u h1.fr (by
  obtain⟨A,rfl⟩:=hd
  exact⟨rfl,(ver,.slice A 0 0),by simp[Anc.put],Nat.le_refl _,fun _=>rfl⟩)
 rwa [Xob hu] at this
end
end Go.Fw
namespace Go.Fw.L07
open Go Go.Fw
open Go.Fw.Sh renaming intro->Kg
open Go.Fw renaming Xec->Ka,Xbg->Ka,Xhs->Ka,Xb3->Kb,Xh9->Kv,Xbv->Ke,Xel->Kf,Yjy->Ki,Xdn->Kt,Xl3->Kk,Xh8->Ku,Xdl->Kl,Xfl->Km,Gx->Kn,Gw->Ko
open Go.Fw renaming Xbg->Ka, Xbk->Ka, Xbv->Ka, Xb3->Ka
open Go.Fw renaming Xec->Kw, Xbg->Kw, Xbk->Kw, Xbv->Kw, Xb3->Kw, Xh6->Kw, Xem->Kw
open Go.Fw.Sh renaming intro->Kf
open Int renaming natCast_nonneg->Kq
open List renaming getElem?_eq_some_iff->Kr
open And renaming intro->Kp
open Go.Proofs.Tryz renaming prog->QP
open Nat renaming reduceAdd->Qa,reduceSub->Qb,reduceMul->Qc,reduceLeDiff->Qd,reduceLT->Qe,reduceEqDiff->Qf
open Int renaming reduceToNat->Qg,reduceLT->Qh,reduceLE->Qi,reduceGT->Qj,reduceGE->Qk,reduceEq->Ql,reduceNe->Qm,reduceBEq->Qn,reduceBNe->Qo,reduceAdd->Qp,reduceSub->Qq,reduceNeg->Qr
open Go.Fw.V.one renaming injEq->Qs
open Go.Fw.V.agg renaming injEq->Qt
open Go.Fw.V.tup renaming injEq->Qu
open Go.Fw.A.d renaming injEq->Qv
open Go.Fw.D.bool renaming injEq->Qw
open Go.Fw.D.int renaming injEq->Qx
open Go.Fw.D.str renaming injEq->Qy
open Go.Fw.D.sl renaming injEq->Qz
open List.cons renaming injEq->Za
set_option maxRecDepth 4000
variable {gp:Xaj}
theorem Xs5 (l:List Int) (hl:l.length < 1000000):Tri QP gp 71 [.one (.d (.sl (Xai l)))] [] fun r post=>r=.one (.own 0 1)/\post=[.row 1 1 (Xai l)]:=by
 refine Y4b ?_
 simp only[go_sem]
 cases l with
 | nil =>
  refine Yj7 0 rfl fun q c=>?_
  cases q with
  | none =>
   simp only[go_sem]
   repeat' first|refine Kn rfl ?_|((first|refine Kw ?_|refine Kv ?_);simp only[Xex,Xey,go_sem])|refine Kf ?_|apply Kp<;>intro _
   repeat' first|refine Kn rfl ?_|((first|refine Ka ?_|refine Kb ?_|refine Kv ?_);simp only[Xgc,go_sem])|refine Kf ?_|refine Kg ?_
   refine Yh7 2 1 1 (by decide) rfl ?_
   simp only[go_sem]
   repeat' first|refine Kn rfl ?_|((first|refine Kw ?_|refine Kv ?_);simp only[Xex,Xey,Xgc,Xgw,go_sem])|refine Kf ?_|apply Kp<;>intro _
  | some q =>
   simp only[go_sem]
   refine Xni ?_
   repeat' first|refine Kn rfl ?_|((first|refine Kw ?_|refine Kv ?_);simp only[Xex,Xey,go_sem])|refine Kf ?_|apply Kp<;>intro _
   refine Xpj 0 rfl ?_
   simp only[go_sem]
   repeat' first|refine Kn rfl ?_|((first|refine Kw ?_|refine Kv ?_);simp only[Xex,Xey,Xgc,Xgw,go_sem])|refine Kf ?_|apply Kp<;>intro _
   refine⟨by simp,by simp[Xad],?_⟩
   repeat' first|refine Kn rfl ?_|((first|refine Kw ?_|refine Kv ?_);simp only[Xex,Xey,Xgc,Xgw,go_sem])|refine Kf ?_|apply Kp<;>intro _
 | cons x l =>
  simp only[go_sem]
  repeat' first|refine Kn rfl ?_|((first|refine Kw ?_|refine Kv ?_);simp only[Xex,Xey,Xgc,Xgw,go_sem])|refine Kf ?_|apply Kp<;>intro _
  refine⟨by simp,by simp at hl;omega,by simp[Xad] at hl ⊢;omega,?_⟩
  repeat' first|refine Kn rfl ?_|((first|refine Kw ?_|refine Kv ?_);simp only[Xex,Xey,Xgc,Xgw,go_sem])|refine Kf ?_|apply Kp<;>intro _
def Ypp (x:Nd):Nat:=if x.k=1 then 1 else (Xab x).length
theorem Ypq (g:Gr) (i:Int) (hg:Xe3 g):Tri QP gp 50 [g.v,vi i] [] fun r post=>r=.tup [.one (.own 1 (Ypp (Xbc g.l i))),vi (atE g.l i)]/\post=[.dead,.row 1 (Ypp (Xbc g.l i)) (Xai (Xak (Xbc g.l i)))]:=by
 refine Y3r ?_
 simp only[go_sem]
 refine Xgb 28 ?_
 simp only[go_sem]
 obtain⟨h1,h2⟩:=hg.at i
 have hz:=Xxv g.l i
 have ha:=Xt9 (gp:=gp) g i
 generalize Xbc g.l i=x at *
 generalize atE g.l i=e at *
 generalize atN g.l i=n at *
 have hq:=Xcu x
 repeat' first|refine Kn rfl ?_|((first|refine Kw ?_|refine Kv ?_);simp only[Xd3,Xd4,Xd5,Xd6,Xd7,Xck,Xb0,Xcl,Xcm,Xcn,Xco,go_sem])|refine Kf ?_|refine⟨_,ha,Kg ?_⟩|refine⟨_,⟨ha,rfl⟩,Kg ?_⟩|refine⟨_,X0u x n (by omega),Kg ?_⟩|refine⟨_,⟨X0u x n (by omega),rfl⟩,Kg ?_⟩|apply Kp<;>intro _
 ·rename_i h
  have h:x.k=1:=by simpa using h
  have hk:Xak x=x.kids:=by unfold Xak;rw[if_pos h]
  have hv:Ypp x=1:=by unfold Ypp;rw[if_pos h]
  rw[hk,hv]
  refine Or.inr ⟨[],.one (.own 0 1),[.row 1 1 (Xai x.kids)],(by simp only[Xa1,Xds,rnV,rnA,Xdy,rn0,Xdx,Xb1,Xdt,rnC,Xah,List.isEmpty_nil,reduceCtorEq,↓reduceIte,Qa,Qb,Qc,Qd,Qe,Qf,Qg,Qh,Qi,Qj,Qk,Ql,Qm,Qn,Qo,Qp,Qq,Qr];simp only[go_sem];exact⟨X6m,Xs5 x.kids (by omega)⟩),Kg ?_⟩
  simp only[go_sem]
  refine Ku 2 ?_
  simp only[go_sem]
  refine Xa0 0 ?_
  simp only[go_sem]
  repeat' first|refine Kn rfl ?_|((first|refine Kw ?_|refine Kv ?_);simp only[Xd3,Xd4,Xd5,Xd6,Xd7,Xck,Xb0,Xcl,Xcm,Xcn,Xco,go_sem])|refine Kf ?_|apply Kp<;>intro _
 ·rename_i h
  have h:¬ x.k=1:=by simpa using h
  have hk:Xak x=(Xab x).map Pr.kid:=by unfold Xak;rw[if_neg h]
  have hv:Ypp x=(Xab x).length:=by unfold Ypp;rw[if_neg (h)]
  rw[hk,hv]
  refine Xl5 8 1 (by decide) rfl ?_
  simp only[go_sem]
  refine Kt (fr 45 [(7,vi e),(8,.one (.own 1 (0:Nat))),(31,.one (.d (.sl (prs (Xab x))))),(32,vi (Xab x).length),(33,vi (0:Nat))]) ?_
  refine Km (fun mz sz=>∃ i:Nat,i<=(Xab x).length/\mz=(Xab x).length - i/\(0<=i)/\sz=⟨fr 45 [(7,vi e),(8,.one (.own 1 i)),(31,.one (.d (.sl (prs (Xab x))))),(32,vi (Xab x).length),(33,vi i)],[.cells _,.row 1 i (Xai (((Xab x).map Pr.kid).take i))]⟩) ((Xab x).length) ⟨0,Nat.zero_le _,(Nat.sub_zero _).symm,?_,rfl⟩ ?_
  ·exact Nat.zero_le _
  rintro _ _ ⟨i,hi,rfl,-,rfl⟩
  simp only[go_sem]
  by_cases hil:i < (Xab x).length
  ·obtain⟨p,hp⟩:=Xaq hil
   repeat' first|refine Kn rfl ?_|((first|refine Kw ?_|refine Kv ?_);simp only[Xd3,Xd4,Xd5,Xd6,Xd7,Xck,Xb0,Xcl,Xcm,Xcn,Xco,go_sem])|refine Kf ?_|refine⟨_,⟨Kq _,(by first|exact Xae hp|(rw[Int.toNat_natCast];exact Xae hp)),rfl⟩,Kg ?_⟩|apply Kp<;>intro _
   ·refine⟨by simp,by simp;omega,by simp[Xad];omega,?_⟩
    rw[show Xai (((Xab x).map Pr.kid).take i)++[_]=Xai (((Xab x).map Pr.kid).take (i+1)) from Xgy (by rw[List.getElem?_map,hp];rfl)]
    repeat' first|refine Kn rfl ?_|((first|refine Kw ?_|refine Kv ?_);simp only[Xd3,Xd4,Xd5,Xd6,Xd7,Xck,Xb0,Xcl,Xcm,Xcn,Xco,go_sem])|refine Kf ?_|apply Kp<;>intro _
    refine⟨Xat hil (by unfold Xad;omega),?_⟩
    refine Kt (fr 45 [(7,vi e),(8,.one (.own 1 (i+1))),(31,.one (.d (.sl (prs (Xab x))))),(32,vi (Xab x).length),(33,vi (i+1))]) ?_
    refine Ku 2 ?_
    simp only[go_sem]
    refine Kl ⟨(Xab x).length - (i+1),by omega,i+1,by omega,rfl,?_,rfl⟩
    exact Nat.zero_le _
   ·omega
  ·repeat refine Ko rfl ?_
   refine Ka ?_
   simp only[Xb0,go_sem]
   repeat refine Ko rfl ?_
   refine Ke ?_
   simp only[go_sem]
   refine⟨fun h=>by exfalso;omega,fun _=>Xhr rfl ?_⟩
   obtain rfl:i=(Xab x).length:=by omega
   rw[List.take_of_length_le (by simp)]
   refine Xa0 0 ?_
   simp only[go_sem]
   repeat' first|refine Kn rfl ?_|((first|refine Kw ?_|refine Kv ?_);simp only[Xd3,Xd4,Xd5,Xd6,Xd7,Xck,Xb0,Xcl,Xcm,Xcn,Xco,go_sem])|refine Kf ?_|apply Kp<;>intro _
 ·rename_i h
  have h:x=Nd.zero:=hz (by intro h2;simp[h2] at h)
  have hk:Xak x=(Xab x).map Pr.kid:=by rw[h];rfl
  have hv:Ypp x=(Xab x).length:=by unfold Ypp;rw[if_neg (by rw[h];decide)]
  rw[hk,hv]
  refine Xl5 8 1 (by decide) rfl ?_
  simp only[go_sem]
  refine Kt (fr 45 [(7,vi e),(8,.one (.own 1 (0:Nat))),(31,.one (.d (.sl (prs (Xab x))))),(32,vi (Xab x).length),(33,vi (0:Nat))]) ?_
  refine Km (fun mz sz=>∃ i:Nat,i<=(Xab x).length/\mz=(Xab x).length - i/\(0<=i)/\sz=⟨fr 45 [(7,vi e),(8,.one (.own 1 i)),(31,.one (.d (.sl (prs (Xab x))))),(32,vi (Xab x).length),(33,vi i)],[.cells _,.row 1 i (Xai (((Xab x).map Pr.kid).take i))]⟩) ((Xab x).length) ⟨0,Nat.zero_le _,(Nat.sub_zero _).symm,?_,rfl⟩ ?_
  ·exact Nat.zero_le _
  rintro _ _ ⟨i,hi,rfl,-,rfl⟩
  simp only[go_sem]
  by_cases hil:i < (Xab x).length
  ·obtain⟨p,hp⟩:=Xaq hil
   repeat' first|refine Kn rfl ?_|((first|refine Kw ?_|refine Kv ?_);simp only[Xd3,Xd4,Xd5,Xd6,Xd7,Xck,Xb0,Xcl,Xcm,Xcn,Xco,go_sem])|refine Kf ?_|refine⟨_,⟨Kq _,(by first|exact Xae hp|(rw[Int.toNat_natCast];exact Xae hp)),rfl⟩,Kg ?_⟩|apply Kp<;>intro _
   ·refine⟨by simp,by simp;omega,by simp[Xad];omega,?_⟩
    rw[show Xai (((Xab x).map Pr.kid).take i)++[_]=Xai (((Xab x).map Pr.kid).take (i+1)) from Xgy (by rw[List.getElem?_map,hp];rfl)]
    repeat' first|refine Kn rfl ?_|((first|refine Kw ?_|refine Kv ?_);simp only[Xd3,Xd4,Xd5,Xd6,Xd7,Xck,Xb0,Xcl,Xcm,Xcn,Xco,go_sem])|refine Kf ?_|apply Kp<;>intro _
    refine⟨Xat hil (by unfold Xad;omega),?_⟩
    refine Kt (fr 45 [(7,vi e),(8,.one (.own 1 (i+1))),(31,.one (.d (.sl (prs (Xab x))))),(32,vi (Xab x).length),(33,vi (i+1))]) ?_
    refine Ku 2 ?_
    simp only[go_sem]
    refine Kl ⟨(Xab x).length - (i+1),by omega,i+1,by omega,rfl,?_,rfl⟩
    exact Nat.zero_le _
   ·omega
  ·repeat refine Ko rfl ?_
   refine Ka ?_
   simp only[Xb0,go_sem]
   repeat refine Ko rfl ?_
   refine Ke ?_
   simp only[go_sem]
   refine⟨fun h=>by exfalso;omega,fun _=>Xhr rfl ?_⟩
   obtain rfl:i=(Xab x).length:=by omega
   rw[List.take_of_length_le (by simp)]
   refine Xa0 0 ?_
   simp only[go_sem]
   repeat' first|refine Kn rfl ?_|((first|refine Kw ?_|refine Kv ?_);simp only[Xd3,Xd4,Xd5,Xd6,Xd7,Xck,Xb0,Xcl,Xcm,Xcn,Xco,go_sem])|refine Kf ?_|apply Kp<;>intro _
abbrev pD (g:Gr) (c:List Int):V:=.one (.d (.bx [.int .i64 g.root,.sl (nds g.l),.sl (Xai c)]))
theorem X1q {l:List Sc} {i:Nat} {x:Sc} (h:l[i]?=some x):Xhn (l.take i)++(bT (scB x)++⟨#[44]⟩:ByteArray).data.toList=Xhn (l.take (i+1)):=by
 have e:(bT (scB x)++⟨#[44]⟩:ByteArray)=bT (scB x++[44]):=Yxq _ [44]
 rw[e]
 unfold Xhn
 rw[List.take_succ,h,List.flatMap_append]
 simp[bT]
theorem Yh8:∀ l:List Int,(l.flatMap pcR).length<=4*l.length
 | []=>Nat.le_refl _
 | r::l=>by
  have h1:=Yf9 r
  have h2:=Yh8 l
  simp only[List.flatMap_cons,List.length_append,List.length_cons]
  omega
theorem Yh9 (s:ByteArray):∀ (f p:Nat),(sgF s f p).length<=f
 | 0,p=>by simp[sgF]
 | f+1,p=>by
  have:=Yh9 s f (p+(Utf8.decode s p).2)
  simp only[sgF]
  split <;> simp <;> omega
theorem Yia {x:Sc} (h:prR Xag x=true) (hs:x.short):(scB x).length<=1700000:=by
 have hk:=Xf6 h
 unfold Xmh at hk
 unfold scB
 split
 ·simp
 ·split
  ·cases decide (x.n=1) <;> simp[Xj3]
  ·split
   ·have:=Lib.itoa_length_le x.n (by omega) (by omega)
    omega
   ·unfold X1z sgS
    have h1:=Xi9 ((sgF x.s x.s.size 0).flatMap pcR)
    have h2:=Yh8 (sgF x.s x.s.size 0)
    have h3:=Yh9 x.s x.s.size 0
    unfold Sc.short at hs
    simp only[List.length_cons,List.length_append,List.length_nil]
    omega
theorem Xs6:∀ (l:List Sc),(∀ x∈l,prR Xag x=true/\x.short)->(Xhn l).length<=1700001*l.length
 | [],_=>Nat.le_refl _
 | x::l,h=>by
  have h0:=h x (by simp)
  have h1:=Yia h0.1 h0.2
  have h2:=Xs6 l fun m hm=>h m (by simp[hm])
  unfold Xhn at *
  simp only[List.flatMap_cons,List.length_append,List.length_cons,List.length_nil]
  omega
theorem Wxk (hU:Xpq gp) (hP:Xnl gp) (g:Gr) (c:List Int) (hg:Xe3 g) (i:Int) (hk:∀ x∈Xap (Xbc g.l i),prR Xag x=true/\x.short) :
  Xao QP gp 138 [pD g c,vi i] (vs (bT (Xhn (Xap (Xbc g.l i))))):=by
 refine Wfd ?_
 simp only[go_sem]
 have ck:=keys (gp:=gp) g i hg
 have hl:(Xap (Xbc g.l i)).length<=12:=by
  obtain⟨h1,h2⟩:=hg.at i
  have:=Xcu (Xbc g.l i)
  unfold Xap;rw[List.length_map];omega
 generalize Xap (Xbc g.l i)=l at *
 generalize atE g.l i=e at *
 repeat' first|refine Kn rfl ?_|((first|refine Kw ?_|refine Kv ?_);simp only[go_sem])|refine Kf ?_|refine⟨_,ck,Kg ?_⟩|refine⟨_,⟨ck,rfl⟩,Kg ?_⟩|apply Kp<;>intro _
 refine Kt (fr 37 [(7,.one (.ptr 0 0)),(21,.one (.d (.sl (scs l)))),(22,vi l.length),(23,vi ((0:Nat):Int))]) ?_
 refine Km (fun mz sz=>∃ i:Nat,i<=l.length/\mz=l.length - i/\sz=⟨fr 37 [(7,.one (.ptr 0 0)),(21,.one (.d (.sl (scs l)))),(22,vi l.length),(23,vi (i:Int))],[.bld TB (.own 1 i),.brow TU i (Xhn (l.take i))]⟩) l.length ⟨0,Nat.zero_le _,rfl,by simp[Xhn]⟩ ?_
 rintro _ _ ⟨i,hi,rfl,rfl⟩
 simp only[go_sem]
 have hlen:=Xs6 (l.take i) fun n hm=>hk n (List.mem_of_mem_take hm)
 have hlt:(l.take i).length<=12:=by simp;omega
 by_cases hil:i < l.length
 ·obtain⟨x,hx⟩:=Xaq hil
  have h0:=hk x (List.mem_of_getElem? hx)
  have c1:=Wvm hU hP x h0.1 h0.2
  have hit:=Yia h0.1 h0.2
  have hsz:(bT (scB x)++(⟨#[44]⟩:ByteArray)).size<=1700001:=by rw[Xzl,Xqe];simp[ByteArray.size];omega
  have e1:decide ((i:Int) < (l.length:Int))=true:=decide_eq_true (by omega)
  repeat' first|refine Kn rfl ?_|((first|refine Kw ?_|refine Kv ?_);simp only[e1,go_sem])|refine Kf ?_|refine⟨_,c1,Kg ?_⟩|refine⟨_,⟨c1,rfl⟩,Kg ?_⟩|refine⟨_,⟨Kq _,(by first|exact Xae hx|(rw[Int.toNat_natCast];exact Xae hx)),rfl⟩,Kg ?_⟩|apply Kp<;>intro _
  refine⟨by rw[Xqe];simp;omega,?_⟩
  have bW:=Xsp (gp:=gp) (ver:=i) (bs:=Xhn (l.take i)) (s:=bT (scB x)++⟨#[44]⟩) (by omega)
  have hsn:=X1q hx
  generalize (bT (scB x)++⟨#[44]⟩:ByteArray)=w at *
  refine Or.inr (Or.inr ⟨[0,1],.tup [vi w.size,.one (.d .nilI)],[.bld TB (.own 1 (i+1)),.brow TU (i+1) (Xhn (l.take i)++w.data.toList)],(by simp only[Xa1,Xds,rnV,rnA,Xdy,rn0,Xdx,Xb1,Xdt,rnC,Xah,List.isEmpty_nil,reduceCtorEq,↓reduceIte,Qa,Qb,Qc,Qd,Qe,Qf,Qg,Qh,Qi,Qj,Qk,Ql,Qm,Qn,Qo,Qp,Qq,Qr];simp only[go_sem];exact⟨Ycp,bW⟩),Kg ?_⟩)
  simp only[go_sem]
  rw[hsn]
  refine Kt (fr 37 [(7,.one (.ptr 0 0)),(21,.one (.d (.sl (scs l)))),(22,vi l.length),(23,vi (i:Int))]) ?_
  refine Ku 2 ?_
  simp only[go_sem]
  repeat' first|refine Kn rfl ?_|((first|refine Kw ?_|refine Kv ?_);simp only[go_sem])|refine Kf ?_|apply Kp<;>intro _
  refine⟨Xat hil (by unfold Xad;omega),?_⟩
  refine Kt (fr 37 [(7,.one (.ptr 0 0)),(21,.one (.d (.sl (scs l)))),(22,vi l.length),(23,vi (i+1))]) ?_
  exact Kl ⟨l.length - (i+1),by omega,i+1,by omega,rfl,rfl⟩
 ·obtain rfl:i=l.length:=by omega
  rw[List.take_of_length_le (Nat.le_refl _)]
  have e1:decide ((l.length:Int) < (l.length:Int))=false:=decide_eq_false (by omega)
  repeat' first|refine Kn rfl ?_|((first|refine Kw ?_|refine Kv ?_);simp only[e1,go_sem])|refine Kf ?_|apply Kp<;>intro _
  refine Or.inr (Or.inr ⟨[0,1],vs (bT (Xhn l)),[.dead,.dead],(by simp only[Xa1,Xds,rnV,rnA,Xdy,rn0,Xdx,Xb1,Xdt,rnC,Xah,List.isEmpty_nil,reduceCtorEq,↓reduceIte,Qa,Qb,Qc,Qd,Qe,Qf,Qg,Qh,Qi,Qj,Qk,Ql,Qm,Qn,Qo,Qp,Qq,Qr];simp only[go_sem];exact⟨by kernel_rfl,Xj5⟩),Kg ?_⟩)
  simp only[go_sem]
  repeat' first|refine Kn rfl ?_|((first|refine Kw ?_|refine Kv ?_);simp only[go_sem])|refine Kf ?_|apply Kp<;>intro _
def Xf8 (c:List Int) (i:Int):Int:=c[i.toNat]?.getD 0
structure SayT where
 k:Int
 x:Sc
 ks:List UInt8
 ns:List UInt8
 deriving DecidableEq
def Wht (c:List Int) (x:Nd):SayT:=⟨x.k,x.x,Xhn (Xap x),Xhm ((Xak x).map (Xf8 c))⟩
abbrev Whu (s:SayT):V:=.agg [.d (.int .i64 s.k),.d (.int .i64 s.x.k),.d (.int .i64 s.x.n),.d (.str s.x.s),.d (.str (bT s.ks)),.d (.str (bT s.ns))]
def X11 (c l:List Int) (i:Nat):List Int:=(l.take i).map (Xf8 c)++l.drop i
theorem Whv (c l:List Int) (i:Nat) (h:i<=l.length):(X11 c l i).length=l.length:=by simp[X11];omega
theorem Wxl {c l:List Int} {i:Nat} {j:Int} (h:l[i]?=some j):(X11 c l i)[i]?=some j:=by
 have:=(Kr.1 h).1
 unfold X11
 rw[List.getElem?_append_right (by rw[List.length_map,List.length_take];omega)]
 simp only[List.getElem?_drop,List.length_map,List.length_take]
 rw[show i+(i - min i l.length)=i by omega,h]
theorem Whw {c l:List Int} {i:Nat} {j y:Int} (h:l[i]?=some j) (hy:c[j.toNat]?=some y):(Xai (X11 c l i)).set i [.int .i64 y]=Xai (X11 c l (i+1)):=by
 have hi:=(Kr.1 h).1
 have e:Xf8 c j=y:=by unfold Xf8;rw[hy];rfl
 have:Xai (X11 c l i)=(Xai ((l.take i).map (Xf8 c)))++([.int .i64 j]::Xai (l.drop (i+1))):=by
  unfold X11
  rw[List.drop_eq_getElem_cons hi]
  have:l[i]=j:=by rw[List.getElem?_eq_getElem hi] at h;exact Option.some.inj h
  simp[Xai,this]
 rw[this,List.set_append_right _ _ (by simp[Xai];omega)]
 have hz:i - (Xai ((l.take i).map (Xf8 c))).length=0:=by simp[Xai];omega
 rw[hz,List.set_cons_zero]
 unfold X11
 rw[List.take_succ,h]
 simp[Xai,e]
theorem Xf9 {l:List Int} {i:Nat} {x:Int} (h:l[i]?=some x):(Xai l)[i]?=some [.int .i64 x]:=by rw[List.getElem?_map,h];rfl
theorem Yib {l:List Nd} {i:Nat} {x:Nd} (h:l[i]?=some x):(nds l)[i]?=some x.ds:=by rw[List.getElem?_map,h];rfl
theorem Wxm (hU:Xpq gp) (hP:Xnl gp) (g:Gr) (c:List Int) (hg:Xe3 g) (m:Int) (hi:inL g.l m) (hk:∀ x∈Xap (Xbc g.l m),prR Xag x=true/\x.short)
  (hc:∀ j∈Xak (Xbc g.l m),0<=j/\∃ x,c[j.toNat]?=some x/\okI x):Xao QP gp 118 [pD g c,vi m] (Whu (Wht c (Xbc g.l m))):=by
 refine We4 ?_
 simp only[go_sem]
 refine Xgb 15 ?_
 simp only[go_sem]
 have hx:=Xsm hi
 have hi0:=hi.1
 have ck:=Ypq (gp:=gp) g m hg
 have hl:=Xfq (Xbc g.l m) 12 (hg.at m)
 have c1:=Wxk hU hP g c hg m hk
 have c2:=Wfw hP ((Xak (Xbc g.l m)).map (Xf8 c)) (fun n hn=>by
  obtain⟨j,hj,rfl⟩:=List.mem_map.1 hn
  obtain⟨_,x,h1,h2⟩:=hc j hj
  unfold Xf8;rw[h1];exact h2) (by simp;omega)
 unfold Wht
 generalize Xbc g.l m=x at *
 generalize Xak x=l at *
 generalize Ypp x=v at *
 generalize atE g.l m=e at *
 repeat' first|refine Kn rfl ?_|((first|refine Kw ?_|refine Kv ?_);simp only[go_sem])|refine Kf ?_|apply Kp<;>intro _
 refine Or.inr ⟨[],.tup [.one (.own 1 v),vi e],[.dead,.row 1 v (Xai l)],(by simp only[Xa1,Xds,rnV,rnA,Xdy,rn0,Xdx,Xb1,Xdt,rnC,Xah,List.isEmpty_nil,reduceCtorEq,↓reduceIte,Qa,Qb,Qc,Qd,Qe,Qf,Qg,Qh,Qi,Qj,Qk,Ql,Qm,Qn,Qo,Qp,Qq,Qr];simp only[go_sem];exact⟨Ytc,ck⟩),Kg ?_⟩
 simp only[go_sem]
 repeat' first|refine Kn rfl ?_|((first|refine Kw ?_|refine Kv ?_);simp only[go_sem])|refine Kf ?_|apply Kp<;>intro _
 refine Kt (fr 60 [(0,pD g c),(1,vi m),(4,.one (.ptr 0 0)),(5,.one (.own 2 v)),(18,.one (.own 2 v)),(19,vi l.length),(20,vi ((0:Nat):Int))]) ?_
 refine Ku 3 ?_
 simp only[go_sem]
 refine Kt (fr 60 [(0,pD g c),(1,vi m),(4,.one (.ptr 0 0)),(5,.one (.own 2 v)),(18,.one (.own 2 v)),(19,vi l.length),(20,vi (0:Nat))]) ?_
 refine Km (fun mz sz=>∃ i:Nat,i<=l.length/\mz=l.length - i/\(0<=i)/\sz=⟨fr 60 [(0,pD g c),(1,vi m),(4,.one (.ptr 0 0)),(5,.one (.own 2 v)),(18,.one (.own 2 v)),(19,vi l.length),(20,vi i)],[.cells [.d (.int .i64 0),.d (.int .i64 0),.d (.int .i64 0),.d (.str ⟨#[]⟩),.d (.str ⟨#[]⟩),.d (.str ⟨#[]⟩)],.dead,.row 1 v (Xai (X11 c l i))]⟩) (l.length) ⟨0,Nat.zero_le _,(Nat.sub_zero _).symm,?_,rfl⟩ ?_
 ·exact Nat.zero_le _
 rintro _ _ ⟨i,hkl,rfl,-,rfl⟩
 simp only[go_sem]
 by_cases hil:i < l.length
 ·obtain⟨j,hj⟩:=Xaq hil
  obtain⟨hj0,y,hy,_⟩:=hc j (List.mem_of_getElem? hj)
  have hm:=Wxl (c:=c) hj
  have hml:=Whv c l i (by omega)
  have e1:decide ((i:Int) < (l.length:Int))=true:=decide_eq_true (by omega)
  repeat' first|refine Kn rfl ?_|((first|refine Kw ?_|refine Kv ?_);simp only[e1,go_sem])|refine Kf ?_|refine⟨_,⟨Kq _,(by first|exact Xae hm|(rw[Int.toNat_natCast];exact Xae hm)),rfl⟩,Kg ?_⟩|refine⟨_,⟨Kq _,(by first|exact Xae hy|(rw[Int.toNat_natCast];exact Xae hy)),rfl⟩,Kg ?_⟩|apply Kp<;>intro _
  refine⟨Kq _,by omega,_,⟨Xf9 hm,Nat.le_refl _⟩,Kg ?_⟩
  simp only[go_sem]
  repeat' first|refine Kn rfl ?_|((first|refine Kw ?_|refine Kv ?_);simp only[go_sem])|refine Kf ?_|refine⟨_,⟨hj0,Xf9 hy,rfl⟩,Kg ?_⟩|apply Kp<;>intro _
  refine⟨Kq _,by omega,_,⟨Xf9 hm,Nat.le_refl _⟩,Kg ?_⟩
  simp only[go_sem]
  rw[Whw hj hy]
  repeat' first|refine Kn rfl ?_|((first|refine Kw ?_|refine Kv ?_);simp only[go_sem])|refine Kf ?_|apply Kp<;>intro _
  refine⟨Xat hil (by unfold Xad;omega),?_⟩
  refine Kt (fr 60 [(0,pD g c),(1,vi m),(4,.one (.ptr 0 0)),(5,.one (.own 2 v)),(18,.one (.own 2 v)),(19,vi l.length),(20,vi (i+1))]) ?_
  refine Ku 3 ?_
  simp only[go_sem]
  refine Kl ⟨l.length - (i+1),by omega,i+1,by omega,rfl,?_,rfl⟩
  exact Nat.zero_le _
 ·obtain rfl:i=l.length:=by omega
  have e1:decide ((l.length:Int) < (l.length:Int))=false:=decide_eq_false (by omega)
  have hm:X11 c l l.length=l.map (Xf8 c):=by simp[X11]
  rw[hm]
  repeat' first|refine Kn rfl ?_|((first|refine Kw ?_|refine Kv ?_);simp only[e1,go_sem])|refine Kf ?_|refine⟨_,c1,Kg ?_⟩|refine⟨_,⟨c1,rfl⟩,Kg ?_⟩|refine⟨_,c2,Kg ?_⟩|refine⟨_,⟨c2,rfl⟩,Kg ?_⟩|refine⟨_,⟨hi0,Yib hx,rfl⟩,Kg ?_⟩|apply Kp<;>intro _
  all_goals trace_state
section
variable {α:Type} [DecidableEq α] {kag:Bool} {ks:List Leaf} {kv:α->V}
def Yic (kv:α->V) (k:Nat) (l:List α):List (V × V):=(l.zipIdx k).map fun p=>(kv p.1,vi (p.2:Int))
theorem Xnb (k:Nat) (a:α) (l:List α):Yic kv k (a::l)=(kv a,vi (k:Int))::Yic kv (k+1) l:=by simp[Yic,List.zipIdx_cons]
theorem Xs7 (he:∀ a b,eqV kag ks (kv a) (kv b)=some (decide (a=b))):∀ (l:List α) (k:Nat) (x:α),Xdc kag ks (Yic kv k l) (kv x)=some (if x∈l then some (vi ((l.idxOf x+k:Nat):Int)) else none)
 | [],k,x=>by simp[Yic,Xdc]
 | a::l,k,x=>by
  rw[Xnb]
  simp only[Xdc,he]
  by_cases h:x=a
  ·subst h;simp
  ·have h':¬ a=x:=fun e=>h e.symm
   simp only[h,decide_false,Xs7 he l (k+1) x,List.mem_cons,false_or]
   split
   ·rw[List.idxOf_cons]
    have:(a==x)=false:=by simp[h']
    rw[this]
    simp;omega
   ·rfl
theorem Xz2 (he:∀ a b,eqV kag ks (kv a) (kv b)=some (decide (a=b))):∀ (l:List α) (k:Nat) (x:α),x ∉ l->Xj9 kag ks (Yic kv k l) (kv x) (vi ((k+l.length:Nat):Int))=some (Yic kv k (l++[x]))
 | [],k,x,_=>by simp[Yic,Xj9]
 | a::l,k,x,h=>by
  simp only[List.mem_cons,not_or] at h
  rw[Xnb,List.cons_append,Xnb]
  have ih:=Xz2 he l (k+1) x h.2
  rw[show k+1+l.length=k+(a::l).length from by simp;omega] at ih
  simp only[Xj9,he,h.1,decide_false,ih]
theorem Ypr (l:List α):(Yic kv 0 l).length=l.length:=by simp[Yic]
end
theorem Wxn {a b:List UInt8}:bT a=bT b↔a=b:=by
 constructor
 ·intro h
  have:=congrArg (fun x:ByteArray=>x.data.toList) h
  simpa [bT] using this
 ·rintro rfl;rfl
abbrev kS:List Leaf:=[.i,.i,.i,.s,.s,.s]
theorem Yid (a b:SayT):eqV true kS (Whu a) (Whu b)=some (decide (a=b)):=by
 obtain⟨k,⟨k2,n,s⟩,u,v⟩:=a
 obtain⟨k',⟨k2',n',s'⟩,u',v'⟩:=b
 simp only[go_sem]
 congr 1
 rw[Bool.eq_iff_iff]
 simp[Wxn,and_assoc]
def Xz3 (l:List SayT):List (V × V):=Yic Whu 0 l
theorem Xs8 (l:List SayT) (x:SayT):Xdc true kS (Xz3 l) (Whu x)=some (if x∈l then some (vi (l.idxOf x:Int)) else none):=Xs7 Yid l 0 x
theorem Yps {l:List SayT} {x:SayT} (h:x ∉ l):Xj9 true kS (Xz3 l) (Whu x) (vi (l.length:Int))=some (Xz3 (l++[x])):=by
 have:=Xz2 Yid l 0 x h
 rwa [Nat.zero_add] at this
theorem Xk4 (l:List SayT):(Xz3 l).length=l.length:=Ypr l
theorem Xje (l:List SayT):(Ch.map (Xz3 l)).refs=[]:=by
 simp only[Ch.refs]
 rw[List.flatMap_eq_nil_iff]
 intro e he
 obtain⟨a,_,rfl⟩:=List.mem_map.1 he
 rfl
abbrev pC (g:Gr) (v:Nat):Ch:=.cells [.d (.int .i64 g.root),.d (.sl (nds g.l)),.own 1 v]
theorem W2l (g:Gr) (hl:g.l.length<=1000):Tri QP gp 45 [g.v] [] fun r post=>r=.one (.ptr 1 0)/\post=[.row 1 0 (Xai (Xes g.l.length)),.cells [.d (.int .i64 g.root),.d (.sl (nds g.l)),.own 0 0]]:=by
 refine Wd4 ?_
 simp only[go_sem]
 repeat' first|refine Kn rfl ?_|((first|refine Kw ?_|refine Kv ?_);simp only[go_sem])|refine Kf ?_|apply Kp<;>intro _
 refine⟨by omega,by omega,by unfold Xad;omega,?_⟩
 repeat' first|refine Kn rfl ?_|((first|refine Kw ?_|refine Kv ?_);simp only[go_sem])|refine Kf ?_|apply Kp<;>intro _
 simp[Xai,Xes]
theorem Whx (g:Gr) (c:List Int) (v:Nat):Tri QP gp 95 [.one (.ptr 0 0)] [pC g v,.row 1 v (Xai c)] fun r post =>
  r=.one (.clo (.func 117) [.ptr 2 0])/\post=[pC g v,.row 1 v (Xai c),.cells [.ptr 0 0]]:=by
 refine Wer ?_
 simp only[go_sem]
 repeat' first|refine Kn rfl ?_|((first|refine Kw ?_|refine Kv ?_);simp only[go_sem])|refine Kf ?_|apply Kp<;>intro _
 all_goals trace_state
def Xjf (l:List Nd) (c:List Int):List SayT:=l.map (Wht c)
theorem Xhi (l:List Nd) (c:List Int):(Xjf l c).length=l.length:=by simp[Xjf]
structure Neat (g:Gr):Prop where
 f:Fine g.l
 s:∀ x∈g.l,x.short
 len:g.l.length<=1000
theorem Neat.small {g:Gr} (h:Neat g):Xe3 g:=h.f.small
theorem X1r {x:Nd} {n:Int} (h:Xa8 Xag x n=true):∀ y∈Xap x,prR Xag y=true:=by
 by_cases hk:x.k=2
 ·have h1:=(Xic h hk).1
  obtain⟨m1,_,_⟩:=Xfn h hk
  intro y hy
  unfold Xap at hy
  rw[Xcg hk m1] at hy
  have:=((Xc7 (Xdf x)).map Pr.key).mem_iff.1 hy
  rw[Xf5 m1] at this
  exact (List.all_eq_true.1 h1) y this
 ·intro y hy
  unfold Xap at hy
  rw[Xc8 hk] at hy
  cases hy
theorem Ypt {x:Nd}:∀ y∈Xap x,y∈x.keys:=by
 intro y hy
 by_cases hk:x.k=2/\x.keys.length=x.kids.length
 ·unfold Xap at hy
  rw[Xcg hk.1 hk.2] at hy
  have:=((Xc7 (Xdf x)).map Pr.key).mem_iff.1 hy
  rwa [Xf5 hk.2] at this
 ·unfold Xap Xab at hy
  rw[if_neg hk] at hy
  cases hy
theorem Neat.keys {g:Gr} (h:Neat g) {i:Int} (hi:inL g.l i):∀ y∈Xap (Xbc g.l i),prR Xag y=true/\y.short:=fun y hy =>
 ⟨X1r (h.f.node _ (Xpt hi)) y hy,(h.s _ (Xpt hi)).2.2.2 y (Ypt y hy)⟩
structure ClsOK (l:List Nd) (c:List Int):Prop where
 len:c.length=l.length
 ok:∀ n∈c,okI n
theorem ClsOK.kid {g:Gr} {c:List Int} (h:ClsOK g.l c) (hf:Fine g.l) (i:Int):∀ j∈Xak (Xbc g.l i),0<=j/\∃ x,c[j.toNat]?=some x/\okI x:=fun j hj=>by
 have hi:=hf.kid i j hj
 unfold inL at hi
 obtain⟨x,hx⟩:=Xaq (l:=c) (i:=j.toNat) (by rw[h.len];omega)
 exact⟨hi.1,x,hx,h.ok x (List.mem_of_getElem? hx)⟩
theorem Wxo {α:Type} [DecidableEq α] {l:List α} (hl:l.length<=1000):∀ n∈rkp l,okI n:=fun n hn=>by
 obtain⟨a,ha,rfl⟩:=List.mem_map.1 hn
 have h1:=List.idxOf_lt_length_of_mem (Xbp.2 ha)
 have h2:=Yei l
 unfold okI
 omega
theorem Yie {g:Gr} (h:Neat g) (c:List Int):ClsOK g.l (rkp (Xjf g.l c)):=⟨by rw[Xj1,Xhi],Wxo (by rw[Xhi];exact h.len)⟩
def Xig (R:List Int) (n i:Nat):List Int:=R.take i++Xes (n - i)
theorem Ypu {R:List Int} {n i:Nat} {y:Int} (hn:R.length=n) (h:R[i]?=some y):i < (Xai (Xig R n i)).length/\(Xai (Xig R n i))[i]?=some [.int .i64 0]/\(Xai (Xig R n i)).set i [.int .i64 y]=Xai (Xig R n (i+1)):=by
 have hi:=(Kr.1 h).1
 obtain⟨d,hd⟩:∃ d,n - i=d+1:=⟨n - i - 1,by omega⟩
 have hd2:n - (i+1)=d:=by omega
 unfold Xig
 rw[hd,hd2,List.take_succ,h]
 have hz:(Xai (R.take i)).length=i:=by simp[Xai];omega
 have e:Xai (R.take i++Xes (d+1))=Xai (R.take i)++([.int .i64 0]::Xai (Xes d)):=by simp[Xai,Xes,List.replicate_succ]
 rw[e]
 refine⟨by simp[Xai];omega,?_,?_⟩
 ·rw[List.getElem?_append_right (by omega),hz,Nat.sub_self];rfl
 ·rw[List.set_append_right _ _ (by omega),hz,Nat.sub_self,List.set_cons_zero]
  simp[Xai]
theorem Ypv {R:List Int} {n:Nat} (hn:R.length=n):Xig R n n=R:=by
 unfold Xig
 rw[Nat.sub_self,List.take_of_length_le (by omega)]
 simp[Xes]
theorem Yif (l:List SayT) (j:Nat) (c:Ch):Yik j c (.map (Xz3 l))=.map (Xz3 l):=by
 simp only[Yik,Ch.map.injEq]
 conv=>rhs;rw[<- List.map_id (Xz3 l)]
 apply List.map_congr_left
 intro e he
 obtain⟨a,_,rfl⟩:=List.mem_map.1 he
 rfl
theorem Xu3 {l:List Nd} {c:List Int} {i:Nat} {x:Nd} (h:l[i]?=some x):(Xjf l c)[i]?=some (Wht c x):=by unfold Xjf;rw[List.getElem?_map,h];rfl
set_option maxHeartbeats 2000000 in
theorem Why (hU:Xpq gp) (hP:Xnl gp) {g:Gr} (hn:Neat g) {c:List Int} (hc:ClsOK g.l c) (v:Nat) :
  Tri QP gp 72 [.one (.ptr 0 0)] [pC g v,.row 1 v (Xai c)] fun r post =>
   r=vi ((ddp (Xjf g.l c)).length:Int)/\post=[pC g v,.row 1 v (Xai (rkp (Xjf g.l c)))]:=by
 have hSl:=Xhi g.l c
 have hcl:=hc.len
 have hgl:=hn.len
 have hnode:∀ i:Nat,∀ x,g.l[i]?=some x->∃ s,(Xjf g.l c)[i]?=some s/\Xao QP gp 118 [pD g c,vi i] (Whu s):=fun i x hx=>by
  have hi:inL g.l i:=(Xg6 hx).1
  refine⟨_,Xu3 hx,?_⟩
  have:=Wxm hU hP g c hn.small i hi (hn.keys hi) (hc.kid hn.f i)
  rwa [(Xg6 hx).2] at this
 generalize Xjf g.l c=S at *
 have hRl:(rkp S).length=g.l.length:=by rw[Xj1,hSl]
 refine Weq ?_
 simp only[go_sem]
 repeat' first|refine Kn rfl ?_|((first|refine Kw ?_|refine Kv ?_);simp only[go_sem])|refine Kf ?_|apply Kp<;>intro _
 refine⟨by omega,by omega,by unfold Xad;omega,?_⟩
 repeat' first|refine Kn rfl ?_|((first|refine Kw ?_|refine Kv ?_);simp only[go_sem])|refine Kf ?_|apply Kp<;>intro _
 refine Or.inr (Or.inr ⟨[0,1],.one (.clo (.func 117) [.ptr 2 0]),[pC g v,.row 1 v (Xai c),.cells [.ptr 0 0]],(by simp only[Xa1,Xds,rnV,rnA,Xdy,rn0,Xdx,Xb1,Xdt,rnC,Xah,List.isEmpty_nil,reduceCtorEq,↓reduceIte,Qa,Qb,Qc,Qd,Qe,Qf,Qg,Qh,Qi,Qj,Qk,Ql,Qm,Qn,Qo,Qp,Qq,Qr];simp only[go_sem];exact⟨Wvf,Whx g c v⟩),Kg ?_⟩)
 simp only[go_sem]
 repeat' first|refine Kn rfl ?_|((first|refine Kw ?_|refine Kv ?_);simp only[go_sem])|refine Kf ?_|apply Kp<;>intro _
 refine Yzw (f2:=117) (caps:=[.one (.ptr 6 0)]) (fun pd own'=>pd=none/\∃ rest,own'=pC g v::.row 1 v (Xai c)::.map (Xz3 (ddp S))::.cells [.own 2 0]::.row 1 0 (Xai (rkp S))::.cells [.own 4 0]::.cells [.ptr 0 0]::rest) rfl ?_ Wew ?_ ?_ ?_
 ·intro y;simp only[go_sem]
 ·rintro b rc hps ⟨hs,hta,htb⟩
  refine Yoc ?_
  simp only[go_sem]
  repeat' first|refine Kn rfl ?_|((first|refine Kw ?_|refine Kv ?_);simp only[go_sem])|refine Kf ?_|apply Kp<;>intro _
  rw[show (List.replicate c.length [D.int IntKind.i64 0])=Xai (Xig (rkp S) g.l.length 0) from by simp[Xig,Xai,Xes,hcl]]
  refine Kt (fr 21 [(0,.one (.d (.raw (.func (.yield b) #[] #[])))),(1,.one (.ptr 6 0)),(9,vi g.l.length),(10,vi (0:Nat))]) ?_
  refine Km (fun mz sz=>∃ i:Nat,i<=g.l.length/\mz=g.l.length - i/\(0<=i)/\sz=⟨fr 21 [(0,.one (.d (.raw (.func (.yield b) #[] #[])))),(1,.one (.ptr 6 0)),(9,vi g.l.length),(10,vi i)],[pC g v,.row 1 v (Xai c),.map (Xz3 (ddp (S.take i))),.cells [.own 2 0],.row 1 0 (Xai (Xig (rkp S) g.l.length i)),.cells [.own 4 0],.cells [.ptr 0 0],.dead,.lp b _ rc .ready none]⟩) (g.l.length) ⟨0,Nat.zero_le _,(Nat.sub_zero _).symm,?_,rfl⟩ ?_
  ·exact Nat.zero_le _
  rintro _ _ ⟨i,hi,rfl,-,rfl⟩
  simp only[go_sem]
  by_cases hil:i < g.l.length
  ·obtain⟨x,hx⟩:=Xaq hil
   obtain⟨s,hs1,hs2⟩:=hnode i x hx
   have e1:decide ((i:Int) < (g.l.length:Int))=true:=decide_eq_true (by omega)
   obtain⟨f1,f2,f3⟩:=Ypu hRl (Xkk hs1)
   have hfl:i < (Xig (rkp S) g.l.length i).length:=by simpa [Xai] using f1
   have hnx:=Xy1 hs1
   have hit:=Xy0 hs1 (Nat.lt_succ_self i)
   have hmem:s∈ddp (S.take (i+1)):=Xbp.2 (Xhg.2 ⟨i,Nat.lt_succ_self i,hs1⟩)
   have hf2:=Xs8 (ddp (S.take (i+1))) s
   rw[if_pos hmem,hit] at hf2
   have hf1:=Xs8 (ddp (S.take i)) s
   generalize ((ddp S).idxOf s:Int)=y at *
   repeat' first|refine Kn rfl ?_|((first|refine Kw ?_|refine Kv ?_);simp only[e1,go_sem])|refine Kf ?_|(apply Kp<;>intro _<;>try (exfalso;omega))
   refine Or.inl ⟨_,⟨hs2,rfl⟩,Kg ?_⟩
   simp only[go_sem]
   repeat' first|refine Kn rfl ?_|((first|refine Kw ?_|refine Kv ?_);simp only[go_sem])|refine Kf ?_|(apply Kp<;>intro _<;>try (exfalso;omega))
   by_cases hm:s∈S.take i
   ·rw[if_pos hm] at hnx
    rw[if_pos (Xbp.2 hm),<- hnx.2] at hf1
    rw[<- hnx.2]
    refine⟨[pC g v,.row 1 v (Xai c),.map (Xz3 (ddp (S.take (i+1)))),.cells [.own 2 0],.row 1 0 (Xai (Xig (rkp S) g.l.length (i+1))),.cells [.own 4 0],.cells [.ptr 0 0],.dead,.lp b _ rc .ready none,.cells [.d (.int .i64 s.k),.d (.int .i64 s.x.k),.d (.int .i64 s.x.n),.d (.str s.x.s),.d (.str (bT s.ks)),.d (.str (bT s.ns))]],true,by simp,⟨8,_,rc,hs,_,_,[pC g v,.row 1 v (Xai c),.map (Xz3 (ddp (S.take (i+1)))),.cells [.own 2 0],.row 1 0 (Xai (Xig (rkp S) g.l.length (i+1))),.cells [.own 4 0],.cells [.ptr 0 0],.dead,.dead,.cells [.d (.int .i64 s.k),.d (.int .i64 s.x.k),.d (.int .i64 s.x.n),.d (.str s.x.s),.d (.str (bT s.ks)),.d (.str (bT s.ns))]],none,rfl,by rw[<- Array.length_toList,hps];rfl,hta,htb,?_,rfl,rfl⟩,Kg ?_⟩
    ·rw[hps]
     simp only[go_sem]
     repeat' first|refine Kn rfl ?_|((first|refine Kw ?_|refine Kv ?_);simp only[go_sem])|refine Kf ?_|apply Kp<;>intro _
     refine Xfz ⟨rfl,?_⟩
     repeat' first|refine Kn rfl ?_|((first|refine Kw ?_|refine Kv ?_);simp only[Xk4,go_sem])|refine Kf ?_|refine⟨_,⟨hf2,rfl⟩,Kg ?_⟩|refine⟨Kq _,hfl,_,⟨f2,Nat.le_refl _⟩,Kg ?_⟩|apply Kp<;>intro _
     exact Xfz ⟨⟨rfl,rfl⟩,by rw[<- f3];rfl⟩
    ·simp only[go_sem]
     repeat' first|refine Kn rfl ?_|((first|refine Kw ?_|refine Kv ?_);simp only[go_sem])|refine Kf ?_|apply Kp<;>intro _
     refine⟨Xat hil (by unfold Xad;omega),?_⟩
     refine Kt (fr 21 [(0,.one (.d (.raw (.func (.yield b) #[] #[])))),(1,.one (.ptr 6 0)),(9,vi g.l.length),(10,vi (i+1))]) ?_
     refine Kk 9 (by simp only[List.length_nil,List.length_cons];decide) (by simp only[go_sem]) (by simp only[List.take_succ_cons,List.take_zero,List.all_cons,List.all_nil,Xje];try simp only[go_sem]) ?_
     simp only[go_sem]
     refine Kl ⟨g.l.length - (i+1),by omega,i+1,by omega,rfl,?_,rfl⟩
     exact Nat.zero_le _
   ·rw[if_neg hm] at hnx
    have hm':s ∉ ddp (S.take i):=fun h=>hm (Xbp.1 h)
    rw[if_neg hm'] at hf1
    have hput:=Yps hm'
    rw[<- hnx.2] at hput
    refine⟨[pC g v,.row 1 v (Xai c),.map (Xz3 (ddp (S.take (i+1)))),.cells [.own 2 0],.row 1 0 (Xai (Xig (rkp S) g.l.length (i+1))),.cells [.own 4 0],.cells [.ptr 0 0],.dead,.lp b _ rc .ready none,.cells [.d (.int .i64 s.k),.d (.int .i64 s.x.k),.d (.int .i64 s.x.n),.d (.str s.x.s),.d (.str (bT s.ks)),.d (.str (bT s.ns))]],true,by simp,⟨8,_,rc,hs,_,_,[pC g v,.row 1 v (Xai c),.map (Xz3 (ddp (S.take (i+1)))),.cells [.own 2 0],.row 1 0 (Xai (Xig (rkp S) g.l.length (i+1))),.cells [.own 4 0],.cells [.ptr 0 0],.dead,.dead,.cells [.d (.int .i64 s.k),.d (.int .i64 s.x.k),.d (.int .i64 s.x.n),.d (.str s.x.s),.d (.str (bT s.ks)),.d (.str (bT s.ns))]],none,rfl,by rw[<- Array.length_toList,hps];rfl,hta,htb,?_,rfl,rfl⟩,Kg ?_⟩
    ·rw[hps]
     simp only[go_sem]
     repeat' first|refine Kn rfl ?_|((first|refine Kw ?_|refine Kv ?_);simp only[go_sem])|refine Kf ?_|apply Kp<;>intro _
     refine Xfz ⟨rfl,?_⟩
     repeat' first|refine Kn rfl ?_|((first|refine Kw ?_|refine Kv ?_);simp only[Xk4,go_sem])|refine Kf ?_|refine⟨_,⟨hf1,rfl⟩,Kg ?_⟩|refine⟨_,hput,Kg ?_⟩|refine⟨_,⟨hf2,rfl⟩,Kg ?_⟩|refine⟨Kq _,hfl,_,⟨f2,Nat.le_refl _⟩,Kg ?_⟩|apply Kp<;>intro _
     exact Xfz ⟨⟨rfl,rfl⟩,by rw[<- f3];rfl⟩
    ·simp only[go_sem]
     repeat' first|refine Kn rfl ?_|((first|refine Kw ?_|refine Kv ?_);simp only[go_sem])|refine Kf ?_|apply Kp<;>intro _
     refine⟨Xat hil (by unfold Xad;omega),?_⟩
     refine Kt (fr 21 [(0,.one (.d (.raw (.func (.yield b) #[] #[])))),(1,.one (.ptr 6 0)),(9,vi g.l.length),(10,vi (i+1))]) ?_
     refine Kk 9 (by simp only[List.length_nil,List.length_cons];decide) (by simp only[go_sem]) (by simp only[List.take_succ_cons,List.take_zero,List.all_cons,List.all_nil,Xje];try simp only[go_sem]) ?_
     simp only[go_sem]
     refine Kl ⟨g.l.length - (i+1),by omega,i+1,by omega,rfl,?_,rfl⟩
     exact Nat.zero_le _
  ·obtain rfl:i=g.l.length:=by omega
   have e1:decide ((g.l.length:Int) < (g.l.length:Int))=false:=decide_eq_false (by omega)
   rw[List.take_of_length_le (by omega),Ypv hRl]
   repeat' first|refine Kn rfl ?_|((first|refine Kw ?_|refine Kv ?_);simp only[e1,go_sem])|refine Kf ?_|apply Kp<;>intro _
   exact⟨.ready,none,rfl,by simp,rfl,_,rfl⟩
 ·rintro own' ⟨_,rest,rfl⟩
  simp only[go_sem]
  refine Kk 7 (by simp only[List.length_nil,List.length_cons];decide) (by simp only[go_sem]) (by simp only[List.take_succ_cons,List.take_zero,List.all_cons,List.all_nil,Xje];simp only[go_sem]) ?_
  simp only[go_sem]
  refine Xa0 4 ?_
  simp only[Yj0,Xah,List.map_cons,List.map_nil,Yif]
  simp only[go_sem]
  repeat' first|refine Kn rfl ?_|((first|refine Kw ?_|refine Kv ?_);simp only[Xk4,go_sem])|refine Kf ?_|apply Kp<;>intro _
  refine⟨fun p hp=>by obtain⟨_,_,rfl⟩:=List.mem_map.1 hp;rfl,by omega,?_⟩
  repeat refine Ko rfl ?_
  refine Ka ?_
  simp only[Xk4,go_sem]
  refine Kt (fr 46 [(2,vi ((ddp S).length:Int))]) ?_
  refine Kk 2 (by simp only[List.length_nil,List.length_cons];decide) (by simp only[go_sem]) (by simp only[List.take_succ_cons,List.take_zero,List.all_cons,List.all_nil,Xje];simp only[go_sem]) ?_
  simp only[go_sem]
  refine Ki rfl ?_
  simp only[or_self,Qs,Qt,Qu,Qv,Qw,Qx,Qy,Qz,Za,go_sem]
 ·rintro _ _ ⟨h,_⟩;cases h
structure Env10 (gp:Xaj):Prop where
 e:Env gp
 p:Xnl gp
theorem Wxp {g:Gr} (hn:Neat g) {c:List Int} (hc:ClsOK g.l c) {i j:Int} (hi:inL g.l i) (hj:inL g.l j):Wht c (Xbc g.l i)=Wht c (Xbc g.l j)↔X10 (Xbc g.l i) c=X10 (Xbc g.l j) c:=by
 have hk:∀ i:Int,(Xak (Xbc g.l i)).map (fun k=>c[k.toNat]?)=(Xak (Xbc g.l i)).map (fun k=>some (Xf8 c k)):=fun i=>by
  refine List.map_congr_left fun k hk=>?_
  obtain⟨_,x,h1,_⟩:=hc.kid hn.f i k hk
  unfold Xf8;rw[h1];rfl
 unfold Wht X10
 rw[hk i,hk j,SayT.mk.injEq,Say.mk.injEq]
 have e1:Xhn (Xap (Xbc g.l i))=Xhn (Xap (Xbc g.l j))↔Xap (Xbc g.l i)=Xap (Xbc g.l j) :=
  ⟨Yer (fun x hx=>(hn.keys hi x hx).1) (fun x hx=>(hn.keys hj x hx).1),fun e=>by rw[e]⟩
 have e2:Xhm ((Xak (Xbc g.l i)).map (Xf8 c))=Xhm ((Xak (Xbc g.l j)).map (Xf8 c))↔(Xak (Xbc g.l i)).map (fun k=>some (Xf8 c k))=(Xak (Xbc g.l j)).map (fun k=>some (Xf8 c k)):=by
  rw[show (Xak (Xbc g.l i)).map (fun k=>some (Xf8 c k))=((Xak (Xbc g.l i)).map (Xf8 c)).map some from by rw[List.map_map];rfl,
   show (Xak (Xbc g.l j)).map (fun k=>some (Xf8 c k))=((Xak (Xbc g.l j)).map (Xf8 c)).map some from by rw[List.map_map];rfl]
  rw[(List.map_inj_right (f:=some) (by intro a b e;exact Option.some.inj e))]
  exact⟨Yel,fun e=>by rw[e]⟩
 rw[e1,e2]
theorem Ypw {g:Gr} (hn:Neat g) {c:List Int} (hc:ClsOK g.l c) (i j:Nat) (hi:i < g.l.length) (hj:j < g.l.length):(Xjf g.l c)[i]?=(Xjf g.l c)[j]?↔(Xge g.l c)[i]?=(Xge g.l c)[j]?:=by
 obtain⟨x,hx⟩:=Xaq hi
 obtain⟨y,hy⟩:=Xaq hj
 obtain⟨h1,h2⟩:=Xg6 hx
 obtain⟨h3,h4⟩:=Xg6 hy
 have:=Wxp hn hc h1 h3
 rw[h2,h4] at this
 rw[Xu3 hx,Xu3 hy,show (Xge g.l c)[i]?=some (X10 x c) from by unfold Xge;rw[List.getElem?_map,hx];rfl,show (Xge g.l c)[j]?=some (X10 y c) from by unfold Xge;rw[List.getElem?_map,hy];rfl]
 rw[Option.some.injEq,Option.some.injEq]
 exact this
theorem Xqn {g:Gr} (hn:Neat g) {c:List Int} (hc:ClsOK g.l c):rkp (Xjf g.l c)=rnd (Xge g.l) c/\(ddp (Xjf g.l c)).length=cnt (Xge g.l) c:=by
 have hl:(Xjf g.l c).length=(Xge g.l c).length:=by rw[Xhi,Xp8]
 have hk:=Ypw hn hc
 refine⟨Xup hl fun i j hi hj=>by rw[Xhi] at hi hj;exact hk i j hi hj,?_⟩
 unfold cnt
 apply Nat.le_antisymm
 ·exact Xy3 hl.symm fun i j hi hj e=>by rw[Xp8] at hi hj;exact (hk i j hi hj).2 e
 ·exact Xy3 hl fun i j hi hj e=>by rw[Xhi] at hi hj;exact (hk i j hi hj).1 e
theorem Xz4 {g:Gr}:ClsOK g.l (Xes g.l.length):=⟨by simp[Xes],fun n hn=>by
 obtain⟨_,rfl⟩:=List.mem_replicate.1 hn
 unfold okI;omega⟩
theorem X1s {σ:Type} [DecidableEq σ] {f:List Int->List σ} {k n m:Nat} {c:List Int} (h:¬ n < m):Xhl f k n m c=c:=by
 cases k with
 | zero=>rfl
 | succ k=>simp only[Xhl];rw[if_neg h]
set_option maxHeartbeats 1000000 in
theorem Ypx (h:Env10 gp) {g:Gr} (hn:Neat g) (v:Nat):Tri QP gp 47 [.one (.ptr 0 0)] [pC g v,.row 1 v (Xai (Xes g.l.length))] fun r post =>
  r=.one (.own 1 v)/\post=[pC g v,.row 1 v (Xai (Xgg g.l))]:=by
 have hr:∀ c,ClsOK g.l c->Tri QP gp 72 [.one (.ptr 0 0)] [pC g v,.row 1 v (Xai c)] fun r post =>
   r=vi (cnt (Xge g.l) c:Int)/\post=[pC g v,.row 1 v (Xai (rnd (Xge g.l) c))]:=fun c hc=>by
  have:=Why h.e.u h.p hn hc v
  rwa [(Xqn hn hc).1,(Xqn hn hc).2] at this
 have hok:∀ c,ClsOK g.l c->ClsOK g.l (rnd (Xge g.l) c):=fun c hc=>by
  rw[<- (Xqn hn hc).1];exact Yie hn c
 have hcn:∀ c,cnt (Xge g.l) c<=g.l.length:=hn.f.parts.cnt_le
 have hgl:=hn.len
 refine Wei ?_
 simp only[go_sem]
 repeat' first|refine Kn rfl ?_|((first|refine Kw ?_|refine Kv ?_);simp only[go_sem])|refine Kf ?_|apply Kp<;>intro _
 refine Or.inr (Or.inr ⟨[0,1],vi (cnt (Xge g.l) (Xes g.l.length):Int),[pC g v,.row 1 v (Xai (rnd (Xge g.l) (Xes g.l.length)))],(by simp only[Xa1,Xds,rnV,rnA,Xdy,rn0,Xdx,Xb1,Xdt,rnC,Xah,List.isEmpty_nil,reduceCtorEq,↓reduceIte,Qa,Qb,Qc,Qd,Qe,Qf,Qg,Qh,Qi,Qj,Qk,Ql,Qm,Qn,Qo,Qp,Qq,Qr];simp only[go_sem];exact⟨Yxl,hr _ Xz4⟩),Kg ?_⟩)
 simp only[go_sem]
 repeat' first|refine Kn rfl ?_|((first|refine Kw ?_|refine Kv ?_);simp only[go_sem])|refine Kf ?_|apply Kp<;>intro _
 refine Kt (fr 20 [(0,.one (.ptr 0 0)),(3,.one (.mvo (.func 72) false [.ptr 0 0])),(4,vi ((0:Nat):Int)),(5,vi (cnt (Xge g.l) (Xes g.l.length):Int))]) ?_
 refine Ku 2 ?_
 simp only[go_sem]
 refine Km (fun mz sz=>∃ (k n m:Nat) (c:List Int),mz=k/\Xhl (Xge g.l) k n m c=Xgg g.l/\ClsOK g.l c/\g.l.length+1<=k+n/\m<=g.l.length/\n<=g.l.length/\sz=⟨fr 20 [(0,.one (.ptr 0 0)),(3,.one (.mvo (.func 72) false [.ptr 0 0])),(4,vi (n:Int)),(5,vi (m:Int))],[pC g v,.row 1 v (Xai c)]⟩) _ ⟨g.l.length+1,0,_,_,rfl,rfl,hok _ Xz4,by omega,hcn _,by omega,rfl⟩ ?_
 rintro k _ ⟨_,n,m,c,rfl,hp,hc,h1,h2,h3,rfl⟩
 simp only[go_sem]
 by_cases hlt:n < m
 ·obtain⟨k',rfl⟩:∃ k',k=k'+1:=⟨k - 1,by omega⟩
  simp only[Xhl] at hp
  rw[if_pos hlt] at hp
  have e1:decide ((m:Int) > (n:Int))=true:=decide_eq_true (by omega)
  repeat' first|refine Kn rfl ?_|((first|refine Kw ?_|refine Kv ?_);simp only[e1,go_sem])|refine Kf ?_|apply Kp<;>intro _
  refine Or.inr (Or.inr ⟨[0,1],vi (cnt (Xge g.l) c:Int),[pC g v,.row 1 v (Xai (rnd (Xge g.l) c))],(by simp only[Xa1,Xds,rnV,rnA,Xdy,rn0,Xdx,Xb1,Xdt,rnC,Xah,List.isEmpty_nil,reduceCtorEq,↓reduceIte,Qa,Qb,Qc,Qd,Qe,Qf,Qg,Qh,Qi,Qj,Qk,Ql,Qm,Qn,Qo,Qp,Qq,Qr];simp only[go_sem];exact⟨Yxl,hr _ hc⟩),Kg ?_⟩)
  simp only[go_sem]
  repeat' first|refine Kn rfl ?_|((first|refine Kw ?_|refine Kv ?_);simp only[go_sem])|refine Kf ?_|apply Kp<;>intro _
  refine Kt (fr 20 [(0,.one (.ptr 0 0)),(3,.one (.mvo (.func 72) false [.ptr 0 0])),(4,vi (m:Int)),(5,vi (cnt (Xge g.l) c:Int))]) ?_
  refine Ku 2 ?_
  simp only[go_sem]
  exact Kl ⟨k',by omega,k',m,_,_,rfl,hp,hok _ hc,by omega,hcn _,by omega,rfl⟩
 ·rw[X1s hlt] at hp
  have e1:decide ((m:Int) > (n:Int))=false:=decide_eq_false (by omega)
  rw[hp]
  repeat' first|refine Kn rfl ?_|((first|refine Kw ?_|refine Kv ?_);simp only[e1,go_sem])|refine Kf ?_|apply Kp<;>intro _
  all_goals trace_state
def cOf (g:Gr):List Int:=if chk g=none then Xgg g.l else []
end Go.Fw.L07
