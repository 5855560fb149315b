/- Chapter 7: kids as own rows. -/
import Derived.Test.YtejnfjophhnaeaaGreatDoorL07R
import Derived.Test.YtejnfjophhnaeaaGreatDoorJb
import Derived.Test.YtejnfjophhnaeaaGreatDoorL07L10Mini
import Derived.Test.YtejnfjophhnaeaaGreatDoorJa
import Derived.Test.YtejnfjophhnaeaaGreatDoorEa
set_option linter.all false
namespace Go.Fw
open Go
section
variable {S:Sx} {Y:Dyn} {k:List MI} {s:St} {a:Act} {w w':World} {H:Xal} {an:Anc} {F:Nat->Nat->Prop} {ms:List Nat}
theorem SatX.nil_row_v (h:SatX S Y s a w H an F ms) {u:Value} (hu:∃ A,u=.slice A 0 0) (sz ver:Nat) (hsz:0 < sz) :
  SatX S Y { s with own:=s.own++[.row sz ver []] } a w H (an.put s.own.length (ver,u)) (fun j b=>if j=s.own.length then False else F j b) ms:=by
 obtain⟨A,rfl⟩:=hu
 exact h.add_own (WKeep.refl w _) (fun _ hb=>hb.elim) ⟨rfl,⟨_,_,_,rfl⟩,hsz,by simp,by simp[Xac],.inl ⟨rfl,⟨_,rfl⟩,fun _ hb=>hb⟩⟩
theorem Wk5 (t sz ver:Nat) (hsz:0 < sz) (ht:Xbz s.fr t=.one .nil) (h:G S k ⟨Xfk s.fr t (.one (.own s.own.length ver)),s.own++[.row sz ver []]⟩):G S k s:=by
 rintro Y a w ⟨H,an,F,ms,hs⟩
 obtain⟨u,hu,hd⟩:=hs.fr.get (Xbl _ _ _ ht (by simp))
 have hd:∃ A,u=.slice A 0 0:=hd
 have h1:=hs.nil_row_v hd sz ver hsz
 refine h Y a w ⟨H,_,_,ms,h1.reframe ?_⟩
 have:=Xc4 s.fr a.tmps.toList t (.one (.own s.own.length ver)) u h1.fr (by
  obtain⟨A,rfl⟩:=hd
  exact⟨rfl,(ver,.slice A 0 0),by simp[Anc.put],Nat.le_refl _,fun _=>rfl⟩)
 rwa [Xiq hu] at this
end
end Go.Fw
namespace Go.Fw.L07
open Go Go.Fw
open Go.Fw.Sh renaming intro->Kg
open Go.Fw renaming Xhj->Ka,Xev->Kb,Xhm->Kv,Xew->Ke,Xex->Kf,Xhl->Kh,Xhk->Ki,Xdt->Kt,Xmi->Kk,Xfn->Ku,Xdr->Kl,Xfh->Km,Gx->Kn,Gw->Ko
open Int renaming natCast_nonneg->Kq
open List renaming getElem?_eq_some_iff->Kr
open And renaming intro->Kp
open Go.Proofs.Tryz renaming prog->QP
open Nat renaming reduceAdd->Qa,reduceSub->Qb,reduceMul->Qc,reduceLeDiff->Qd,reduceLT->Qe,reduceEqDiff->Qf
open Int renaming reduceToNat->Qg,reduceLT->Qh,reduceLE->Qi,reduceGT->Qj,reduceGE->Qk,reduceEq->Ql,reduceNe->Qm,reduceBEq->Qn,reduceBNe->Qo,reduceAdd->Qp,reduceSub->Qq,reduceNeg->Qr
open Go.Fw.V.one renaming injEq->Qs
open Go.Fw.V.agg renaming injEq->Qt
open Go.Fw.V.tup renaming injEq->Qu
open Go.Fw.A.d renaming injEq->Qv
open Go.Fw.D.bool renaming injEq->Qw
open Go.Fw.D.int renaming injEq->Qx
open Go.Fw.D.str renaming injEq->Qy
open Go.Fw.D.sl renaming injEq->Qz
open List.cons renaming injEq->Za
set_option maxRecDepth 4000
variable {gp:Xal}
theorem Yh6 (l:List Int) (hl:l.length < 1000000):Tri QP gp 44 [.one (.d (.sl (Xag l)))] [] fun r post=>r=.one (.own 0 1)/\post=[.row 1 1 (Xag l)]:=by
 refine Y4c ?_
 simp only[go_sem]
 cases l with
 | nil =>
  refine Wn7 0 rfl fun q c=>?_
  cases q with
  | none =>
   simp only[go_sem]
   repeat' first|refine Kn rfl ?_|((first|refine Ka ?_|refine Kb ?_|refine Kv ?_|refine Ke ?_);simp only[Xb2,Xb3,go_sem])|refine Kf ?_|refine Kg ?_|apply Kp<;>intro _|((first|refine Kh ?_|refine Ki rfl ?_);simp only[Xb2,Xb3,or_self,Qs,Qt,Qu,Qv,Qw,Qx,Qy,Qz,Za,go_sem])
   repeat' first|refine Kn rfl ?_|((first|refine Ka ?_|refine Kb ?_|refine Kv ?_);simp only[Xc2,go_sem])|refine Kf ?_|refine Kg ?_
   refine Wk5 2 1 1 (by decide) rfl ?_
   simp only[go_sem]
   repeat' first|refine Kn rfl ?_|((first|refine Ka ?_|refine Kb ?_|refine Kv ?_|refine Ke ?_);simp only[Xb2,Xb3,Xc2,Xc6,go_sem])|refine Kf ?_|refine Kg ?_|apply Kp<;>intro _|((first|refine Kh ?_|refine Ki rfl ?_);simp only[Xb2,Xb3,Xc2,Xc6,or_self,Qs,Qt,Qu,Qv,Qw,Qx,Qy,Qz,Za,go_sem])
  | some q =>
   simp only[go_sem]
   refine X2y ?_
   repeat' first|refine Kn rfl ?_|((first|refine Ka ?_|refine Kb ?_|refine Kv ?_|refine Ke ?_);simp only[Xb2,Xb3,go_sem])|refine Kf ?_|refine Kg ?_|apply Kp<;>intro _|((first|refine Kh ?_|refine Ki rfl ?_);simp only[Xb2,Xb3,or_self,Qs,Qt,Qu,Qv,Qw,Qx,Qy,Qz,Za,go_sem])
   refine X27 0 rfl ?_
   simp only[go_sem]
   repeat' first|refine Kn rfl ?_|((first|refine Ka ?_|refine Kb ?_|refine Kv ?_|refine Ke ?_);simp only[Xb2,Xb3,Xc2,Xc6,go_sem])|refine Kf ?_|refine Kg ?_|apply Kp<;>intro _|((first|refine Kh ?_|refine Ki rfl ?_);simp only[Xb2,Xb3,Xc2,Xc6,or_self,Qs,Qt,Qu,Qv,Qw,Qx,Qy,Qz,Za,go_sem])
   refine⟨by simp,by simp[Xac],?_⟩
   repeat' first|refine Kn rfl ?_|((first|refine Ka ?_|refine Kb ?_|refine Kv ?_|refine Ke ?_);simp only[Xb2,Xb3,Xc2,Xc6,go_sem])|refine Kf ?_|refine Kg ?_|apply Kp<;>intro _|((first|refine Kh ?_|refine Ki rfl ?_);simp only[Xb2,Xb3,Xc2,Xc6,or_self,Qs,Qt,Qu,Qv,Qw,Qx,Qy,Qz,Za,go_sem])
 | cons x l =>
  simp only[go_sem]
  repeat' first|refine Kn rfl ?_|((first|refine Ka ?_|refine Kb ?_|refine Kv ?_|refine Ke ?_);simp only[Xb2,Xb3,Xc2,Xc6,go_sem])|refine Kf ?_|refine Kg ?_|apply Kp<;>intro _|((first|refine Kh ?_|refine Ki rfl ?_);simp only[Xb2,Xb3,Xc2,Xc6,or_self,Qs,Qt,Qu,Qv,Qw,Qx,Qy,Qz,Za,go_sem])
  refine⟨by simp,by simp at hl;omega,by simp[Xac] at hl ⊢;omega,?_⟩
  repeat' first|refine Kn rfl ?_|((first|refine Ka ?_|refine Kb ?_|refine Kv ?_|refine Ke ?_);simp only[Xb2,Xb3,Xc2,Xc6,go_sem])|refine Kf ?_|refine Kg ?_|apply Kp<;>intro _|((first|refine Kh ?_|refine Ki rfl ?_);simp only[Xb2,Xb3,Xc2,Xc6,or_self,Qs,Qt,Qu,Qv,Qw,Qx,Qy,Qz,Za,go_sem])
def Yrq (x:Nd):Nat:=if x.k=1 then 1 else (Xad x).length
theorem Yrr (g:Gr) (i:Int) (hg:Xc7 g):Tri QP gp 21 [g.v,vi i] [] fun r post=>r=.tup [.one (.own 1 (Yrq (Xau g.l i))),vi (atE g.l i)]/\post=[.dead,.row 1 (Yrq (Xau g.l i)) (Xag (Xaf (Xau g.l i)))]:=by
 refine Y3e ?_
 simp only[go_sem]
 refine Xgz 28 ?_
 simp only[go_sem]
 obtain⟨h1,h2⟩:=hg.at i
 have hz:=Xxj g.l i
 have ha:=Xth (gp:=gp) g i
 generalize Xau g.l i=x at *
 generalize atE g.l i=e at *
 generalize atN g.l i=n at *
 have hq:=Xdf x
 repeat' first|refine Kn rfl ?_|((first|refine Ka ?_|refine Kb ?_|refine Kv ?_|refine Ke ?_);simp only[Xbp,Xbq,Xbr,Xbs,Xbt,Xa4,Xay,Xa5,Xa6,Xa7,Xa8,go_sem])|refine Kf ?_|refine Kg ?_|refine⟨_,ha,Kg ?_⟩|refine⟨_,⟨ha,rfl⟩,Kg ?_⟩|refine⟨_,X0s x n (by omega),Kg ?_⟩|refine⟨_,⟨X0s x n (by omega),rfl⟩,Kg ?_⟩|apply Kp<;>intro _|((first|refine Kh ?_|refine Ki rfl ?_);simp only[Xbp,Xbq,Xbr,Xbs,Xbt,Xa4,Xay,Xa5,Xa6,Xa7,Xa8,or_self,Qs,Qt,Qu,Qv,Qw,Qx,Qy,Qz,Za,go_sem])
 ·rename_i h
  have h:x.k=1:=by simpa using h
  have hk:Xaf x=x.kids:=by unfold Xaf;rw[if_pos h]
  have hv:Yrq x=1:=by unfold Yrq;rw[if_pos h]
  rw[hk,hv]
  refine Or.inr ⟨[],.one (.own 0 1),[.row 1 1 (Xag x.kids)],(by simp only[Xbo,Xf0,rnV,rnA,Xgk,rn0,Xgj,Xc5,Xf1,rnC,Xao,List.isEmpty_nil,reduceCtorEq,↓reduceIte,Qa,Qb,Qc,Qd,Qe,Qf,Qg,Qh,Qi,Qj,Qk,Ql,Qm,Qn,Qo,Qp,Qq,Qr];simp only[go_sem];exact⟨Ytn,Yh6 x.kids (by omega)⟩),Kg ?_⟩
  simp only[go_sem]
  refine Ku 2 ?_
  simp only[go_sem]
  refine Xar 0 ?_
  simp only[go_sem]
  repeat' first|refine Kn rfl ?_|((first|refine Ka ?_|refine Kb ?_|refine Kv ?_|refine Ke ?_);simp only[Xbp,Xbq,Xbr,Xbs,Xbt,Xa4,Xay,Xa5,Xa6,Xa7,Xa8,go_sem])|refine Kf ?_|refine Kg ?_|apply Kp<;>intro _|((first|refine Kh ?_|refine Ki rfl ?_);simp only[Xbp,Xbq,Xbr,Xbs,Xbt,Xa4,Xay,Xa5,Xa6,Xa7,Xa8,or_self,Qs,Qt,Qu,Qv,Qw,Qx,Qy,Qz,Za,go_sem])
 ·rename_i h
  have h:¬ x.k=1:=by simpa using h
  have hk:Xaf x=(Xad x).map Pr.kid:=by unfold Xaf;rw[if_neg h]
  have hv:Yrq x=(Xad x).length:=by unfold Yrq;rw[if_neg (h)]
  rw[hk,hv]
  refine Xds 8 1 (by decide) rfl ?_
  simp only[go_sem]
  refine Kt (fr 45 [(7,vi e),(8,.one (.own 1 (0:Nat))),(31,.one (.d (.sl (prs (Xad x))))),(32,vi (Xad x).length),(33,vi (0:Nat))]) ?_
  refine Km (fun mz sz=>∃ i:Nat,i<=(Xad x).length/\mz=(Xad x).length - i/\(0<=i)/\sz=⟨fr 45 [(7,vi e),(8,.one (.own 1 i)),(31,.one (.d (.sl (prs (Xad x))))),(32,vi (Xad x).length),(33,vi i)],[.cells _,.row 1 i (Xag (((Xad x).map Pr.kid).take i))]⟩) ((Xad x).length) ⟨0,Nat.zero_le _,(Nat.sub_zero _).symm,?_,rfl⟩ ?_
  ·exact Nat.zero_le _
  rintro _ _ ⟨i,hi,rfl,-,rfl⟩
  simp only[go_sem]
  by_cases hil:i < (Xad x).length
  ·obtain⟨p,hp⟩:=Xai hil
   repeat' first|refine Kn rfl ?_|((first|refine Ka ?_|refine Kb ?_|refine Kv ?_|refine Ke ?_);simp only[Xbp,Xbq,Xbr,Xbs,Xbt,Xa4,Xay,Xa5,Xa6,Xa7,Xa8,go_sem])|refine Kf ?_|refine Kg ?_|refine⟨_,⟨Kq _,(by first|exact Xab hp|(rw[Int.toNat_natCast];exact Xab hp)),rfl⟩,Kg ?_⟩|apply Kp<;>intro _|((first|refine Kh ?_|refine Ki rfl ?_);simp only[Xbp,Xbq,Xbr,Xbs,Xbt,Xa4,Xay,Xa5,Xa6,Xa7,Xa8,or_self,Qs,Qt,Qu,Qv,Qw,Qx,Qy,Qz,Za,go_sem])
   ·refine⟨by simp,by simp;omega,by simp[Xac];omega,?_⟩
    rw[show Xag (((Xad x).map Pr.kid).take i)++[_]=Xag (((Xad x).map Pr.kid).take (i+1)) from Xcv (by rw[List.getElem?_map,hp];rfl)]
    repeat' first|refine Kn rfl ?_|((first|refine Ka ?_|refine Kb ?_|refine Kv ?_|refine Ke ?_);simp only[Xbp,Xbq,Xbr,Xbs,Xbt,Xa4,Xay,Xa5,Xa6,Xa7,Xa8,go_sem])|refine Kf ?_|refine Kg ?_|apply Kp<;>intro _|((first|refine Kh ?_|refine Ki rfl ?_);simp only[Xbp,Xbq,Xbr,Xbs,Xbt,Xa4,Xay,Xa5,Xa6,Xa7,Xa8,or_self,Qs,Qt,Qu,Qv,Qw,Qx,Qy,Qz,Za,go_sem])
    refine⟨Xah hil (by unfold Xac;omega),?_⟩
    refine Kt (fr 45 [(7,vi e),(8,.one (.own 1 (i+1))),(31,.one (.d (.sl (prs (Xad x))))),(32,vi (Xad x).length),(33,vi (i+1))]) ?_
    refine Ku 2 ?_
    simp only[go_sem]
    refine Kl ⟨(Xad x).length - (i+1),by omega,i+1,by omega,rfl,?_,rfl⟩
    exact Nat.zero_le _
   ·omega
  ·repeat refine Ko rfl ?_
   refine Ka ?_
   simp only[Xay,go_sem]
   repeat refine Ko rfl ?_
   refine Ke ?_
   simp only[go_sem]
   refine⟨fun h=>by exfalso;omega,fun _=>Xc1 rfl ?_⟩
   obtain rfl:i=(Xad x).length:=by omega
   rw[List.take_of_length_le (by simp)]
   refine Xar 0 ?_
   simp only[go_sem]
   repeat' first|refine Kn rfl ?_|((first|refine Ka ?_|refine Kb ?_|refine Kv ?_|refine Ke ?_);simp only[Xbp,Xbq,Xbr,Xbs,Xbt,Xa4,Xay,Xa5,Xa6,Xa7,Xa8,go_sem])|refine Kf ?_|refine Kg ?_|apply Kp<;>intro _|((first|refine Kh ?_|refine Ki rfl ?_);simp only[Xbp,Xbq,Xbr,Xbs,Xbt,Xa4,Xay,Xa5,Xa6,Xa7,Xa8,or_self,Qs,Qt,Qu,Qv,Qw,Qx,Qy,Qz,Za,go_sem])
 ·rename_i h
  have h:x=Nd.zero:=hz (by intro h2;simp[h2] at h)
  have hk:Xaf x=(Xad x).map Pr.kid:=by rw[h];rfl
  have hv:Yrq x=(Xad x).length:=by unfold Yrq;rw[if_neg (by rw[h];decide)]
  rw[hk,hv]
  refine Xds 8 1 (by decide) rfl ?_
  simp only[go_sem]
  refine Kt (fr 45 [(7,vi e),(8,.one (.own 1 (0:Nat))),(31,.one (.d (.sl (prs (Xad x))))),(32,vi (Xad x).length),(33,vi (0:Nat))]) ?_
  refine Km (fun mz sz=>∃ i:Nat,i<=(Xad x).length/\mz=(Xad x).length - i/\(0<=i)/\sz=⟨fr 45 [(7,vi e),(8,.one (.own 1 i)),(31,.one (.d (.sl (prs (Xad x))))),(32,vi (Xad x).length),(33,vi i)],[.cells _,.row 1 i (Xag (((Xad x).map Pr.kid).take i))]⟩) ((Xad x).length) ⟨0,Nat.zero_le _,(Nat.sub_zero _).symm,?_,rfl⟩ ?_
  ·exact Nat.zero_le _
  rintro _ _ ⟨i,hi,rfl,-,rfl⟩
  simp only[go_sem]
  by_cases hil:i < (Xad x).length
  ·obtain⟨p,hp⟩:=Xai hil
   repeat' first|refine Kn rfl ?_|((first|refine Ka ?_|refine Kb ?_|refine Kv ?_|refine Ke ?_);simp only[Xbp,Xbq,Xbr,Xbs,Xbt,Xa4,Xay,Xa5,Xa6,Xa7,Xa8,go_sem])|refine Kf ?_|refine Kg ?_|refine⟨_,⟨Kq _,(by first|exact Xab hp|(rw[Int.toNat_natCast];exact Xab hp)),rfl⟩,Kg ?_⟩|apply Kp<;>intro _|((first|refine Kh ?_|refine Ki rfl ?_);simp only[Xbp,Xbq,Xbr,Xbs,Xbt,Xa4,Xay,Xa5,Xa6,Xa7,Xa8,or_self,Qs,Qt,Qu,Qv,Qw,Qx,Qy,Qz,Za,go_sem])
   ·refine⟨by simp,by simp;omega,by simp[Xac];omega,?_⟩
    rw[show Xag (((Xad x).map Pr.kid).take i)++[_]=Xag (((Xad x).map Pr.kid).take (i+1)) from Xcv (by rw[List.getElem?_map,hp];rfl)]
    repeat' first|refine Kn rfl ?_|((first|refine Ka ?_|refine Kb ?_|refine Kv ?_|refine Ke ?_);simp only[Xbp,Xbq,Xbr,Xbs,Xbt,Xa4,Xay,Xa5,Xa6,Xa7,Xa8,go_sem])|refine Kf ?_|refine Kg ?_|apply Kp<;>intro _|((first|refine Kh ?_|refine Ki rfl ?_);simp only[Xbp,Xbq,Xbr,Xbs,Xbt,Xa4,Xay,Xa5,Xa6,Xa7,Xa8,or_self,Qs,Qt,Qu,Qv,Qw,Qx,Qy,Qz,Za,go_sem])
    refine⟨Xah hil (by unfold Xac;omega),?_⟩
    refine Kt (fr 45 [(7,vi e),(8,.one (.own 1 (i+1))),(31,.one (.d (.sl (prs (Xad x))))),(32,vi (Xad x).length),(33,vi (i+1))]) ?_
    refine Ku 2 ?_
    simp only[go_sem]
    refine Kl ⟨(Xad x).length - (i+1),by omega,i+1,by omega,rfl,?_,rfl⟩
    exact Nat.zero_le _
   ·omega
  ·repeat refine Ko rfl ?_
   refine Ka ?_
   simp only[Xay,go_sem]
   repeat refine Ko rfl ?_
   refine Ke ?_
   simp only[go_sem]
   refine⟨fun h=>by exfalso;omega,fun _=>Xc1 rfl ?_⟩
   obtain rfl:i=(Xad x).length:=by omega
   rw[List.take_of_length_le (by simp)]
   refine Xar 0 ?_
   simp only[go_sem]
   repeat' first|refine Kn rfl ?_|((first|refine Ka ?_|refine Kb ?_|refine Kv ?_|refine Ke ?_);simp only[Xbp,Xbq,Xbr,Xbs,Xbt,Xa4,Xay,Xa5,Xa6,Xa7,Xa8,go_sem])|refine Kf ?_|refine Kg ?_|apply Kp<;>intro _|((first|refine Kh ?_|refine Ki rfl ?_);simp only[Xbp,Xbq,Xbr,Xbs,Xbt,Xa4,Xay,Xa5,Xa6,Xa7,Xa8,or_self,Qs,Qt,Qu,Qv,Qw,Qx,Qy,Qz,Za,go_sem])
abbrev pD (g:Gr) (c:List Int):V:=.one (.d (.bx [.int .i64 g.root,.sl (nds g.l),.sl (Xag c)]))
theorem X1b {l:List Sc} {i:Nat} {x:Sc} (h:l[i]?=some x):Xhr (l.take i)++(bT (scB x)++⟨#[44]⟩:ByteArray).data.toList=Xhr (l.take (i+1)):=by
 have e:(bT (scB x)++⟨#[44]⟩:ByteArray)=bT (scB x++[44]):=Y0h _ [44]
 rw[e]
 unfold Xhr
 rw[List.take_succ,h,List.flatMap_append]
 simp[bT]
theorem Yh7:∀ l:List Int,(l.flatMap pcR).length<=4*l.length
 | []=>Nat.le_refl _
 | r::l=>by
  have h1:=Yh4 r
  have h2:=Yh7 l
  simp only[List.flatMap_cons,List.length_append,List.length_cons]
  omega
theorem Yh8 (s:ByteArray):∀ (f p:Nat),(sgF s f p).length<=f
 | 0,p=>by simp[sgF]
 | f+1,p=>by
  have:=Yh8 s f (p+(Utf8.decode s p).2)
  simp only[sgF]
  split <;> simp <;> omega
theorem Yh9 {x:Sc} (h:prR Xan x=true) (hs:x.short):(scB x).length<=1700000:=by
 have hk:=Xgd h
 unfold Xi0 at hk
 unfold scB
 split
 ·simp
 ·split
  ·cases decide (x.n=1) <;> simp[Xka]
  ·split
   ·have:=Lib.itoa_length_le x.n (by omega) (by omega)
    omega
   ·unfold X1m sgS
    have h1:=Xjc ((sgF x.s x.s.size 0).flatMap pcR)
    have h2:=Yh7 (sgF x.s x.s.size 0)
    have h3:=Yh8 x.s x.s.size 0
    unfold Sc.short at hs
    simp only[List.length_cons,List.length_append,List.length_nil]
    omega
theorem Xsb:∀ (l:List Sc),(∀ x∈l,prR Xan x=true/\x.short)->(Xhr l).length<=1700001*l.length
 | [],_=>Nat.le_refl _
 | x::l,h=>by
  have h0:=h x (by simp)
  have h1:=Yh9 h0.1 h0.2
  have h2:=Xsb l fun m hm=>h m (by simp[hm])
  unfold Xhr at *
  simp only[List.flatMap_cons,List.length_append,List.length_cons,List.length_nil]
  omega
theorem W0j (hU:Xpk gp) (hP:Xp8 gp) (g:Gr) (c:List Int) (hg:Xc7 g) (i:Int) (hk:∀ x∈Xaj (Xau g.l i),prR Xan x=true/\x.short) :
  Xak QP gp 74 [pD g c,vi i] (vs (bT (Xhr (Xaj (Xau g.l i))))):=by
 refine Wz3 ?_
 simp only[go_sem]
 have ck:=keys (gp:=gp) g i hg
 have hl:(Xaj (Xau g.l i)).length<=12:=by
  obtain⟨h1,h2⟩:=hg.at i
  have:=Xdf (Xau g.l i)
  unfold Xaj;rw[List.length_map];omega
 generalize Xaj (Xau g.l i)=l at *
 generalize atE g.l i=e at *
 repeat' first|refine Kn rfl ?_|((first|refine Ka ?_|refine Kb ?_|refine Kv ?_|refine Ke ?_);simp only[go_sem])|refine Kf ?_|refine Kg ?_|refine⟨_,ck,Kg ?_⟩|refine⟨_,⟨ck,rfl⟩,Kg ?_⟩|apply Kp<;>intro _|((first|refine Kh ?_|refine Ki rfl ?_);simp only[or_self,Qs,Qt,Qu,Qv,Qw,Qx,Qy,Qz,Za,go_sem])
 refine Kt (fr 37 [(7,.one (.ptr 0 0)),(21,.one (.d (.sl (scs l)))),(22,vi l.length),(23,vi ((0:Nat):Int))]) ?_
 refine Km (fun mz sz=>∃ i:Nat,i<=l.length/\mz=l.length - i/\sz=⟨fr 37 [(7,.one (.ptr 0 0)),(21,.one (.d (.sl (scs l)))),(22,vi l.length),(23,vi (i:Int))],[.bld TB (.own 1 i),.brow TU i (Xhr (l.take i))]⟩) l.length ⟨0,Nat.zero_le _,rfl,by simp[Xhr]⟩ ?_
 rintro _ _ ⟨i,hi,rfl,rfl⟩
 simp only[go_sem]
 have hlen:=Xsb (l.take i) fun n hm=>hk n (List.mem_of_mem_take hm)
 have hlt:(l.take i).length<=12:=by simp;omega
 by_cases hil:i < l.length
 ·obtain⟨x,hx⟩:=Xai hil
  have h0:=hk x (List.mem_of_getElem? hx)
  have c1:=W0i hU hP x h0.1 h0.2
  have hit:=Yh9 h0.1 h0.2
  have hsz:(bT (scB x)++(⟨#[44]⟩:ByteArray)).size<=1700001:=by rw[Xzt,Xp9];simp[ByteArray.size];omega
  have e1:decide ((i:Int) < (l.length:Int))=true:=decide_eq_true (by omega)
  repeat' first|refine Kn rfl ?_|((first|refine Ka ?_|refine Kb ?_|refine Kv ?_|refine Ke ?_);simp only[e1,go_sem])|refine Kf ?_|refine Kg ?_|refine⟨_,c1,Kg ?_⟩|refine⟨_,⟨c1,rfl⟩,Kg ?_⟩|refine⟨_,⟨Kq _,(by first|exact Xab hx|(rw[Int.toNat_natCast];exact Xab hx)),rfl⟩,Kg ?_⟩|apply Kp<;>intro _|((first|refine Kh ?_|refine Ki rfl ?_);simp only[e1,or_self,Qs,Qt,Qu,Qv,Qw,Qx,Qy,Qz,Za,go_sem])
  refine⟨by rw[Xp9];simp;omega,?_⟩
  have bW:=Xr7 (gp:=gp) (ver:=i) (bs:=Xhr (l.take i)) (s:=bT (scB x)++⟨#[44]⟩) (by omega)
  have hsn:=X1b hx
  generalize (bT (scB x)++⟨#[44]⟩:ByteArray)=w at *
  refine Or.inr (Or.inr ⟨[0,1],.tup [vi w.size,.one (.d .nilI)],[.bld TB (.own 1 (i+1)),.brow TU (i+1) (Xhr (l.take i)++w.data.toList)],(by simp only[Xbo,Xf0,rnV,rnA,Xgk,rn0,Xgj,Xc5,Xf1,rnC,Xao,List.isEmpty_nil,reduceCtorEq,↓reduceIte,Qa,Qb,Qc,Qd,Qe,Qf,Qg,Qh,Qi,Qj,Qk,Ql,Qm,Qn,Qo,Qp,Qq,Qr];simp only[go_sem];exact⟨Yba,bW⟩),Kg ?_⟩)
  simp only[go_sem]
  rw[hsn]
  refine Kt (fr 37 [(7,.one (.ptr 0 0)),(21,.one (.d (.sl (scs l)))),(22,vi l.length),(23,vi (i:Int))]) ?_
  refine Ku 2 ?_
  simp only[go_sem]
  repeat' first|refine Kn rfl ?_|((first|refine Ka ?_|refine Kb ?_|refine Kv ?_|refine Ke ?_);simp only[go_sem])|refine Kf ?_|refine Kg ?_|apply Kp<;>intro _|((first|refine Kh ?_|refine Ki rfl ?_);simp only[or_self,Qs,Qt,Qu,Qv,Qw,Qx,Qy,Qz,Za,go_sem])
  refine⟨Xah hil (by unfold Xac;omega),?_⟩
  refine Kt (fr 37 [(7,.one (.ptr 0 0)),(21,.one (.d (.sl (scs l)))),(22,vi l.length),(23,vi (i+1))]) ?_
  exact Kl ⟨l.length - (i+1),by omega,i+1,by omega,rfl,rfl⟩
 ·obtain rfl:i=l.length:=by omega
  rw[List.take_of_length_le (Nat.le_refl _)]
  have e1:decide ((l.length:Int) < (l.length:Int))=false:=decide_eq_false (by omega)
  repeat' first|refine Kn rfl ?_|((first|refine Ka ?_|refine Kb ?_|refine Kv ?_|refine Ke ?_);simp only[e1,go_sem])|refine Kf ?_|refine Kg ?_|apply Kp<;>intro _|((first|refine Kh ?_|refine Ki rfl ?_);simp only[e1,or_self,Qs,Qt,Qu,Qv,Qw,Qx,Qy,Qz,Za,go_sem])
  refine Or.inr (Or.inr ⟨[0,1],vs (bT (Xhr l)),[.dead,.dead],(by simp only[Xbo,Xf0,rnV,rnA,Xgk,rn0,Xgj,Xc5,Xf1,rnC,Xao,List.isEmpty_nil,reduceCtorEq,↓reduceIte,Qa,Qb,Qc,Qd,Qe,Qf,Qg,Qh,Qi,Qj,Qk,Ql,Qm,Qn,Qo,Qp,Qq,Qr];simp only[go_sem];exact⟨by kernel_rfl,Xkf⟩),Kg ?_⟩)
  simp only[go_sem]
  repeat' first|refine Kn rfl ?_|((first|refine Ka ?_|refine Kb ?_|refine Kv ?_|refine Ke ?_);simp only[go_sem])|refine Kf ?_|refine Kg ?_|apply Kp<;>intro _|((first|refine Kh ?_|refine Ki rfl ?_);simp only[or_self,Qs,Qt,Qu,Qv,Qw,Qx,Qy,Qz,Za,go_sem])
def Xer (c:List Int) (i:Int):Int:=c[i.toNat]?.getD 0
structure SayT where
 k:Int
 x:Sc
 ks:List UInt8
 ns:List UInt8
 deriving DecidableEq
def Wk6 (c:List Int) (x:Nd):SayT:=⟨x.k,x.x,Xhr (Xaj x),Xhq ((Xaf x).map (Xer c))⟩
abbrev Wk7 (s:SayT):V:=.agg [.d (.int .i64 s.k),.d (.int .i64 s.x.k),.d (.int .i64 s.x.n),.d (.str s.x.s),.d (.str (bT s.ks)),.d (.str (bT s.ns))]
def X1p (c l:List Int) (i:Nat):List Int:=(l.take i).map (Xer c)++l.drop i
theorem Wk8 (c l:List Int) (i:Nat) (h:i<=l.length):(X1p c l i).length=l.length:=by simp[X1p];omega
theorem W0k {c l:List Int} {i:Nat} {j:Int} (h:l[i]?=some j):(X1p c l i)[i]?=some j:=by
 have:=(Kr.1 h).1
 unfold X1p
 rw[List.getElem?_append_right (by rw[List.length_map,List.length_take];omega)]
 simp only[List.getElem?_drop,List.length_map,List.length_take]
 rw[show i+(i - min i l.length)=i by omega,h]
theorem Wk9 {c l:List Int} {i:Nat} {j y:Int} (h:l[i]?=some j) (hy:c[j.toNat]?=some y):(Xag (X1p c l i)).set i [.int .i64 y]=Xag (X1p c l (i+1)):=by
 have hi:=(Kr.1 h).1
 have e:Xer c j=y:=by unfold Xer;rw[hy];rfl
 have:Xag (X1p c l i)=(Xag ((l.take i).map (Xer c)))++([.int .i64 j]::Xag (l.drop (i+1))):=by
  unfold X1p
  rw[List.drop_eq_getElem_cons hi]
  have:l[i]=j:=by rw[List.getElem?_eq_getElem hi] at h;exact Option.some.inj h
  simp[Xag,this]
 rw[this,List.set_append_right _ _ (by simp[Xag];omega)]
 have hz:i - (Xag ((l.take i).map (Xer c))).length=0:=by simp[Xag];omega
 rw[hz,List.set_cons_zero]
 unfold X1p
 rw[List.take_succ,h]
 simp[Xag,e]
theorem Xd2 {l:List Int} {i:Nat} {x:Int} (h:l[i]?=some x):(Xag l)[i]?=some [.int .i64 x]:=by rw[List.getElem?_map,h];rfl
theorem Xt5 {l:List Nd} {i:Nat} {x:Nd} (h:l[i]?=some x):(nds l)[i]?=some x.ds:=by rw[List.getElem?_map,h];rfl
theorem W0l (hU:Xpk gp) (hP:Xp8 gp) (g:Gr) (c:List Int) (hg:Xc7 g) (m:Int) (hi:inL g.l m) (hk:∀ x∈Xaj (Xau g.l m),prR Xan x=true/\x.short)
  (hc:∀ j∈Xaf (Xau g.l m),0<=j/\∃ x,c[j.toNat]?=some x/\okI x):Xak QP gp 45 [pD g c,vi m] (Wk7 (Wk6 c (Xau g.l m))):=by
 refine Wzl ?_
 simp only[go_sem]
 refine Xgz 15 ?_
 simp only[go_sem]
 have hx:=Yfw hi
 have hi0:=hi.1
 have ck:=Yrr (gp:=gp) g m hg
 have hl:=Xdk (Xau g.l m) 12 (hg.at m)
 have c1:=W0j hU hP g c hg m hk
 have c2:=Wk4 hP ((Xaf (Xau g.l m)).map (Xer c)) (fun n hn=>by
  obtain⟨j,hj,rfl⟩:=List.mem_map.1 hn
  obtain⟨_,x,h1,h2⟩:=hc j hj
  unfold Xer;rw[h1];exact h2) (by simp;omega)
 unfold Wk6
 generalize Xau g.l m=x at *
 generalize Xaf x=l at *
 generalize Yrq x=v at *
 generalize atE g.l m=e at *
 repeat' first|refine Kn rfl ?_|((first|refine Ka ?_|refine Kb ?_|refine Kv ?_|refine Ke ?_);simp only[go_sem])|refine Kf ?_|refine Kg ?_|apply Kp<;>intro _|((first|refine Kh ?_|refine Ki rfl ?_);simp only[or_self,Qs,Qt,Qu,Qv,Qw,Qx,Qy,Qz,Za,go_sem])
 refine Or.inr ⟨[],.tup [.one (.own 1 v),vi e],[.dead,.row 1 v (Xag l)],(by simp only[Xbo,Xf0,rnV,rnA,Xgk,rn0,Xgj,Xc5,Xf1,rnC,Xao,List.isEmpty_nil,reduceCtorEq,↓reduceIte,Qa,Qb,Qc,Qd,Qe,Qf,Qg,Qh,Qi,Qj,Qk,Ql,Qm,Qn,Qo,Qp,Qq,Qr];simp only[go_sem];exact⟨Ys3,ck⟩),Kg ?_⟩
 simp only[go_sem]
 repeat' first|refine Kn rfl ?_|((first|refine Ka ?_|refine Kb ?_|refine Kv ?_|refine Ke ?_);simp only[go_sem])|refine Kf ?_|refine Kg ?_|apply Kp<;>intro _|((first|refine Kh ?_|refine Ki rfl ?_);simp only[or_self,Qs,Qt,Qu,Qv,Qw,Qx,Qy,Qz,Za,go_sem])
 refine Kt (fr 60 [(0,pD g c),(1,vi m),(4,.one (.ptr 0 0)),(5,.one (.own 2 v)),(18,.one (.own 2 v)),(19,vi l.length),(20,vi ((0:Nat):Int))]) ?_
 refine Ku 3 ?_
 simp only[go_sem]
 refine Kt (fr 60 [(0,pD g c),(1,vi m),(4,.one (.ptr 0 0)),(5,.one (.own 2 v)),(18,.one (.own 2 v)),(19,vi l.length),(20,vi (0:Nat))]) ?_
 refine Km (fun mz sz=>∃ i:Nat,i<=l.length/\mz=l.length - i/\(0<=i)/\sz=⟨fr 60 [(0,pD g c),(1,vi m),(4,.one (.ptr 0 0)),(5,.one (.own 2 v)),(18,.one (.own 2 v)),(19,vi l.length),(20,vi i)],[.cells [.d (.int .i64 0),.d (.int .i64 0),.d (.int .i64 0),.d (.str ⟨#[]⟩),.d (.str ⟨#[]⟩),.d (.str ⟨#[]⟩)],.dead,.row 1 v (Xag (X1p c l i))]⟩) (l.length) ⟨0,Nat.zero_le _,(Nat.sub_zero _).symm,?_,rfl⟩ ?_
 ·exact Nat.zero_le _
 rintro _ _ ⟨i,hkl,rfl,-,rfl⟩
 simp only[go_sem]
 by_cases hil:i < l.length
 ·obtain⟨j,hj⟩:=Xai hil
  obtain⟨hj0,y,hy,_⟩:=hc j (List.mem_of_getElem? hj)
  have hm:=W0k (c:=c) hj
  have hml:=Wk8 c l i (by omega)
  have e1:decide ((i:Int) < (l.length:Int))=true:=decide_eq_true (by omega)
  repeat' first|refine Kn rfl ?_|((first|refine Ka ?_|refine Kb ?_|refine Kv ?_|refine Ke ?_);simp only[e1,go_sem])|refine Kf ?_|refine Kg ?_|refine⟨_,⟨Kq _,(by first|exact Xab hm|(rw[Int.toNat_natCast];exact Xab hm)),rfl⟩,Kg ?_⟩|refine⟨_,⟨Kq _,(by first|exact Xab hy|(rw[Int.toNat_natCast];exact Xab hy)),rfl⟩,Kg ?_⟩|apply Kp<;>intro _|((first|refine Kh ?_|refine Ki rfl ?_);simp only[e1,or_self,Qs,Qt,Qu,Qv,Qw,Qx,Qy,Qz,Za,go_sem])
  refine⟨Kq _,by omega,_,⟨Xd2 hm,Nat.le_refl _⟩,Kg ?_⟩
  simp only[go_sem]
  repeat' first|refine Kn rfl ?_|((first|refine Ka ?_|refine Kb ?_|refine Kv ?_|refine Ke ?_);simp only[go_sem])|refine Kf ?_|refine Kg ?_|refine⟨_,⟨hj0,Xd2 hy,rfl⟩,Kg ?_⟩|apply Kp<;>intro _|((first|refine Kh ?_|refine Ki rfl ?_);simp only[or_self,Qs,Qt,Qu,Qv,Qw,Qx,Qy,Qz,Za,go_sem])
  refine⟨Kq _,by omega,_,⟨Xd2 hm,Nat.le_refl _⟩,Kg ?_⟩
  simp only[go_sem]
  rw[Wk9 hj hy]
  repeat' first|refine Kn rfl ?_|((first|refine Ka ?_|refine Kb ?_|refine Kv ?_|refine Ke ?_);simp only[go_sem])|refine Kf ?_|refine Kg ?_|apply Kp<;>intro _|((first|refine Kh ?_|refine Ki rfl ?_);simp only[or_self,Qs,Qt,Qu,Qv,Qw,Qx,Qy,Qz,Za,go_sem])
  refine⟨Xah hil (by unfold Xac;omega),?_⟩
  refine Kt (fr 60 [(0,pD g c),(1,vi m),(4,.one (.ptr 0 0)),(5,.one (.own 2 v)),(18,.one (.own 2 v)),(19,vi l.length),(20,vi (i+1))]) ?_
  refine Ku 3 ?_
  simp only[go_sem]
  refine Kl ⟨l.length - (i+1),by omega,i+1,by omega,rfl,?_,rfl⟩
  exact Nat.zero_le _
 ·obtain rfl:i=l.length:=by omega
  have e1:decide ((l.length:Int) < (l.length:Int))=false:=decide_eq_false (by omega)
  have hm:X1p c l l.length=l.map (Xer c):=by simp[X1p]
  rw[hm]
  repeat' first|refine Kn rfl ?_|((first|refine Ka ?_|refine Kb ?_|refine Kv ?_|refine Ke ?_);simp only[e1,go_sem])|refine Kf ?_|refine Kg ?_|refine⟨_,c1,Kg ?_⟩|refine⟨_,⟨c1,rfl⟩,Kg ?_⟩|refine⟨_,c2,Kg ?_⟩|refine⟨_,⟨c2,rfl⟩,Kg ?_⟩|refine⟨_,⟨hi0,Xt5 hx,rfl⟩,Kg ?_⟩|apply Kp<;>intro _|((first|refine Kh ?_|refine Ki rfl ?_);simp only[e1,or_self,Qs,Qt,Qu,Qv,Qw,Qx,Qy,Qz,Za,go_sem])
  all_goals trace_state
section
variable {α:Type} [DecidableEq α] {kag:Bool} {ks:List Leaf} {kv:α->V}
def Yia (kv:α->V) (k:Nat) (l:List α):List (V × V):=(l.zipIdx k).map fun p=>(kv p.1,vi (p.2:Int))
theorem Xne (k:Nat) (a:α) (l:List α):Yia kv k (a::l)=(kv a,vi (k:Int))::Yia kv (k+1) l:=by simp[Yia,List.zipIdx_cons]
theorem Xsc (he:∀ a b,eqV kag ks (kv a) (kv b)=some (decide (a=b))):∀ (l:List α) (k:Nat) (x:α),Xet kag ks (Yia kv k l) (kv x)=some (if x∈l then some (vi ((l.idxOf x+k:Nat):Int)) else none)
 | [],k,x=>by simp[Yia,Xet]
 | a::l,k,x=>by
  rw[Xne]
  simp only[Xet,he]
  by_cases h:x=a
  ·subst h;simp
  ·have h':¬ a=x:=fun e=>h e.symm
   simp only[h,decide_false,Xsc he l (k+1) x,List.mem_cons,false_or]
   split
   ·rw[List.idxOf_cons]
    have:(a==x)=false:=by simp[h']
    rw[this]
    simp;omega
   ·rfl
theorem Xzu (he:∀ a b,eqV kag ks (kv a) (kv b)=some (decide (a=b))):∀ (l:List α) (k:Nat) (x:α),x ∉ l->Xnm kag ks (Yia kv k l) (kv x) (vi ((k+l.length:Nat):Int))=some (Yia kv k (l++[x]))
 | [],k,x,_=>by simp[Yia,Xnm]
 | a::l,k,x,h=>by
  simp only[List.mem_cons,not_or] at h
  rw[Xne,List.cons_append,Xne]
  have ih:=Xzu he l (k+1) x h.2
  rw[show k+1+l.length=k+(a::l).length from by simp;omega] at ih
  simp only[Xnm,he,h.1,decide_false,ih]
theorem Yrs (l:List α):(Yia kv 0 l).length=l.length:=by simp[Yia]
end
theorem W0m {a b:List UInt8}:bT a=bT b↔a=b:=by
 constructor
 ·intro h
  have:=congrArg (fun x:ByteArray=>x.data.toList) h
  simpa [bT] using this
 ·rintro rfl;rfl
abbrev kS:List Leaf:=[.i,.i,.i,.s,.s,.s]
theorem Yib (a b:SayT):eqV true kS (Wk7 a) (Wk7 b)=some (decide (a=b)):=by
 obtain⟨k,⟨k2,n,s⟩,u,v⟩:=a
 obtain⟨k',⟨k2',n',s'⟩,u',v'⟩:=b
 simp only[go_sem]
 congr 1
 rw[Bool.eq_iff_iff]
 simp[W0m,and_assoc]
def Xzv (l:List SayT):List (V × V):=Yia Wk7 0 l
theorem Xsd (l:List SayT) (x:SayT):Xet true kS (Xzv l) (Wk7 x)=some (if x∈l then some (vi (l.idxOf x:Int)) else none):=Xsc Yib l 0 x
theorem Yrt {l:List SayT} {x:SayT} (h:x ∉ l):Xnm true kS (Xzv l) (Wk7 x) (vi (l.length:Int))=some (Xzv (l++[x])):=by
 have:=Xzu Yib l 0 x h
 rwa [Nat.zero_add] at this
theorem Xge (l:List SayT):(Xzv l).length=l.length:=Yrs l
theorem Xjd (l:List SayT):(Ch.map (Xzv l)).refs=[]:=by
 simp only[Ch.refs]
 rw[List.flatMap_eq_nil_iff]
 intro e he
 obtain⟨a,_,rfl⟩:=List.mem_map.1 he
 rfl
abbrev pC (g:Gr) (v:Nat):Ch:=.cells [.d (.int .i64 g.root),.d (.sl (nds g.l)),.own 1 v]
theorem W72 (g:Gr) (hl:g.l.length<=1000):Tri QP gp 37 [g.v] [] fun r post=>r=.one (.ptr 1 0)/\post=[.row 1 0 (Xag (Xfc g.l.length)),.cells [.d (.int .i64 g.root),.d (.sl (nds g.l)),.own 0 0]]:=by
 refine Wi5 ?_
 simp only[go_sem]
 repeat' first|refine Kn rfl ?_|((first|refine Ka ?_|refine Kb ?_|refine Kv ?_|refine Ke ?_);simp only[go_sem])|refine Kf ?_|refine Kg ?_|apply Kp<;>intro _|((first|refine Kh ?_|refine Ki rfl ?_);simp only[or_self,Qs,Qt,Qu,Qv,Qw,Qx,Qy,Qz,Za,go_sem])
 refine⟨by omega,by omega,by unfold Xac;omega,?_⟩
 repeat' first|refine Kn rfl ?_|((first|refine Ka ?_|refine Kb ?_|refine Kv ?_|refine Ke ?_);simp only[go_sem])|refine Kf ?_|refine Kg ?_|apply Kp<;>intro _|((first|refine Kh ?_|refine Ki rfl ?_);simp only[or_self,Qs,Qt,Qu,Qv,Qw,Qx,Qy,Qz,Za,go_sem])
 simp[Xag,Xfc]
theorem Wla (g:Gr) (c:List Int) (v:Nat):Tri QP gp 97 [.one (.ptr 0 0)] [pC g v,.row 1 v (Xag c)] fun r post =>
  r=.one (.clo (.func 125) [.ptr 2 0])/\post=[pC g v,.row 1 v (Xag c),.cells [.ptr 0 0]]:=by
 refine Wkp ?_
 simp only[go_sem]
 repeat' first|refine Kn rfl ?_|((first|refine Ka ?_|refine Kb ?_|refine Kv ?_|refine Ke ?_);simp only[go_sem])|refine Kf ?_|refine Kg ?_|apply Kp<;>intro _|((first|refine Kh ?_|refine Ki rfl ?_);simp only[or_self,Qs,Qt,Qu,Qv,Qw,Qx,Qy,Qz,Za,go_sem])
 all_goals trace_state
def Xje (l:List Nd) (c:List Int):List SayT:=l.map (Wk6 c)
theorem Xhg (l:List Nd) (c:List Int):(Xje l c).length=l.length:=by simp[Xje]
structure Neat (g:Gr):Prop where
 f:Fine g.l
 s:∀ x∈g.l,x.short
 len:g.l.length<=1000
theorem Neat.small {g:Gr} (h:Neat g):Xc7 g:=h.f.small
theorem X1c {x:Nd} {n:Int} (h:Xbg Xan x n=true):∀ y∈Xaj x,prR Xan y=true:=by
 by_cases hk:x.k=2
 ·have h1:=(Xh3 h hk).1
  obtain⟨m1,_,_⟩:=Xft h hk
  intro y hy
  unfold Xaj at hy
  rw[Xbu hk m1] at hy
  have:=((Xe1 (Xcu x)).map Pr.key).mem_iff.1 hy
  rw[Xgb m1] at this
  exact (List.all_eq_true.1 h1) y this
 ·intro y hy
  unfold Xaj at hy
  rw[Xcd hk] at hy
  cases hy
theorem Xzw {x:Nd}:∀ y∈Xaj x,y∈x.keys:=by
 intro y hy
 by_cases hk:x.k=2/\x.keys.length=x.kids.length
 ·unfold Xaj at hy
  rw[Xbu hk.1 hk.2] at hy
  have:=((Xe1 (Xcu x)).map Pr.key).mem_iff.1 hy
  rwa [Xgb hk.2] at this
 ·unfold Xaj Xad at hy
  rw[if_neg hk] at hy
  cases hy
theorem Neat.keys {g:Gr} (h:Neat g) {i:Int} (hi:inL g.l i):∀ y∈Xaj (Xau g.l i),prR Xan y=true/\y.short:=fun y hy =>
 ⟨X1c (h.f.node _ (Xmr hi)) y hy,(h.s _ (Xmr hi)).2.2.2 y (Xzw y hy)⟩
structure ClsOK (l:List Nd) (c:List Int):Prop where
 len:c.length=l.length
 ok:∀ n∈c,okI n
theorem ClsOK.kid {g:Gr} {c:List Int} (h:ClsOK g.l c) (hf:Fine g.l) (i:Int):∀ j∈Xaf (Xau g.l i),0<=j/\∃ x,c[j.toNat]?=some x/\okI x:=fun j hj=>by
 have hi:=hf.kid i j hj
 unfold inL at hi
 obtain⟨x,hx⟩:=Xai (l:=c) (i:=j.toNat) (by rw[h.len];omega)
 exact⟨hi.1,x,hx,h.ok x (List.mem_of_getElem? hx)⟩
theorem W0n {α:Type} [DecidableEq α] {l:List α} (hl:l.length<=1000):∀ n∈rkp l,okI n:=fun n hn=>by
 obtain⟨a,ha,rfl⟩:=List.mem_map.1 hn
 have h1:=List.idxOf_lt_length_of_mem (Xbw.2 ha)
 have h2:=Yfm l
 unfold okI
 omega
theorem Yic {g:Gr} (h:Neat g) (c:List Int):ClsOK g.l (rkp (Xje g.l c)):=⟨by rw[Xj8,Xhg],W0n (by rw[Xhg];exact h.len)⟩
def Xh6 (R:List Int) (n i:Nat):List Int:=R.take i++Xfc (n - i)
theorem Yru {R:List Int} {n i:Nat} {y:Int} (hn:R.length=n) (h:R[i]?=some y):i < (Xag (Xh6 R n i)).length/\(Xag (Xh6 R n i))[i]?=some [.int .i64 0]/\(Xag (Xh6 R n i)).set i [.int .i64 y]=Xag (Xh6 R n (i+1)):=by
 have hi:=(Kr.1 h).1
 obtain⟨d,hd⟩:∃ d,n - i=d+1:=⟨n - i - 1,by omega⟩
 have hd2:n - (i+1)=d:=by omega
 unfold Xh6
 rw[hd,hd2,List.take_succ,h]
 have hz:(Xag (R.take i)).length=i:=by simp[Xag];omega
 have e:Xag (R.take i++Xfc (d+1))=Xag (R.take i)++([.int .i64 0]::Xag (Xfc d)):=by simp[Xag,Xfc,List.replicate_succ]
 rw[e]
 refine⟨by simp[Xag];omega,?_,?_⟩
 ·rw[List.getElem?_append_right (by omega),hz,Nat.sub_self];rfl
 ·rw[List.set_append_right _ _ (by omega),hz,Nat.sub_self,List.set_cons_zero]
  simp[Xag]
theorem Yrv {R:List Int} {n:Nat} (hn:R.length=n):Xh6 R n n=R:=by
 unfold Xh6
 rw[Nat.sub_self,List.take_of_length_le (by omega)]
 simp[Xfc]
theorem Yid (l:List SayT) (j:Nat) (c:Ch):Yst j c (.map (Xzv l))=.map (Xzv l):=by
 simp only[Yst,Ch.map.injEq]
 conv=>rhs;rw[<- List.map_id (Xzv l)]
 apply List.map_congr_left
 intro e he
 obtain⟨a,_,rfl⟩:=List.mem_map.1 he
 rfl
theorem Xt6 {l:List Nd} {c:List Int} {i:Nat} {x:Nd} (h:l[i]?=some x):(Xje l c)[i]?=some (Wk6 c x):=by unfold Xje;rw[List.getElem?_map,h];rfl
set_option maxHeartbeats 2000000 in
theorem Wlb (hU:Xpk gp) (hP:Xp8 gp) {g:Gr} (hn:Neat g) {c:List Int} (hc:ClsOK g.l c) (v:Nat) :
  Tri QP gp 71 [.one (.ptr 0 0)] [pC g v,.row 1 v (Xag c)] fun r post =>
   r=vi ((ddp (Xje g.l c)).length:Int)/\post=[pC g v,.row 1 v (Xag (rkp (Xje g.l c)))]:=by
 have hSl:=Xhg g.l c
 have hcl:=hc.len
 have hgl:=hn.len
 have hnode:∀ i:Nat,∀ x,g.l[i]?=some x->∃ s,(Xje g.l c)[i]?=some s/\Xak QP gp 45 [pD g c,vi i] (Wk7 s):=fun i x hx=>by
  have hi:inL g.l i:=(Xr2 hx).1
  refine⟨_,Xt6 hx,?_⟩
  have:=W0l hU hP g c hn.small i hi (hn.keys hi) (hc.kid hn.f i)
  rwa [(Xr2 hx).2] at this
 generalize Xje g.l c=S at *
 have hRl:(rkp S).length=g.l.length:=by rw[Xj8,hSl]
 refine Wkf ?_
 simp only[go_sem]
 repeat' first|refine Kn rfl ?_|((first|refine Ka ?_|refine Kb ?_|refine Kv ?_|refine Ke ?_);simp only[go_sem])|refine Kf ?_|refine Kg ?_|apply Kp<;>intro _|((first|refine Kh ?_|refine Ki rfl ?_);simp only[or_self,Qs,Qt,Qu,Qv,Qw,Qx,Qy,Qz,Za,go_sem])
 refine⟨by omega,by omega,by unfold Xac;omega,?_⟩
 repeat' first|refine Kn rfl ?_|((first|refine Ka ?_|refine Kb ?_|refine Kv ?_|refine Ke ?_);simp only[go_sem])|refine Kf ?_|refine Kg ?_|apply Kp<;>intro _|((first|refine Kh ?_|refine Ki rfl ?_);simp only[or_self,Qs,Qt,Qu,Qv,Qw,Qx,Qy,Qz,Za,go_sem])
 refine Or.inr (Or.inr ⟨[0,1],.one (.clo (.func 125) [.ptr 2 0]),[pC g v,.row 1 v (Xag c),.cells [.ptr 0 0]],(by simp only[Xbo,Xf0,rnV,rnA,Xgk,rn0,Xgj,Xc5,Xf1,rnC,Xao,List.isEmpty_nil,reduceCtorEq,↓reduceIte,Qa,Qb,Qc,Qd,Qe,Qf,Qg,Qh,Qi,Qj,Qk,Ql,Qm,Qn,Qo,Qp,Qq,Qr];simp only[go_sem];exact⟨W0e,Wla g c v⟩),Kg ?_⟩)
 simp only[go_sem]
 repeat' first|refine Kn rfl ?_|((first|refine Ka ?_|refine Kb ?_|refine Kv ?_|refine Ke ?_);simp only[go_sem])|refine Kf ?_|refine Kg ?_|apply Kp<;>intro _|((first|refine Kh ?_|refine Ki rfl ?_);simp only[or_self,Qs,Qt,Qu,Qv,Qw,Qx,Qy,Qz,Za,go_sem])
 refine Woa (f2:=125) (caps:=[.one (.ptr 6 0)]) (fun pd own'=>pd=none/\∃ rest,own'=pC g v::.row 1 v (Xag c)::.map (Xzv (ddp S))::.cells [.own 2 0]::.row 1 0 (Xag (rkp S))::.cells [.own 4 0]::.cells [.ptr 0 0]::rest) rfl ?_ Wku ?_ ?_ ?_
 ·intro y;simp only[go_sem]
 ·rintro b rc hps ⟨hs,hta,htb⟩
  refine Yri ?_
  simp only[go_sem]
  repeat' first|refine Kn rfl ?_|((first|refine Ka ?_|refine Kb ?_|refine Kv ?_|refine Ke ?_);simp only[go_sem])|refine Kf ?_|refine Kg ?_|apply Kp<;>intro _|((first|refine Kh ?_|refine Ki rfl ?_);simp only[or_self,Qs,Qt,Qu,Qv,Qw,Qx,Qy,Qz,Za,go_sem])
  rw[show (List.replicate c.length [D.int IntKind.i64 0])=Xag (Xh6 (rkp S) g.l.length 0) from by simp[Xh6,Xag,Xfc,hcl]]
  refine Kt (fr 21 [(0,.one (.d (.raw (.func (.yield b) #[] #[])))),(1,.one (.ptr 6 0)),(9,vi g.l.length),(10,vi (0:Nat))]) ?_
  refine Km (fun mz sz=>∃ i:Nat,i<=g.l.length/\mz=g.l.length - i/\(0<=i)/\sz=⟨fr 21 [(0,.one (.d (.raw (.func (.yield b) #[] #[])))),(1,.one (.ptr 6 0)),(9,vi g.l.length),(10,vi i)],[pC g v,.row 1 v (Xag c),.map (Xzv (ddp (S.take i))),.cells [.own 2 0],.row 1 0 (Xag (Xh6 (rkp S) g.l.length i)),.cells [.own 4 0],.cells [.ptr 0 0],.dead,.lp b _ rc .ready none]⟩) (g.l.length) ⟨0,Nat.zero_le _,(Nat.sub_zero _).symm,?_,rfl⟩ ?_
  ·exact Nat.zero_le _
  rintro _ _ ⟨i,hi,rfl,-,rfl⟩
  simp only[go_sem]
  by_cases hil:i < g.l.length
  ·obtain⟨x,hx⟩:=Xai hil
   obtain⟨s,hs1,hs2⟩:=hnode i x hx
   have e1:decide ((i:Int) < (g.l.length:Int))=true:=decide_eq_true (by omega)
   obtain⟨f1,f2,f3⟩:=Yru hRl (Xkv hs1)
   have hfl:i < (Xh6 (rkp S) g.l.length i).length:=by simpa [Xag] using f1
   have hnx:=Xzg hs1
   have hit:=Xzf hs1 (Nat.lt_succ_self i)
   have hmem:s∈ddp (S.take (i+1)):=Xbw.2 (Xhf.2 ⟨i,Nat.lt_succ_self i,hs1⟩)
   have hf2:=Xsd (ddp (S.take (i+1))) s
   rw[if_pos hmem,hit] at hf2
   have hf1:=Xsd (ddp (S.take i)) s
   generalize ((ddp S).idxOf s:Int)=y at *
   repeat' first|refine Kn rfl ?_|((first|refine Ka ?_|refine Kb ?_|refine Kv ?_|refine Ke ?_);simp only[e1,go_sem])|refine Kf ?_|refine Kg ?_|(apply Kp<;>intro _<;>try (exfalso;omega))|((first|refine Kh ?_|refine Ki rfl ?_);simp only[e1,or_self,Qs,Qt,Qu,Qv,Qw,Qx,Qy,Qz,Za,go_sem])
   refine Or.inl ⟨_,⟨hs2,rfl⟩,Kg ?_⟩
   simp only[go_sem]
   repeat' first|refine Kn rfl ?_|((first|refine Ka ?_|refine Kb ?_|refine Kv ?_|refine Ke ?_);simp only[go_sem])|refine Kf ?_|refine Kg ?_|(apply Kp<;>intro _<;>try (exfalso;omega))|((first|refine Kh ?_|refine Ki rfl ?_);simp only[or_self,Qs,Qt,Qu,Qv,Qw,Qx,Qy,Qz,Za,go_sem])
   by_cases hm:s∈S.take i
   ·rw[if_pos hm] at hnx
    rw[if_pos (Xbw.2 hm),<- hnx.2] at hf1
    rw[<- hnx.2]
    refine⟨[pC g v,.row 1 v (Xag c),.map (Xzv (ddp (S.take (i+1)))),.cells [.own 2 0],.row 1 0 (Xag (Xh6 (rkp S) g.l.length (i+1))),.cells [.own 4 0],.cells [.ptr 0 0],.dead,.lp b _ rc .ready none,.cells [.d (.int .i64 s.k),.d (.int .i64 s.x.k),.d (.int .i64 s.x.n),.d (.str s.x.s),.d (.str (bT s.ks)),.d (.str (bT s.ns))]],true,by simp,⟨8,_,rc,hs,_,_,[pC g v,.row 1 v (Xag c),.map (Xzv (ddp (S.take (i+1)))),.cells [.own 2 0],.row 1 0 (Xag (Xh6 (rkp S) g.l.length (i+1))),.cells [.own 4 0],.cells [.ptr 0 0],.dead,.dead,.cells [.d (.int .i64 s.k),.d (.int .i64 s.x.k),.d (.int .i64 s.x.n),.d (.str s.x.s),.d (.str (bT s.ks)),.d (.str (bT s.ns))]],none,rfl,by rw[<- Array.length_toList,hps];rfl,hta,htb,?_,rfl,rfl⟩,Kg ?_⟩
    ·rw[hps]
     simp only[go_sem]
     repeat' first|refine Kn rfl ?_|((first|refine Ka ?_|refine Kb ?_|refine Kv ?_|refine Ke ?_);simp only[go_sem])|refine Kf ?_|refine Kg ?_|apply Kp<;>intro _|((first|refine Kh ?_|refine Ki rfl ?_);simp only[or_self,Qs,Qt,Qu,Qv,Qw,Qx,Qy,Qz,Za,go_sem])
     refine Xjy ⟨rfl,?_⟩
     repeat' first|refine Kn rfl ?_|((first|refine Ka ?_|refine Kb ?_|refine Kv ?_|refine Ke ?_);simp only[Xge,go_sem])|refine Kf ?_|refine Kg ?_|refine⟨_,⟨hf2,rfl⟩,Kg ?_⟩|refine⟨Kq _,hfl,_,⟨f2,Nat.le_refl _⟩,Kg ?_⟩|apply Kp<;>intro _|((first|refine Kh ?_|refine Ki rfl ?_);simp only[Xge,or_self,Qs,Qt,Qu,Qv,Qw,Qx,Qy,Qz,Za,go_sem])
     exact Xjy ⟨⟨rfl,rfl⟩,by rw[<- f3];rfl⟩
    ·simp only[go_sem]
     repeat' first|refine Kn rfl ?_|((first|refine Ka ?_|refine Kb ?_|refine Kv ?_|refine Ke ?_);simp only[go_sem])|refine Kf ?_|refine Kg ?_|apply Kp<;>intro _|((first|refine Kh ?_|refine Ki rfl ?_);simp only[or_self,Qs,Qt,Qu,Qv,Qw,Qx,Qy,Qz,Za,go_sem])
     refine⟨Xah hil (by unfold Xac;omega),?_⟩
     refine Kt (fr 21 [(0,.one (.d (.raw (.func (.yield b) #[] #[])))),(1,.one (.ptr 6 0)),(9,vi g.l.length),(10,vi (i+1))]) ?_
     refine Kk 9 (by simp only[List.length_nil,List.length_cons];decide) (by simp only[go_sem]) (by simp only[List.take_succ_cons,List.take_zero,List.all_cons,List.all_nil,Xjd];try simp only[go_sem]) ?_
     simp only[go_sem]
     refine Kl ⟨g.l.length - (i+1),by omega,i+1,by omega,rfl,?_,rfl⟩
     exact Nat.zero_le _
   ·rw[if_neg hm] at hnx
    have hm':s ∉ ddp (S.take i):=fun h=>hm (Xbw.1 h)
    rw[if_neg hm'] at hf1
    have hput:=Yrt hm'
    rw[<- hnx.2] at hput
    refine⟨[pC g v,.row 1 v (Xag c),.map (Xzv (ddp (S.take (i+1)))),.cells [.own 2 0],.row 1 0 (Xag (Xh6 (rkp S) g.l.length (i+1))),.cells [.own 4 0],.cells [.ptr 0 0],.dead,.lp b _ rc .ready none,.cells [.d (.int .i64 s.k),.d (.int .i64 s.x.k),.d (.int .i64 s.x.n),.d (.str s.x.s),.d (.str (bT s.ks)),.d (.str (bT s.ns))]],true,by simp,⟨8,_,rc,hs,_,_,[pC g v,.row 1 v (Xag c),.map (Xzv (ddp (S.take (i+1)))),.cells [.own 2 0],.row 1 0 (Xag (Xh6 (rkp S) g.l.length (i+1))),.cells [.own 4 0],.cells [.ptr 0 0],.dead,.dead,.cells [.d (.int .i64 s.k),.d (.int .i64 s.x.k),.d (.int .i64 s.x.n),.d (.str s.x.s),.d (.str (bT s.ks)),.d (.str (bT s.ns))]],none,rfl,by rw[<- Array.length_toList,hps];rfl,hta,htb,?_,rfl,rfl⟩,Kg ?_⟩
    ·rw[hps]
     simp only[go_sem]
     repeat' first|refine Kn rfl ?_|((first|refine Ka ?_|refine Kb ?_|refine Kv ?_|refine Ke ?_);simp only[go_sem])|refine Kf ?_|refine Kg ?_|apply Kp<;>intro _|((first|refine Kh ?_|refine Ki rfl ?_);simp only[or_self,Qs,Qt,Qu,Qv,Qw,Qx,Qy,Qz,Za,go_sem])
     refine Xjy ⟨rfl,?_⟩
     repeat' first|refine Kn rfl ?_|((first|refine Ka ?_|refine Kb ?_|refine Kv ?_|refine Ke ?_);simp only[Xge,go_sem])|refine Kf ?_|refine Kg ?_|refine⟨_,⟨hf1,rfl⟩,Kg ?_⟩|refine⟨_,hput,Kg ?_⟩|refine⟨_,⟨hf2,rfl⟩,Kg ?_⟩|refine⟨Kq _,hfl,_,⟨f2,Nat.le_refl _⟩,Kg ?_⟩|apply Kp<;>intro _|((first|refine Kh ?_|refine Ki rfl ?_);simp only[Xge,or_self,Qs,Qt,Qu,Qv,Qw,Qx,Qy,Qz,Za,go_sem])
     exact Xjy ⟨⟨rfl,rfl⟩,by rw[<- f3];rfl⟩
    ·simp only[go_sem]
     repeat' first|refine Kn rfl ?_|((first|refine Ka ?_|refine Kb ?_|refine Kv ?_|refine Ke ?_);simp only[go_sem])|refine Kf ?_|refine Kg ?_|apply Kp<;>intro _|((first|refine Kh ?_|refine Ki rfl ?_);simp only[or_self,Qs,Qt,Qu,Qv,Qw,Qx,Qy,Qz,Za,go_sem])
     refine⟨Xah hil (by unfold Xac;omega),?_⟩
     refine Kt (fr 21 [(0,.one (.d (.raw (.func (.yield b) #[] #[])))),(1,.one (.ptr 6 0)),(9,vi g.l.length),(10,vi (i+1))]) ?_
     refine Kk 9 (by simp only[List.length_nil,List.length_cons];decide) (by simp only[go_sem]) (by simp only[List.take_succ_cons,List.take_zero,List.all_cons,List.all_nil,Xjd];try simp only[go_sem]) ?_
     simp only[go_sem]
     refine Kl ⟨g.l.length - (i+1),by omega,i+1,by omega,rfl,?_,rfl⟩
     exact Nat.zero_le _
  ·obtain rfl:i=g.l.length:=by omega
   have e1:decide ((g.l.length:Int) < (g.l.length:Int))=false:=decide_eq_false (by omega)
   rw[List.take_of_length_le (by omega),Yrv hRl]
   repeat' first|refine Kn rfl ?_|((first|refine Ka ?_|refine Kb ?_|refine Kv ?_|refine Ke ?_);simp only[e1,go_sem])|refine Kf ?_|refine Kg ?_|apply Kp<;>intro _|((first|refine Kh ?_|refine Ki rfl ?_);simp only[e1,or_self,Qs,Qt,Qu,Qv,Qw,Qx,Qy,Qz,Za,go_sem])
   exact⟨.ready,none,rfl,by simp,rfl,_,rfl⟩
 ·rintro own' ⟨_,rest,rfl⟩
  simp only[go_sem]
  refine Kk 7 (by simp only[List.length_nil,List.length_cons];decide) (by simp only[go_sem]) (by simp only[List.take_succ_cons,List.take_zero,List.all_cons,List.all_nil,Xjd];simp only[go_sem]) ?_
  simp only[go_sem]
  refine Xar 4 ?_
  simp only[Ysu,Xao,List.map_cons,List.map_nil,Yid]
  simp only[go_sem]
  repeat' first|refine Kn rfl ?_|((first|refine Ka ?_|refine Kb ?_|refine Kv ?_|refine Ke ?_);simp only[Xge,go_sem])|refine Kf ?_|refine Kg ?_|apply Kp<;>intro _|((first|refine Kh ?_|refine Ki rfl ?_);simp only[Xge,or_self,Qs,Qt,Qu,Qv,Qw,Qx,Qy,Qz,Za,go_sem])
  refine⟨fun p hp=>by obtain⟨_,_,rfl⟩:=List.mem_map.1 hp;rfl,by omega,?_⟩
  repeat refine Ko rfl ?_
  refine Ka ?_
  simp only[Xge,go_sem]
  refine Kt (fr 46 [(2,vi ((ddp S).length:Int))]) ?_
  refine Kk 2 (by simp only[List.length_nil,List.length_cons];decide) (by simp only[go_sem]) (by simp only[List.take_succ_cons,List.take_zero,List.all_cons,List.all_nil,Xjd];simp only[go_sem]) ?_
  simp only[go_sem]
  refine Ki rfl ?_
  simp only[or_self,Qs,Qt,Qu,Qv,Qw,Qx,Qy,Qz,Za,go_sem]
 ·rintro _ _ ⟨h,_⟩;cases h
structure Env10 (gp:Xal):Prop where
 e:Env gp
 p:Xp8 gp
theorem W0o {g:Gr} (hn:Neat g) {c:List Int} (hc:ClsOK g.l c) {i j:Int} (hi:inL g.l i) (hj:inL g.l j):Wk6 c (Xau g.l i)=Wk6 c (Xau g.l j)↔X1n (Xau g.l i) c=X1n (Xau g.l j) c:=by
 have hk:∀ i:Int,(Xaf (Xau g.l i)).map (fun k=>c[k.toNat]?)=(Xaf (Xau g.l i)).map (fun k=>some (Xer c k)):=fun i=>by
  refine List.map_congr_left fun k hk=>?_
  obtain⟨_,x,h1,_⟩:=hc.kid hn.f i k hk
  unfold Xer;rw[h1];rfl
 unfold Wk6 X1n
 rw[hk i,hk j,SayT.mk.injEq,Say.mk.injEq]
 have e1:Xhr (Xaj (Xau g.l i))=Xhr (Xaj (Xau g.l j))↔Xaj (Xau g.l i)=Xaj (Xau g.l j) :=
  ⟨Yfv (fun x hx=>(hn.keys hi x hx).1) (fun x hx=>(hn.keys hj x hx).1),fun e=>by rw[e]⟩
 have e2:Xhq ((Xaf (Xau g.l i)).map (Xer c))=Xhq ((Xaf (Xau g.l j)).map (Xer c))↔(Xaf (Xau g.l i)).map (fun k=>some (Xer c k))=(Xaf (Xau g.l j)).map (fun k=>some (Xer c k)):=by
  rw[show (Xaf (Xau g.l i)).map (fun k=>some (Xer c k))=((Xaf (Xau g.l i)).map (Xer c)).map some from by rw[List.map_map];rfl,
   show (Xaf (Xau g.l j)).map (fun k=>some (Xer c k))=((Xaf (Xau g.l j)).map (Xer c)).map some from by rw[List.map_map];rfl]
  rw[(List.map_inj_right (f:=some) (by intro a b e;exact Option.some.inj e))]
  exact⟨Yfp,fun e=>by rw[e]⟩
 rw[e1,e2]
theorem Yrw {g:Gr} (hn:Neat g) {c:List Int} (hc:ClsOK g.l c) (i j:Nat) (hi:i < g.l.length) (hj:j < g.l.length):(Xje g.l c)[i]?=(Xje g.l c)[j]?↔(Xgm g.l c)[i]?=(Xgm g.l c)[j]?:=by
 obtain⟨x,hx⟩:=Xai hi
 obtain⟨y,hy⟩:=Xai hj
 obtain⟨h1,h2⟩:=Xr2 hx
 obtain⟨h3,h4⟩:=Xr2 hy
 have:=W0o hn hc h1 h3
 rw[h2,h4] at this
 rw[Xt6 hx,Xt6 hy,show (Xgm g.l c)[i]?=some (X1n x c) from by unfold Xgm;rw[List.getElem?_map,hx];rfl,show (Xgm g.l c)[j]?=some (X1n y c) from by unfold Xgm;rw[List.getElem?_map,hy];rfl]
 rw[Option.some.injEq,Option.some.injEq]
 exact this
theorem Xqa {g:Gr} (hn:Neat g) {c:List Int} (hc:ClsOK g.l c):rkp (Xje g.l c)=rnd (Xgm g.l) c/\(ddp (Xje g.l c)).length=cnt (Xgm g.l) c:=by
 have hl:(Xje g.l c).length=(Xgm g.l c).length:=by rw[Xhg,Xp3]
 have hk:=Yrw hn hc
 refine⟨Xty hl fun i j hi hj=>by rw[Xhg] at hi hj;exact hk i j hi hj,?_⟩
 unfold cnt
 apply Nat.le_antisymm
 ·exact Xzi hl.symm fun i j hi hj e=>by rw[Xp3] at hi hj;exact (hk i j hi hj).2 e
 ·exact Xzi hl fun i j hi hj e=>by rw[Xhg] at hi hj;exact (hk i j hi hj).1 e
theorem Xzx {g:Gr}:ClsOK g.l (Xfc g.l.length):=⟨by simp[Xfc],fun n hn=>by
 obtain⟨_,rfl⟩:=List.mem_replicate.1 hn
 unfold okI;omega⟩
theorem X1d {σ:Type} [DecidableEq σ] {f:List Int->List σ} {k n m:Nat} {c:List Int} (h:¬ n < m):Xhp f k n m c=c:=by
 cases k with
 | zero=>rfl
 | succ k=>simp only[Xhp];rw[if_neg h]
set_option maxHeartbeats 1000000 in
theorem Yrx (h:Env10 gp) {g:Gr} (hn:Neat g) (v:Nat):Tri QP gp 38 [.one (.ptr 0 0)] [pC g v,.row 1 v (Xag (Xfc g.l.length))] fun r post =>
  r=.one (.own 1 v)/\post=[pC g v,.row 1 v (Xag (Xaz g.l))]:=by
 have hr:∀ c,ClsOK g.l c->Tri QP gp 71 [.one (.ptr 0 0)] [pC g v,.row 1 v (Xag c)] fun r post =>
   r=vi (cnt (Xgm g.l) c:Int)/\post=[pC g v,.row 1 v (Xag (rnd (Xgm g.l) c))]:=fun c hc=>by
  have:=Wlb h.e.u h.p hn hc v
  rwa [(Xqa hn hc).1,(Xqa hn hc).2] at this
 have hok:∀ c,ClsOK g.l c->ClsOK g.l (rnd (Xgm g.l) c):=fun c hc=>by
  rw[<- (Xqa hn hc).1];exact Yic hn c
 have hcn:∀ c,cnt (Xgm g.l) c<=g.l.length:=hn.f.parts.cnt_le
 have hgl:=hn.len
 refine Wi8 ?_
 simp only[go_sem]
 repeat' first|refine Kn rfl ?_|((first|refine Ka ?_|refine Kb ?_|refine Kv ?_|refine Ke ?_);simp only[go_sem])|refine Kf ?_|refine Kg ?_|apply Kp<;>intro _|((first|refine Kh ?_|refine Ki rfl ?_);simp only[or_self,Qs,Qt,Qu,Qv,Qw,Qx,Qy,Qz,Za,go_sem])
 refine Or.inr (Or.inr ⟨[0,1],vi (cnt (Xgm g.l) (Xfc g.l.length):Int),[pC g v,.row 1 v (Xag (rnd (Xgm g.l) (Xfc g.l.length)))],(by simp only[Xbo,Xf0,rnV,rnA,Xgk,rn0,Xgj,Xc5,Xf1,rnC,Xao,List.isEmpty_nil,reduceCtorEq,↓reduceIte,Qa,Qb,Qc,Qd,Qe,Qf,Qg,Qh,Qi,Qj,Qk,Ql,Qm,Qn,Qo,Qp,Qq,Qr];simp only[go_sem];exact⟨Yzy,hr _ Xzx⟩),Kg ?_⟩)
 simp only[go_sem]
 repeat' first|refine Kn rfl ?_|((first|refine Ka ?_|refine Kb ?_|refine Kv ?_|refine Ke ?_);simp only[go_sem])|refine Kf ?_|refine Kg ?_|apply Kp<;>intro _|((first|refine Kh ?_|refine Ki rfl ?_);simp only[or_self,Qs,Qt,Qu,Qv,Qw,Qx,Qy,Qz,Za,go_sem])
 refine Kt (fr 20 [(0,.one (.ptr 0 0)),(3,.one (.mvo (.func 71) false [.ptr 0 0])),(4,vi ((0:Nat):Int)),(5,vi (cnt (Xgm g.l) (Xfc g.l.length):Int))]) ?_
 refine Ku 2 ?_
 simp only[go_sem]
 refine Km (fun mz sz=>∃ (k n m:Nat) (c:List Int),mz=k/\Xhp (Xgm g.l) k n m c=Xaz g.l/\ClsOK g.l c/\g.l.length+1<=k+n/\m<=g.l.length/\n<=g.l.length/\sz=⟨fr 20 [(0,.one (.ptr 0 0)),(3,.one (.mvo (.func 71) false [.ptr 0 0])),(4,vi (n:Int)),(5,vi (m:Int))],[pC g v,.row 1 v (Xag c)]⟩) _ ⟨g.l.length+1,0,_,_,rfl,rfl,hok _ Xzx,by omega,hcn _,by omega,rfl⟩ ?_
 rintro k _ ⟨_,n,m,c,rfl,hp,hc,h1,h2,h3,rfl⟩
 simp only[go_sem]
 by_cases hlt:n < m
 ·obtain⟨k',rfl⟩:∃ k',k=k'+1:=⟨k - 1,by omega⟩
  simp only[Xhp] at hp
  rw[if_pos hlt] at hp
  have e1:decide ((m:Int) > (n:Int))=true:=decide_eq_true (by omega)
  repeat' first|refine Kn rfl ?_|((first|refine Ka ?_|refine Kb ?_|refine Kv ?_|refine Ke ?_);simp only[e1,go_sem])|refine Kf ?_|refine Kg ?_|apply Kp<;>intro _|((first|refine Kh ?_|refine Ki rfl ?_);simp only[e1,or_self,Qs,Qt,Qu,Qv,Qw,Qx,Qy,Qz,Za,go_sem])
  refine Or.inr (Or.inr ⟨[0,1],vi (cnt (Xgm g.l) c:Int),[pC g v,.row 1 v (Xag (rnd (Xgm g.l) c))],(by simp only[Xbo,Xf0,rnV,rnA,Xgk,rn0,Xgj,Xc5,Xf1,rnC,Xao,List.isEmpty_nil,reduceCtorEq,↓reduceIte,Qa,Qb,Qc,Qd,Qe,Qf,Qg,Qh,Qi,Qj,Qk,Ql,Qm,Qn,Qo,Qp,Qq,Qr];simp only[go_sem];exact⟨Yzy,hr _ hc⟩),Kg ?_⟩)
  simp only[go_sem]
  repeat' first|refine Kn rfl ?_|((first|refine Ka ?_|refine Kb ?_|refine Kv ?_|refine Ke ?_);simp only[go_sem])|refine Kf ?_|refine Kg ?_|apply Kp<;>intro _|((first|refine Kh ?_|refine Ki rfl ?_);simp only[or_self,Qs,Qt,Qu,Qv,Qw,Qx,Qy,Qz,Za,go_sem])
  refine Kt (fr 20 [(0,.one (.ptr 0 0)),(3,.one (.mvo (.func 71) false [.ptr 0 0])),(4,vi (m:Int)),(5,vi (cnt (Xgm g.l) c:Int))]) ?_
  refine Ku 2 ?_
  simp only[go_sem]
  exact Kl ⟨k',by omega,k',m,_,_,rfl,hp,hok _ hc,by omega,hcn _,by omega,rfl⟩
 ·rw[X1d hlt] at hp
  have e1:decide ((m:Int) > (n:Int))=false:=decide_eq_false (by omega)
  rw[hp]
  repeat' first|refine Kn rfl ?_|((first|refine Ka ?_|refine Kb ?_|refine Kv ?_|refine Ke ?_);simp only[e1,go_sem])|refine Kf ?_|refine Kg ?_|apply Kp<;>intro _|((first|refine Kh ?_|refine Ki rfl ?_);simp only[e1,or_self,Qs,Qt,Qu,Qv,Qw,Qx,Qy,Qz,Za,go_sem])
  all_goals trace_state
def cOf (g:Gr):List Int:=if chk g=none then Xaz g.l else []
theorem Xhh {g:Gr} (h:Good g):cOf g=Xaz g.l:=by unfold cOf;rw[if_pos h.c]
theorem Good.neat {g:Gr} (h:Good g) (hs:∀ x∈g.l,x.short):Neat g:=⟨h.fine,hs,Nat.le_trans h.len (by omega)⟩
theorem Yie (h:Env10 gp) (g:Gr) (hs:Xc7 g) (hst:∀ x∈g.l,x.short):Xak QP gp 14 [g.v] (.tup [.one (.d (.sl (Xag (cOf g)))),vi (Xfw g)]):=by
 refine Wyp ?_
 simp only[go_sem]
 have c1:Xak QP gp 36 [g.v] (.tup [vi ((chk g).getD (0,0)).1,vi (Xfw g)]):=Yai h.e g
 refine Xgz 15 ?_
 simp only[go_sem]
 by_cases hc:chk g=none
 ·have hg:Good g:=⟨hc,hs⟩
  have hn:=hg.neat hst
  rw[Xhh hg,Xbv hc]
  rw[Xbv hc] at c1
  repeat' first|refine Kn rfl ?_|((first|refine Ka ?_|refine Kb ?_|refine Kv ?_|refine Ke ?_);simp only[go_sem])|refine Kf ?_|refine Kg ?_|refine⟨_,c1,Kg ?_⟩|refine⟨_,⟨c1,rfl⟩,Kg ?_⟩|apply Kp<;>intro _|((first|refine Kh ?_|refine Ki rfl ?_);simp only[or_self,Qs,Qt,Qu,Qv,Qw,Qx,Qy,Qz,Za,go_sem])
  refine Or.inr ⟨[],.one (.ptr 1 0),[.row 1 0 (Xag (Xfc g.l.length)),.cells [.d (.int .i64 g.root),.d (.sl (nds g.l)),.own 0 0]],(by simp only[Xbo,Xf0,rnV,rnA,Xgk,rn0,Xgj,Xc5,Xf1,rnC,Xao,List.isEmpty_nil,reduceCtorEq,↓reduceIte,Qa,Qb,Qc,Qd,Qe,Qf,Qg,Qh,Qi,Qj,Qk,Ql,Qm,Qn,Qo,Qp,Qq,Qr];simp only[go_sem];exact⟨Wyz,W72 g hn.len⟩),Kg ?_⟩
  simp only[go_sem]
  repeat' first|refine Kn rfl ?_|((first|refine Ka ?_|refine Kb ?_|refine Kv ?_|refine Ke ?_);simp only[go_sem])|refine Kf ?_|refine Kg ?_|apply Kp<;>intro _|((first|refine Kh ?_|refine Ki rfl ?_);simp only[or_self,Qs,Qt,Qu,Qv,Qw,Qx,Qy,Qz,Za,go_sem])
  refine Or.inr (Or.inr ⟨[1,0],.one (.own 1 0),[pC g 0,.row 1 0 (Xag (Xaz g.l))],(by simp only[Xbo,Xf0,rnV,rnA,Xgk,rn0,Xgj,Xc5,Xf1,rnC,Xao,List.isEmpty_nil,reduceCtorEq,↓reduceIte,Qa,Qb,Qc,Qd,Qe,Qf,Qg,Qh,Qi,Qj,Qk,Ql,Qm,Qn,Qo,Qp,Qq,Qr];simp only[go_sem];exact⟨Wy5,Yrx h hn 0⟩),Kg ?_⟩)
  simp only[go_sem]
  repeat' first|((first|refine Kb ?_|refine Kv ?_);simp only[go_sem])|refine Kf ?_|refine Kg ?_
  refine Xar 0 ?_
  simp only[go_sem]
  repeat' first|refine Kn rfl ?_|((first|refine Ka ?_|refine Kb ?_|refine Kv ?_|refine Ke ?_);simp only[go_sem])|refine Kf ?_|refine Kg ?_|apply Kp<;>intro _|((first|refine Kh ?_|refine Ki rfl ?_);simp only[or_self,Qs,Qt,Qu,Qv,Qw,Qx,Qy,Qz,Za,go_sem])
  all_goals trace_state
 ·have he:=Xdc hc
  have e0:cOf g=[]:=by unfold cOf;rw[if_neg hc]
  rw[e0]
  generalize Xfw g=e at *
  repeat' first|refine Kn rfl ?_|((first|refine Ka ?_|refine Kb ?_|refine Kv ?_|refine Ke ?_);simp only[go_sem])|refine Kf ?_|refine Kg ?_|refine⟨_,c1,Kg ?_⟩|refine⟨_,⟨c1,rfl⟩,Kg ?_⟩|apply Kp<;>intro _|((first|refine Kh ?_|refine Ki rfl ?_);simp only[or_self,Qs,Qt,Qu,Qv,Qw,Qx,Qy,Qz,Za,go_sem])
  all_goals simp_all
end Go.Fw.L07
