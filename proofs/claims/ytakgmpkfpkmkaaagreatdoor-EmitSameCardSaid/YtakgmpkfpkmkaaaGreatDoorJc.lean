/- Chapter 7: kids as own rows. -/
import Derived.Test.YtakgmpkfpkmkaaaGreatDoorL07R
import Derived.Test.YtakgmpkfpkmkaaaGreatDoorJb
import Derived.Test.YtakgmpkfpkmkaaaGreatDoorL07L10Mini
import Derived.Test.YtakgmpkfpkmkaaaGreatDoorJa
import Derived.Test.YtakgmpkfpkmkaaaGreatDoorEa
set_option linter.all false
namespace Go.Fw
open Go
section
variable {S:Sx} {Y:Dyn} {k:List MI} {s:St} {a:Act} {w w':World} {H:Heap} {an:Anc} {F:Nat->Nat->Prop} {ms:List Nat}
theorem SatX.nil_row_v (h:SatX S Y s a w H an F ms) {u:Value} (hu:∃ A,u=.slice A 0 0) (sz ver:Nat) (hsz:0 < sz) :
  SatX S Y { s with own:=s.own++[.row sz ver []] } a w H (an.put s.own.length (ver,u)) (fun j b=>if j=s.own.length then False else F j b) ms:=by
 obtain⟨A,rfl⟩:=hu
 exact h.add_own (WKeep.refl w _) (fun _ hb=>hb.elim) ⟨rfl,⟨_,_,_,rfl⟩,hsz,by simp,by simp[lenMax],.inl ⟨rfl,⟨_,rfl⟩,fun _ hb=>hb⟩⟩
theorem Wgc (t sz ver:Nat) (hsz:0 < sz) (ht:Xbw s.fr t=.one .nil) (h:G S k ⟨Xem s.fr t (.one (.own s.own.length ver)),s.own++[.row sz ver []]⟩):G S k s:=by
 rintro Y a w ⟨H,an,F,ms,hs⟩
 obtain⟨u,hu,hd⟩:=hs.fr.get (Xbl _ _ _ ht (by simp))
 have hd:∃ A,u=.slice A 0 0:=hd
 have h1:=hs.nil_row_v hd sz ver hsz
 refine h Y a w ⟨H,_,_,ms,h1.reframe ?_⟩
 have:=Xcw s.fr a.tmps.toList t (.one (.own s.own.length ver)) u h1.fr (by
  obtain⟨A,rfl⟩:=hd
  exact⟨rfl,(ver,.slice A 0 0),by simp[Anc.put],Nat.le_refl _,fun _=>rfl⟩)
 rwa [Xn0 hu] at this
end
end Go.Fw
namespace Go.Fw.L07
open Go Go.Fw
open Go.Fw.Sh renaming intro->Kg
open Go.Fw renaming Xkl->Ka,Xfi->Kb,Xko->Kv,Xfj->Ke,Xfl->Kf,Xkn->Kh,Xkm->Ki,Xdx->Kt,Xkg->Kk,Xf0->Ku,Xdw->Kl,Xfz->Km,Gx->Kn,Gw->Ko
open Int renaming natCast_nonneg->Kq
open List renaming getElem?_eq_some_iff->Kr
open And renaming intro->Kp
open Go.Proofs.Tryz renaming prog->QP
open Nat renaming reduceAdd->Qa,reduceSub->Qb,reduceMul->Qc,reduceLeDiff->Qd,reduceLT->Qe,reduceEqDiff->Qf
open Int renaming reduceToNat->Qg,reduceLT->Qh,reduceLE->Qi,reduceGT->Qj,reduceGE->Qk,reduceEq->Ql,reduceNe->Qm,reduceBEq->Qn,reduceBNe->Qo,reduceAdd->Qp,reduceSub->Qq,reduceNeg->Qr
open Go.Fw.V.one renaming injEq->Qs
open Go.Fw.V.agg renaming injEq->Qt
open Go.Fw.V.tup renaming injEq->Qu
open Go.Fw.A.d renaming injEq->Qv
open Go.Fw.D.bool renaming injEq->Qw
open Go.Fw.D.int renaming injEq->Qx
open Go.Fw.D.str renaming injEq->Qy
open Go.Fw.D.sl renaming injEq->Qz
open List.cons renaming injEq->Za
set_option maxRecDepth 4000
variable {gp:Heap}
theorem Yhr (l:List Int) (hl:l.length < 1000000):Tri QP gp 76 [.one (.d (.sl (Xaf l)))] [] fun r post=>r=.one (.own 0 1)/\post=[.row 1 1 (Xaf l)]:=by
 refine Y3q ?_
 simp only[go_sem]
 cases l with
 | nil =>
  refine Wh4 0 rfl fun q c=>?_
  cases q with
  | none =>
   simp only[go_sem]
   repeat' first|refine Kn rfl ?_|((first|refine Ka ?_|refine Kb ?_|refine Kv ?_|refine Ke ?_);simp only[Xb1,Xb2,go_sem])|refine Kf ?_|refine Kg ?_|apply Kp<;>intro _|((first|refine Kh ?_|refine Ki rfl ?_);simp only[Xb1,Xb2,or_self,Qs,Qt,Qu,Qv,Qw,Qx,Qy,Qz,Za,go_sem])
   repeat' first|refine Kn rfl ?_|((first|refine Ka ?_|refine Kb ?_|refine Kv ?_);simp only[Xch,go_sem])|refine Kf ?_|refine Kg ?_
   refine Wgc 2 1 1 (by decide) rfl ?_
   simp only[go_sem]
   repeat' first|refine Kn rfl ?_|((first|refine Ka ?_|refine Kb ?_|refine Kv ?_|refine Ke ?_);simp only[Xb1,Xb2,Xch,Xci,go_sem])|refine Kf ?_|refine Kg ?_|apply Kp<;>intro _|((first|refine Kh ?_|refine Ki rfl ?_);simp only[Xb1,Xb2,Xch,Xci,or_self,Qs,Qt,Qu,Qv,Qw,Qx,Qy,Qz,Za,go_sem])
  | some q =>
   simp only[go_sem]
   refine Yz4 ?_
   repeat' first|refine Kn rfl ?_|((first|refine Ka ?_|refine Kb ?_|refine Kv ?_|refine Ke ?_);simp only[Xb1,Xb2,go_sem])|refine Kf ?_|refine Kg ?_|apply Kp<;>intro _|((first|refine Kh ?_|refine Ki rfl ?_);simp only[Xb1,Xb2,or_self,Qs,Qt,Qu,Qv,Qw,Qx,Qy,Qz,Za,go_sem])
   refine X3u 0 rfl ?_
   simp only[go_sem]
   repeat' first|refine Kn rfl ?_|((first|refine Ka ?_|refine Kb ?_|refine Kv ?_|refine Ke ?_);simp only[Xb1,Xb2,Xch,Xci,go_sem])|refine Kf ?_|refine Kg ?_|apply Kp<;>intro _|((first|refine Kh ?_|refine Ki rfl ?_);simp only[Xb1,Xb2,Xch,Xci,or_self,Qs,Qt,Qu,Qv,Qw,Qx,Qy,Qz,Za,go_sem])
   refine⟨by simp,by simp[lenMax],?_⟩
   repeat' first|refine Kn rfl ?_|((first|refine Ka ?_|refine Kb ?_|refine Kv ?_|refine Ke ?_);simp only[Xb1,Xb2,Xch,Xci,go_sem])|refine Kf ?_|refine Kg ?_|apply Kp<;>intro _|((first|refine Kh ?_|refine Ki rfl ?_);simp only[Xb1,Xb2,Xch,Xci,or_self,Qs,Qt,Qu,Qv,Qw,Qx,Qy,Qz,Za,go_sem])
 | cons x l =>
  simp only[go_sem]
  repeat' first|refine Kn rfl ?_|((first|refine Ka ?_|refine Kb ?_|refine Kv ?_|refine Ke ?_);simp only[Xb1,Xb2,Xch,Xci,go_sem])|refine Kf ?_|refine Kg ?_|apply Kp<;>intro _|((first|refine Kh ?_|refine Ki rfl ?_);simp only[Xb1,Xb2,Xch,Xci,or_self,Qs,Qt,Qu,Qv,Qw,Qx,Qy,Qz,Za,go_sem])
  refine⟨by simp,by simp at hl;omega,by simp[lenMax] at hl ⊢;omega,?_⟩
  repeat' first|refine Kn rfl ?_|((first|refine Ka ?_|refine Kb ?_|refine Kv ?_|refine Ke ?_);simp only[Xb1,Xb2,Xch,Xci,go_sem])|refine Kf ?_|refine Kg ?_|apply Kp<;>intro _|((first|refine Kh ?_|refine Ki rfl ?_);simp only[Xb1,Xb2,Xch,Xci,or_self,Qs,Qt,Qu,Qv,Qw,Qx,Qy,Qz,Za,go_sem])
def Ypz (x:Nd):Nat:=if x.k=1 then 1 else (Xac x).length
theorem Yp0 (g:Gr) (i:Int) (hg:Xc4 g):Tri QP gp 51 [g.v,vi i] [] fun r post=>r=.tup [.one (.own 1 (Ypz (Xbb g.l i))),vi (atE g.l i)]/\post=[.dead,.row 1 (Ypz (Xbb g.l i)) (Xaf (Xae (Xbb g.l i)))]:=by
 refine Y2o ?_
 simp only[go_sem]
 refine Xfk 28 ?_
 simp only[go_sem]
 obtain⟨h1,h2⟩:=hg.at i
 have hz:=Xx0 g.l i
 have ha:=Xtw (gp:=gp) g i
 generalize Xbb g.l i=x at *
 generalize atE g.l i=e at *
 generalize atN g.l i=n at *
 have hq:=Xcp x
 repeat' first|refine Kn rfl ?_|((first|refine Ka ?_|refine Kb ?_|refine Kv ?_|refine Ke ?_);simp only[Xbm,Xbn,Xbo,Xbp,Xbq,Xa0,Xat,Xa1,Xa2,Xa3,Xa4,go_sem])|refine Kf ?_|refine Kg ?_|refine⟨_,ha,Kg ?_⟩|refine⟨_,⟨ha,rfl⟩,Kg ?_⟩|refine⟨_,X1b x n (by omega),Kg ?_⟩|refine⟨_,⟨X1b x n (by omega),rfl⟩,Kg ?_⟩|apply Kp<;>intro _|((first|refine Kh ?_|refine Ki rfl ?_);simp only[Xbm,Xbn,Xbo,Xbp,Xbq,Xa0,Xat,Xa1,Xa2,Xa3,Xa4,or_self,Qs,Qt,Qu,Qv,Qw,Qx,Qy,Qz,Za,go_sem])
 ·rename_i h
  have h:x.k=1:=by simpa using h
  have hk:Xae x=x.kids:=by unfold Xae;rw[if_pos h]
  have hv:Ypz x=1:=by unfold Ypz;rw[if_pos h]
  rw[hk,hv]
  refine Or.inr ⟨[],.one (.own 0 1),[.row 1 1 (Xaf x.kids)],(by simp only[Xaw,Xcv,rnV,rnA,Xc1,rn0,Xc0,Xbz,Xcx,rnC,Xaj,List.isEmpty_nil,reduceCtorEq,↓reduceIte,Qa,Qb,Qc,Qd,Qe,Qf,Qg,Qh,Qi,Qj,Qk,Ql,Qm,Qn,Qo,Qp,Qq,Qr];simp only[go_sem];exact⟨Yua,Yhr x.kids (by omega)⟩),Kg ?_⟩
  simp only[go_sem]
  refine Ku 2 ?_
  simp only[go_sem]
  refine Xa6 0 ?_
  simp only[go_sem]
  repeat' first|refine Kn rfl ?_|((first|refine Ka ?_|refine Kb ?_|refine Kv ?_|refine Ke ?_);simp only[Xbm,Xbn,Xbo,Xbp,Xbq,Xa0,Xat,Xa1,Xa2,Xa3,Xa4,go_sem])|refine Kf ?_|refine Kg ?_|apply Kp<;>intro _|((first|refine Kh ?_|refine Ki rfl ?_);simp only[Xbm,Xbn,Xbo,Xbp,Xbq,Xa0,Xat,Xa1,Xa2,Xa3,Xa4,or_self,Qs,Qt,Qu,Qv,Qw,Qx,Qy,Qz,Za,go_sem])
 ·rename_i h
  have h:¬ x.k=1:=by simpa using h
  have hk:Xae x=(Xac x).map Pr.kid:=by unfold Xae;rw[if_neg h]
  have hv:Ypz x=(Xac x).length:=by unfold Ypz;rw[if_neg (h)]
  rw[hk,hv]
  refine Xh9 8 1 (by decide) rfl ?_
  simp only[go_sem]
  refine Kt (fr 45 [(7,vi e),(8,.one (.own 1 (0:Nat))),(31,.one (.d (.sl (prs (Xac x))))),(32,vi (Xac x).length),(33,vi (0:Nat))]) ?_
  refine Km (fun mz sz=>∃ i:Nat,i<=(Xac x).length/\mz=(Xac x).length - i/\(0<=i)/\sz=⟨fr 45 [(7,vi e),(8,.one (.own 1 i)),(31,.one (.d (.sl (prs (Xac x))))),(32,vi (Xac x).length),(33,vi i)],[.cells _,.row 1 i (Xaf (((Xac x).map Pr.kid).take i))]⟩) ((Xac x).length) ⟨0,Nat.zero_le _,(Nat.sub_zero _).symm,?_,rfl⟩ ?_
  ·exact Nat.zero_le _
  rintro _ _ ⟨i,hi,rfl,-,rfl⟩
  simp only[go_sem]
  by_cases hil:i < (Xac x).length
  ·obtain⟨p,hp⟩:=Xal hil
   repeat' first|refine Kn rfl ?_|((first|refine Ka ?_|refine Kb ?_|refine Kv ?_|refine Ke ?_);simp only[Xbm,Xbn,Xbo,Xbp,Xbq,Xa0,Xat,Xa1,Xa2,Xa3,Xa4,go_sem])|refine Kf ?_|refine Kg ?_|refine⟨_,⟨Kq _,(by first|exact Xad hp|(rw[Int.toNat_natCast];exact Xad hp)),rfl⟩,Kg ?_⟩|apply Kp<;>intro _|((first|refine Kh ?_|refine Ki rfl ?_);simp only[Xbm,Xbn,Xbo,Xbp,Xbq,Xa0,Xat,Xa1,Xa2,Xa3,Xa4,or_self,Qs,Qt,Qu,Qv,Qw,Qx,Qy,Qz,Za,go_sem])
   ·refine⟨by simp,by simp;omega,by simp[lenMax];omega,?_⟩
    rw[show Xaf (((Xac x).map Pr.kid).take i)++[_]=Xaf (((Xac x).map Pr.kid).take (i+1)) from Xes (by rw[List.getElem?_map,hp];rfl)]
    repeat' first|refine Kn rfl ?_|((first|refine Ka ?_|refine Kb ?_|refine Kv ?_|refine Ke ?_);simp only[Xbm,Xbn,Xbo,Xbp,Xbq,Xa0,Xat,Xa1,Xa2,Xa3,Xa4,go_sem])|refine Kf ?_|refine Kg ?_|apply Kp<;>intro _|((first|refine Kh ?_|refine Ki rfl ?_);simp only[Xbm,Xbn,Xbo,Xbp,Xbq,Xa0,Xat,Xa1,Xa2,Xa3,Xa4,or_self,Qs,Qt,Qu,Qv,Qw,Qx,Qy,Qz,Za,go_sem])
    refine⟨Xaq hil (by unfold lenMax;omega),?_⟩
    refine Kt (fr 45 [(7,vi e),(8,.one (.own 1 (i+1))),(31,.one (.d (.sl (prs (Xac x))))),(32,vi (Xac x).length),(33,vi (i+1))]) ?_
    refine Ku 2 ?_
    simp only[go_sem]
    refine Kl ⟨(Xac x).length - (i+1),by omega,i+1,by omega,rfl,?_,rfl⟩
    exact Nat.zero_le _
   ·omega
  ·repeat refine Ko rfl ?_
   refine Ka ?_
   simp only[Xat,go_sem]
   repeat refine Ko rfl ?_
   refine Ke ?_
   simp only[go_sem]
   refine⟨fun h=>by exfalso;omega,fun _=>Xg4 rfl ?_⟩
   obtain rfl:i=(Xac x).length:=by omega
   rw[List.take_of_length_le (by simp)]
   refine Xa6 0 ?_
   simp only[go_sem]
   repeat' first|refine Kn rfl ?_|((first|refine Ka ?_|refine Kb ?_|refine Kv ?_|refine Ke ?_);simp only[Xbm,Xbn,Xbo,Xbp,Xbq,Xa0,Xat,Xa1,Xa2,Xa3,Xa4,go_sem])|refine Kf ?_|refine Kg ?_|apply Kp<;>intro _|((first|refine Kh ?_|refine Ki rfl ?_);simp only[Xbm,Xbn,Xbo,Xbp,Xbq,Xa0,Xat,Xa1,Xa2,Xa3,Xa4,or_self,Qs,Qt,Qu,Qv,Qw,Qx,Qy,Qz,Za,go_sem])
 ·rename_i h
  have h:x=Nd.zero:=hz (by intro h2;simp[h2] at h)
  have hk:Xae x=(Xac x).map Pr.kid:=by rw[h];rfl
  have hv:Ypz x=(Xac x).length:=by unfold Ypz;rw[if_neg (by rw[h];decide)]
  rw[hk,hv]
  refine Xh9 8 1 (by decide) rfl ?_
  simp only[go_sem]
  refine Kt (fr 45 [(7,vi e),(8,.one (.own 1 (0:Nat))),(31,.one (.d (.sl (prs (Xac x))))),(32,vi (Xac x).length),(33,vi (0:Nat))]) ?_
  refine Km (fun mz sz=>∃ i:Nat,i<=(Xac x).length/\mz=(Xac x).length - i/\(0<=i)/\sz=⟨fr 45 [(7,vi e),(8,.one (.own 1 i)),(31,.one (.d (.sl (prs (Xac x))))),(32,vi (Xac x).length),(33,vi i)],[.cells _,.row 1 i (Xaf (((Xac x).map Pr.kid).take i))]⟩) ((Xac x).length) ⟨0,Nat.zero_le _,(Nat.sub_zero _).symm,?_,rfl⟩ ?_
  ·exact Nat.zero_le _
  rintro _ _ ⟨i,hi,rfl,-,rfl⟩
  simp only[go_sem]
  by_cases hil:i < (Xac x).length
  ·obtain⟨p,hp⟩:=Xal hil
   repeat' first|refine Kn rfl ?_|((first|refine Ka ?_|refine Kb ?_|refine Kv ?_|refine Ke ?_);simp only[Xbm,Xbn,Xbo,Xbp,Xbq,Xa0,Xat,Xa1,Xa2,Xa3,Xa4,go_sem])|refine Kf ?_|refine Kg ?_|refine⟨_,⟨Kq _,(by first|exact Xad hp|(rw[Int.toNat_natCast];exact Xad hp)),rfl⟩,Kg ?_⟩|apply Kp<;>intro _|((first|refine Kh ?_|refine Ki rfl ?_);simp only[Xbm,Xbn,Xbo,Xbp,Xbq,Xa0,Xat,Xa1,Xa2,Xa3,Xa4,or_self,Qs,Qt,Qu,Qv,Qw,Qx,Qy,Qz,Za,go_sem])
   ·refine⟨by simp,by simp;omega,by simp[lenMax];omega,?_⟩
    rw[show Xaf (((Xac x).map Pr.kid).take i)++[_]=Xaf (((Xac x).map Pr.kid).take (i+1)) from Xes (by rw[List.getElem?_map,hp];rfl)]
    repeat' first|refine Kn rfl ?_|((first|refine Ka ?_|refine Kb ?_|refine Kv ?_|refine Ke ?_);simp only[Xbm,Xbn,Xbo,Xbp,Xbq,Xa0,Xat,Xa1,Xa2,Xa3,Xa4,go_sem])|refine Kf ?_|refine Kg ?_|apply Kp<;>intro _|((first|refine Kh ?_|refine Ki rfl ?_);simp only[Xbm,Xbn,Xbo,Xbp,Xbq,Xa0,Xat,Xa1,Xa2,Xa3,Xa4,or_self,Qs,Qt,Qu,Qv,Qw,Qx,Qy,Qz,Za,go_sem])
    refine⟨Xaq hil (by unfold lenMax;omega),?_⟩
    refine Kt (fr 45 [(7,vi e),(8,.one (.own 1 (i+1))),(31,.one (.d (.sl (prs (Xac x))))),(32,vi (Xac x).length),(33,vi (i+1))]) ?_
    refine Ku 2 ?_
    simp only[go_sem]
    refine Kl ⟨(Xac x).length - (i+1),by omega,i+1,by omega,rfl,?_,rfl⟩
    exact Nat.zero_le _
   ·omega
  ·repeat refine Ko rfl ?_
   refine Ka ?_
   simp only[Xat,go_sem]
   repeat refine Ko rfl ?_
   refine Ke ?_
   simp only[go_sem]
   refine⟨fun h=>by exfalso;omega,fun _=>Xg4 rfl ?_⟩
   obtain rfl:i=(Xac x).length:=by omega
   rw[List.take_of_length_le (by simp)]
   refine Xa6 0 ?_
   simp only[go_sem]
   repeat' first|refine Kn rfl ?_|((first|refine Ka ?_|refine Kb ?_|refine Kv ?_|refine Ke ?_);simp only[Xbm,Xbn,Xbo,Xbp,Xbq,Xa0,Xat,Xa1,Xa2,Xa3,Xa4,go_sem])|refine Kf ?_|refine Kg ?_|apply Kp<;>intro _|((first|refine Kh ?_|refine Ki rfl ?_);simp only[Xbm,Xbn,Xbo,Xbp,Xbq,Xa0,Xat,Xa1,Xa2,Xa3,Xa4,or_self,Qs,Qt,Qu,Qv,Qw,Qx,Qy,Qz,Za,go_sem])
abbrev pD (g:Gr) (c:List Int):V:=.one (.d (.bx [.int .i64 g.root,.sl (nds g.l),.sl (Xaf c)]))
theorem X10 {l:List Sc} {i:Nat} {x:Sc} (h:l[i]?=some x):Xg0 (l.take i)++(bT (scB x)++⟨#[44]⟩:ByteArray).data.toList=Xg0 (l.take (i+1)):=by
 have e:(bT (scB x)++⟨#[44]⟩:ByteArray)=bT (scB x++[44]):=Xoc _ [44]
 rw[e]
 unfold Xg0
 rw[List.take_succ,h,List.flatMap_append]
 simp[bT]
theorem Yhs:∀ l:List Int,(l.flatMap pcR).length<=4*l.length
 | []=>Nat.le_refl _
 | r::l=>by
  have h1:=Yga r
  have h2:=Yhs l
  simp only[List.flatMap_cons,List.length_append,List.length_cons]
  omega
theorem Yht (s:ByteArray):∀ (f p:Nat),(sgF s f p).length<=f
 | 0,p=>by simp[sgF]
 | f+1,p=>by
  have:=Yht s f (p+(Utf8.decode s p).2)
  simp only[sgF]
  split <;> simp <;> omega
theorem Xmx {x:Sc} (h:prR Xak x=true) (hs:x.short):(scB x).length<=1700000:=by
 have hk:=Xcd h
 unfold Xme at hk
 unfold scB
 split
 ·simp
 ·split
  ·cases decide (x.n=1) <;> simp[Xf7]
  ·split
   ·have:=Lib.itoa_length_le x.n (by omega) (by omega)
    omega
   ·unfold Xub sgS
    have h1:=Xit ((sgF x.s x.s.size 0).flatMap pcR)
    have h2:=Yhs (sgF x.s x.s.size 0)
    have h3:=Yht x.s x.s.size 0
    unfold Sc.short at hs
    simp only[List.length_cons,List.length_append,List.length_nil]
    omega
theorem Xsi:∀ (l:List Sc),(∀ x∈l,prR Xak x=true/\x.short)->(Xg0 l).length<=1700001*l.length
 | [],_=>Nat.le_refl _
 | x::l,h=>by
  have h0:=h x (by simp)
  have h1:=Xmx h0.1 h0.2
  have h2:=Xsi l fun m hm=>h m (by simp[hm])
  unfold Xg0 at *
  simp only[List.flatMap_cons,List.length_append,List.length_cons,List.length_nil]
  omega
theorem Wug (hU:Xpg gp) (hP:Xng gp) (g:Gr) (c:List Int) (hg:Xc4 g) (i:Int) (hk:∀ x∈Xai (Xbb g.l i),prR Xak x=true/\x.short) :
  Does QP gp 201 [pD g c,vi i] (vs (bT (Xg0 (Xai (Xbb g.l i))))):=by
 refine Wec ?_
 simp only[go_sem]
 have ck:=keys (gp:=gp) g i hg
 have hl:(Xai (Xbb g.l i)).length<=12:=by
  obtain⟨h1,h2⟩:=hg.at i
  have:=Xcp (Xbb g.l i)
  unfold Xai;rw[List.length_map];omega
 generalize Xai (Xbb g.l i)=l at *
 generalize atE g.l i=e at *
 repeat' first|refine Kn rfl ?_|((first|refine Ka ?_|refine Kb ?_|refine Kv ?_|refine Ke ?_);simp only[go_sem])|refine Kf ?_|refine Kg ?_|refine⟨_,ck,Kg ?_⟩|refine⟨_,⟨ck,rfl⟩,Kg ?_⟩|apply Kp<;>intro _|((first|refine Kh ?_|refine Ki rfl ?_);simp only[or_self,Qs,Qt,Qu,Qv,Qw,Qx,Qy,Qz,Za,go_sem])
 refine Kt (fr 37 [(7,.one (.ptr 0 0)),(21,.one (.d (.sl (scs l)))),(22,vi l.length),(23,vi ((0:Nat):Int))]) ?_
 refine Km (fun mz sz=>∃ i:Nat,i<=l.length/\mz=l.length - i/\sz=⟨fr 37 [(7,.one (.ptr 0 0)),(21,.one (.d (.sl (scs l)))),(22,vi l.length),(23,vi (i:Int))],[.bld TB (.own 1 i),.brow TU i (Xg0 (l.take i))]⟩) l.length ⟨0,Nat.zero_le _,rfl,by simp[Xg0]⟩ ?_
 rintro _ _ ⟨i,hi,rfl,rfl⟩
 simp only[go_sem]
 have hlen:=Xsi (l.take i) fun n hm=>hk n (List.mem_of_mem_take hm)
 have hlt:(l.take i).length<=12:=by simp;omega
 by_cases hil:i < l.length
 ·obtain⟨x,hx⟩:=Xal hil
  have h0:=hk x (List.mem_of_getElem? hx)
  have c1:=Ygc hU hP x h0.1 h0.2
  have hit:=Xmx h0.1 h0.2
  have hsz:(bT (scB x)++(⟨#[44]⟩:ByteArray)).size<=1700001:=by rw[Xzk,Xp0];simp[ByteArray.size];omega
  have e1:decide ((i:Int) < (l.length:Int))=true:=decide_eq_true (by omega)
  repeat' first|refine Kn rfl ?_|((first|refine Ka ?_|refine Kb ?_|refine Kv ?_|refine Ke ?_);simp only[e1,go_sem])|refine Kf ?_|refine Kg ?_|refine⟨_,c1,Kg ?_⟩|refine⟨_,⟨c1,rfl⟩,Kg ?_⟩|refine⟨_,⟨Kq _,(by first|exact Xad hx|(rw[Int.toNat_natCast];exact Xad hx)),rfl⟩,Kg ?_⟩|apply Kp<;>intro _|((first|refine Kh ?_|refine Ki rfl ?_);simp only[e1,or_self,Qs,Qt,Qu,Qv,Qw,Qx,Qy,Qz,Za,go_sem])
  refine⟨by rw[Xp0];simp;omega,?_⟩
  have bW:=Xmt (gp:=gp) (ver:=i) (bs:=Xg0 (l.take i)) (s:=bT (scB x)++⟨#[44]⟩) (by omega)
  have hsn:=X10 hx
  generalize (bT (scB x)++⟨#[44]⟩:ByteArray)=w at *
  refine Or.inr (Or.inr ⟨[0,1],.tup [vi w.size,.one (.d .nilI)],[.bld TB (.own 1 (i+1)),.brow TU (i+1) (Xg0 (l.take i)++w.data.toList)],(by simp only[Xaw,Xcv,rnV,rnA,Xc1,rn0,Xc0,Xbz,Xcx,rnC,Xaj,List.isEmpty_nil,reduceCtorEq,↓reduceIte,Qa,Qb,Qc,Qd,Qe,Qf,Qg,Qh,Qi,Qj,Qk,Ql,Qm,Qn,Qo,Qp,Qq,Qr];simp only[go_sem];exact⟨Yb0,bW⟩),Kg ?_⟩)
  simp only[go_sem]
  rw[hsn]
  refine Kt (fr 37 [(7,.one (.ptr 0 0)),(21,.one (.d (.sl (scs l)))),(22,vi l.length),(23,vi (i:Int))]) ?_
  refine Ku 2 ?_
  simp only[go_sem]
  repeat' first|refine Kn rfl ?_|((first|refine Ka ?_|refine Kb ?_|refine Kv ?_|refine Ke ?_);simp only[go_sem])|refine Kf ?_|refine Kg ?_|apply Kp<;>intro _|((first|refine Kh ?_|refine Ki rfl ?_);simp only[or_self,Qs,Qt,Qu,Qv,Qw,Qx,Qy,Qz,Za,go_sem])
  refine⟨Xaq hil (by unfold lenMax;omega),?_⟩
  refine Kt (fr 37 [(7,.one (.ptr 0 0)),(21,.one (.d (.sl (scs l)))),(22,vi l.length),(23,vi (i+1))]) ?_
  exact Kl ⟨l.length - (i+1),by omega,i+1,by omega,rfl,rfl⟩
 ·obtain rfl:i=l.length:=by omega
  rw[List.take_of_length_le (Nat.le_refl _)]
  have e1:decide ((l.length:Int) < (l.length:Int))=false:=decide_eq_false (by omega)
  repeat' first|refine Kn rfl ?_|((first|refine Ka ?_|refine Kb ?_|refine Kv ?_|refine Ke ?_);simp only[e1,go_sem])|refine Kf ?_|refine Kg ?_|apply Kp<;>intro _|((first|refine Kh ?_|refine Ki rfl ?_);simp only[e1,or_self,Qs,Qt,Qu,Qv,Qw,Qx,Qy,Qz,Za,go_sem])
  refine Or.inr (Or.inr ⟨[0,1],vs (bT (Xg0 l)),[.dead,.dead],(by simp only[Xaw,Xcv,rnV,rnA,Xc1,rn0,Xc0,Xbz,Xcx,rnC,Xaj,List.isEmpty_nil,reduceCtorEq,↓reduceIte,Qa,Qb,Qc,Qd,Qe,Qf,Qg,Qh,Qi,Qj,Qk,Ql,Qm,Qn,Qo,Qp,Qq,Qr];simp only[go_sem];exact⟨by kernel_rfl,Xgq⟩),Kg ?_⟩)
  simp only[go_sem]
  repeat' first|refine Kn rfl ?_|((first|refine Ka ?_|refine Kb ?_|refine Kv ?_|refine Ke ?_);simp only[go_sem])|refine Kf ?_|refine Kg ?_|apply Kp<;>intro _|((first|refine Kh ?_|refine Ki rfl ?_);simp only[or_self,Qs,Qt,Qu,Qv,Qw,Qx,Qy,Qz,Za,go_sem])
def Xdi (c:List Int) (i:Int):Int:=c[i.toNat]?.getD 0
structure SayT where
 k:Int
 x:Sc
 ks:List UInt8
 ns:List UInt8
 deriving DecidableEq
def Wgd (c:List Int) (x:Nd):SayT:=⟨x.k,x.x,Xg0 (Xai x),Xgz ((Xae x).map (Xdi c))⟩
abbrev Wge (s:SayT):V:=.agg [.d (.int .i64 s.k),.d (.int .i64 s.x.k),.d (.int .i64 s.x.n),.d (.str s.x.s),.d (.str (bT s.ks)),.d (.str (bT s.ns))]
def X2h (c l:List Int) (i:Nat):List Int:=(l.take i).map (Xdi c)++l.drop i
theorem Wgf (c l:List Int) (i:Nat) (h:i<=l.length):(X2h c l i).length=l.length:=by simp[X2h];omega
theorem Wuh {c l:List Int} {i:Nat} {j:Int} (h:l[i]?=some j):(X2h c l i)[i]?=some j:=by
 have:=(Kr.1 h).1
 unfold X2h
 rw[List.getElem?_append_right (by rw[List.length_map,List.length_take];omega)]
 simp only[List.getElem?_drop,List.length_map,List.length_take]
 rw[show i+(i - min i l.length)=i by omega,h]
theorem Wgg {c l:List Int} {i:Nat} {j y:Int} (h:l[i]?=some j) (hy:c[j.toNat]?=some y):(Xaf (X2h c l i)).set i [.int .i64 y]=Xaf (X2h c l (i+1)):=by
 have hi:=(Kr.1 h).1
 have e:Xdi c j=y:=by unfold Xdi;rw[hy];rfl
 have:Xaf (X2h c l i)=(Xaf ((l.take i).map (Xdi c)))++([.int .i64 j]::Xaf (l.drop (i+1))):=by
  unfold X2h
  rw[List.drop_eq_getElem_cons hi]
  have:l[i]=j:=by rw[List.getElem?_eq_getElem hi] at h;exact Option.some.inj h
  simp[Xaf,this]
 rw[this,List.set_append_right _ _ (by simp[Xaf];omega)]
 have hz:i - (Xaf ((l.take i).map (Xdi c))).length=0:=by simp[Xaf];omega
 rw[hz,List.set_cons_zero]
 unfold X2h
 rw[List.take_succ,h]
 simp[Xaf,e]
theorem Xef {l:List Int} {i:Nat} {x:Int} (h:l[i]?=some x):(Xaf l)[i]?=some [.int .i64 x]:=by rw[List.getElem?_map,h];rfl
theorem Xul {l:List Nd} {i:Nat} {x:Nd} (h:l[i]?=some x):(nds l)[i]?=some x.ds:=by rw[List.getElem?_map,h];rfl
theorem Wui (hU:Xpg gp) (hP:Xng gp) (g:Gr) (c:List Int) (hg:Xc4 g) (m:Int) (hi:inL g.l m) (hk:∀ x∈Xai (Xbb g.l m),prR Xak x=true/\x.short)
  (hc:∀ j∈Xae (Xbb g.l m),0<=j/\∃ x,c[j.toNat]?=some x/\okI x):Does QP gp 186 [pD g c,vi m] (Wge (Wgd c (Xbb g.l m))):=by
 refine Wd3 ?_
 simp only[go_sem]
 refine Xfk 15 ?_
 simp only[go_sem]
 have hx:=Yeg hi
 have hi0:=hi.1
 have ck:=Yp0 (gp:=gp) g m hg
 have hl:=Xdt (Xbb g.l m) 12 (hg.at m)
 have c1:=Wug hU hP g c hg m hk
 have c2:=Weu hP ((Xae (Xbb g.l m)).map (Xdi c)) (fun n hn=>by
  obtain⟨j,hj,rfl⟩:=List.mem_map.1 hn
  obtain⟨_,x,h1,h2⟩:=hc j hj
  unfold Xdi;rw[h1];exact h2) (by simp;omega)
 unfold Wgd
 generalize Xbb g.l m=x at *
 generalize Xae x=l at *
 generalize Ypz x=v at *
 generalize atE g.l m=e at *
 repeat' first|refine Kn rfl ?_|((first|refine Ka ?_|refine Kb ?_|refine Kv ?_|refine Ke ?_);simp only[go_sem])|refine Kf ?_|refine Kg ?_|apply Kp<;>intro _|((first|refine Kh ?_|refine Ki rfl ?_);simp only[or_self,Qs,Qt,Qu,Qv,Qw,Qx,Qy,Qz,Za,go_sem])
 refine Or.inr ⟨[],.tup [.one (.own 1 v),vi e],[.dead,.row 1 v (Xaf l)],(by simp only[Xaw,Xcv,rnV,rnA,Xc1,rn0,Xc0,Xbz,Xcx,rnC,Xaj,List.isEmpty_nil,reduceCtorEq,↓reduceIte,Qa,Qb,Qc,Qd,Qe,Qf,Qg,Qh,Qi,Qj,Qk,Ql,Qm,Qn,Qo,Qp,Qq,Qr];simp only[go_sem];exact⟨Ys2,ck⟩),Kg ?_⟩
 simp only[go_sem]
 repeat' first|refine Kn rfl ?_|((first|refine Ka ?_|refine Kb ?_|refine Kv ?_|refine Ke ?_);simp only[go_sem])|refine Kf ?_|refine Kg ?_|apply Kp<;>intro _|((first|refine Kh ?_|refine Ki rfl ?_);simp only[or_self,Qs,Qt,Qu,Qv,Qw,Qx,Qy,Qz,Za,go_sem])
 refine Kt (fr 60 [(0,pD g c),(1,vi m),(4,.one (.ptr 0 0)),(5,.one (.own 2 v)),(18,.one (.own 2 v)),(19,vi l.length),(20,vi ((0:Nat):Int))]) ?_
 refine Ku 3 ?_
 simp only[go_sem]
 refine Kt (fr 60 [(0,pD g c),(1,vi m),(4,.one (.ptr 0 0)),(5,.one (.own 2 v)),(18,.one (.own 2 v)),(19,vi l.length),(20,vi (0:Nat))]) ?_
 refine Km (fun mz sz=>∃ i:Nat,i<=l.length/\mz=l.length - i/\(0<=i)/\sz=⟨fr 60 [(0,pD g c),(1,vi m),(4,.one (.ptr 0 0)),(5,.one (.own 2 v)),(18,.one (.own 2 v)),(19,vi l.length),(20,vi i)],[.cells [.d (.int .i64 0),.d (.int .i64 0),.d (.int .i64 0),.d (.str ⟨#[]⟩),.d (.str ⟨#[]⟩),.d (.str ⟨#[]⟩)],.dead,.row 1 v (Xaf (X2h c l i))]⟩) (l.length) ⟨0,Nat.zero_le _,(Nat.sub_zero _).symm,?_,rfl⟩ ?_
 ·exact Nat.zero_le _
 rintro _ _ ⟨i,hkl,rfl,-,rfl⟩
 simp only[go_sem]
 by_cases hil:i < l.length
 ·obtain⟨j,hj⟩:=Xal hil
  obtain⟨hj0,y,hy,_⟩:=hc j (List.mem_of_getElem? hj)
  have hm:=Wuh (c:=c) hj
  have hml:=Wgf c l i (by omega)
  have e1:decide ((i:Int) < (l.length:Int))=true:=decide_eq_true (by omega)
  repeat' first|refine Kn rfl ?_|((first|refine Ka ?_|refine Kb ?_|refine Kv ?_|refine Ke ?_);simp only[e1,go_sem])|refine Kf ?_|refine Kg ?_|refine⟨_,⟨Kq _,(by first|exact Xad hm|(rw[Int.toNat_natCast];exact Xad hm)),rfl⟩,Kg ?_⟩|refine⟨_,⟨Kq _,(by first|exact Xad hy|(rw[Int.toNat_natCast];exact Xad hy)),rfl⟩,Kg ?_⟩|apply Kp<;>intro _|((first|refine Kh ?_|refine Ki rfl ?_);simp only[e1,or_self,Qs,Qt,Qu,Qv,Qw,Qx,Qy,Qz,Za,go_sem])
  refine⟨Kq _,by omega,_,⟨Xef hm,Nat.le_refl _⟩,Kg ?_⟩
  simp only[go_sem]
  repeat' first|refine Kn rfl ?_|((first|refine Ka ?_|refine Kb ?_|refine Kv ?_|refine Ke ?_);simp only[go_sem])|refine Kf ?_|refine Kg ?_|refine⟨_,⟨hj0,Xef hy,rfl⟩,Kg ?_⟩|apply Kp<;>intro _|((first|refine Kh ?_|refine Ki rfl ?_);simp only[or_self,Qs,Qt,Qu,Qv,Qw,Qx,Qy,Qz,Za,go_sem])
  refine⟨Kq _,by omega,_,⟨Xef hm,Nat.le_refl _⟩,Kg ?_⟩
  simp only[go_sem]
  rw[Wgg hj hy]
  repeat' first|refine Kn rfl ?_|((first|refine Ka ?_|refine Kb ?_|refine Kv ?_|refine Ke ?_);simp only[go_sem])|refine Kf ?_|refine Kg ?_|apply Kp<;>intro _|((first|refine Kh ?_|refine Ki rfl ?_);simp only[or_self,Qs,Qt,Qu,Qv,Qw,Qx,Qy,Qz,Za,go_sem])
  refine⟨Xaq hil (by unfold lenMax;omega),?_⟩
  refine Kt (fr 60 [(0,pD g c),(1,vi m),(4,.one (.ptr 0 0)),(5,.one (.own 2 v)),(18,.one (.own 2 v)),(19,vi l.length),(20,vi (i+1))]) ?_
  refine Ku 3 ?_
  simp only[go_sem]
  refine Kl ⟨l.length - (i+1),by omega,i+1,by omega,rfl,?_,rfl⟩
  exact Nat.zero_le _
 ·obtain rfl:i=l.length:=by omega
  have e1:decide ((l.length:Int) < (l.length:Int))=false:=decide_eq_false (by omega)
  have hm:X2h c l l.length=l.map (Xdi c):=by simp[X2h]
  rw[hm]
  repeat' first|refine Kn rfl ?_|((first|refine Ka ?_|refine Kb ?_|refine Kv ?_|refine Ke ?_);simp only[e1,go_sem])|refine Kf ?_|refine Kg ?_|refine⟨_,c1,Kg ?_⟩|refine⟨_,⟨c1,rfl⟩,Kg ?_⟩|refine⟨_,c2,Kg ?_⟩|refine⟨_,⟨c2,rfl⟩,Kg ?_⟩|refine⟨_,⟨hi0,Xul hx,rfl⟩,Kg ?_⟩|apply Kp<;>intro _|((first|refine Kh ?_|refine Ki rfl ?_);simp only[e1,or_self,Qs,Qt,Qu,Qv,Qw,Qx,Qy,Qz,Za,go_sem])
  all_goals trace_state
section
variable {α:Type} [DecidableEq α] {kag:Bool} {ks:List Leaf} {kv:α->V}
def Yhu (kv:α->V) (k:Nat) (l:List α):List (V × V):=(l.zipIdx k).map fun p=>(kv p.1,vi (p.2:Int))
theorem Xmy (k:Nat) (a:α) (l:List α):Yhu kv k (a::l)=(kv a,vi (k:Int))::Yhu kv (k+1) l:=by simp[Yhu,List.zipIdx_cons]
theorem Xsj (he:∀ a b,eqV kag ks (kv a) (kv b)=some (decide (a=b))):∀ (l:List α) (k:Nat) (x:α),Xc9 kag ks (Yhu kv k l) (kv x)=some (if x∈l then some (vi ((l.idxOf x+k:Nat):Int)) else none)
 | [],k,x=>by simp[Yhu,Xc9]
 | a::l,k,x=>by
  rw[Xmy]
  simp only[Xc9,he]
  by_cases h:x=a
  ·subst h;simp
  ·have h':¬ a=x:=fun e=>h e.symm
   simp only[h,decide_false,Xsj he l (k+1) x,List.mem_cons,false_or]
   split
   ·rw[List.idxOf_cons]
    have:(a==x)=false:=by simp[h']
    rw[this]
    simp;omega
   ·rfl
theorem Xz1 (he:∀ a b,eqV kag ks (kv a) (kv b)=some (decide (a=b))):∀ (l:List α) (k:Nat) (x:α),x ∉ l->Xkq kag ks (Yhu kv k l) (kv x) (vi ((k+l.length:Nat):Int))=some (Yhu kv k (l++[x]))
 | [],k,x,_=>by simp[Yhu,Xkq]
 | a::l,k,x,h=>by
  simp only[List.mem_cons,not_or] at h
  rw[Xmy,List.cons_append,Xmy]
  have ih:=Xz1 he l (k+1) x h.2
  rw[show k+1+l.length=k+(a::l).length from by simp;omega] at ih
  simp only[Xkq,he,h.1,decide_false,ih]
theorem Yp1 (l:List α):(Yhu kv 0 l).length=l.length:=by simp[Yhu]
end
theorem Yyo {a b:List UInt8}:bT a=bT b↔a=b:=by
 constructor
 ·intro h
  have:=congrArg (fun x:ByteArray=>x.data.toList) h
  simpa [bT] using this
 ·rintro rfl;rfl
abbrev kS:List Leaf:=[.i,.i,.i,.s,.s,.s]
theorem Yhv (a b:SayT):eqV true kS (Wge a) (Wge b)=some (decide (a=b)):=by
 obtain⟨k,⟨k2,n,s⟩,u,v⟩:=a
 obtain⟨k',⟨k2',n',s'⟩,u',v'⟩:=b
 simp only[go_sem]
 congr 1
 rw[Bool.eq_iff_iff]
 simp[Yyo,and_assoc]
def Xz2 (l:List SayT):List (V × V):=Yhu Wge 0 l
theorem Xsk (l:List SayT) (x:SayT):Xc9 true kS (Xz2 l) (Wge x)=some (if x∈l then some (vi (l.idxOf x:Int)) else none):=Xsj Yhv l 0 x
theorem Yp2 {l:List SayT} {x:SayT} (h:x ∉ l):Xkq true kS (Xz2 l) (Wge x) (vi (l.length:Int))=some (Xz2 (l++[x])):=by
 have:=Xz1 Yhv l 0 x h
 rwa [Nat.zero_add] at this
theorem Xfb (l:List SayT):(Xz2 l).length=l.length:=Yp1 l
theorem Xix (l:List SayT):(Ch.map (Xz2 l)).refs=[]:=by
 simp only[Ch.refs]
 rw[List.flatMap_eq_nil_iff]
 intro e he
 obtain⟨a,_,rfl⟩:=List.mem_map.1 he
 rfl
abbrev pC (g:Gr) (v:Nat):Ch:=.cells [.d (.int .i64 g.root),.d (.sl (nds g.l)),.own 1 v]
theorem W00 (g:Gr) (hl:g.l.length<=1000):Tri QP gp 101 [g.v] [] fun r post=>r=.one (.ptr 1 0)/\post=[.row 1 0 (Xaf (Xd7 g.l.length)),.cells [.d (.int .i64 g.root),.d (.sl (nds g.l)),.own 0 0]]:=by
 refine Yoe ?_
 simp only[go_sem]
 repeat' first|refine Kn rfl ?_|((first|refine Ka ?_|refine Kb ?_|refine Kv ?_|refine Ke ?_);simp only[go_sem])|refine Kf ?_|refine Kg ?_|apply Kp<;>intro _|((first|refine Kh ?_|refine Ki rfl ?_);simp only[or_self,Qs,Qt,Qu,Qv,Qw,Qx,Qy,Qz,Za,go_sem])
 refine⟨by omega,by omega,by unfold lenMax;omega,?_⟩
 repeat' first|refine Kn rfl ?_|((first|refine Ka ?_|refine Kb ?_|refine Kv ?_|refine Ke ?_);simp only[go_sem])|refine Kf ?_|refine Kg ?_|apply Kp<;>intro _|((first|refine Kh ?_|refine Ki rfl ?_);simp only[or_self,Qs,Qt,Qu,Qv,Qw,Qx,Qy,Qz,Za,go_sem])
 simp[Xaf,Xd7]
theorem Wgh (g:Gr) (c:List Int) (v:Nat):Tri QP gp 165 [.one (.ptr 0 0)] [pC g v,.row 1 v (Xaf c)] fun r post =>
  r=.one (.clo (.func 185) [.ptr 2 0])/\post=[pC g v,.row 1 v (Xaf c),.cells [.ptr 0 0]]:=by
 refine Yop ?_
 simp only[go_sem]
 repeat' first|refine Kn rfl ?_|((first|refine Ka ?_|refine Kb ?_|refine Kv ?_|refine Ke ?_);simp only[go_sem])|refine Kf ?_|refine Kg ?_|apply Kp<;>intro _|((first|refine Kh ?_|refine Ki rfl ?_);simp only[or_self,Qs,Qt,Qu,Qv,Qw,Qx,Qy,Qz,Za,go_sem])
 all_goals trace_state
def Xiy (l:List Nd) (c:List Int):List SayT:=l.map (Wgd c)
theorem Xgu (l:List Nd) (c:List Int):(Xiy l c).length=l.length:=by simp[Xiy]
structure Neat (g:Gr):Prop where
 f:Fine g.l
 s:∀ x∈g.l,x.short
 len:g.l.length<=1000
theorem Neat.small {g:Gr} (h:Neat g):Xc4 g:=h.f.small
theorem X11 {x:Nd} {n:Int} (h:Xbe Xak x n=true):∀ y∈Xai x,prR Xak y=true:=by
 by_cases hk:x.k=2
 ·have h1:=(Xe9 h hk).1
  obtain⟨m1,_,_⟩:=Xdz h hk
  intro y hy
  unfold Xai at hy
  rw[Xb4 hk m1] at hy
  have:=((Xdr (Xdj x)).map Pr.key).mem_iff.1 hy
  rw[Xe8 m1] at this
  exact (List.all_eq_true.1 h1) y this
 ·intro y hy
  unfold Xai at hy
  rw[Xb5 hk] at hy
  cases hy
theorem Xp3 {x:Nd}:∀ y∈Xai x,y∈x.keys:=by
 intro y hy
 by_cases hk:x.k=2/\x.keys.length=x.kids.length
 ·unfold Xai at hy
  rw[Xb4 hk.1 hk.2] at hy
  have:=((Xdr (Xdj x)).map Pr.key).mem_iff.1 hy
  rwa [Xe8 hk.2] at this
 ·unfold Xai Xac at hy
  rw[if_neg hk] at hy
  cases hy
theorem Neat.keys {g:Gr} (h:Neat g) {i:Int} (hi:inL g.l i):∀ y∈Xai (Xbb g.l i),prR Xak y=true/\y.short:=fun y hy =>
 ⟨X11 (h.f.node _ (Xjo hi)) y hy,(h.s _ (Xjo hi)).2.2.2 y (Xp3 y hy)⟩
structure ClsOK (l:List Nd) (c:List Int):Prop where
 len:c.length=l.length
 ok:∀ n∈c,okI n
theorem ClsOK.kid {g:Gr} {c:List Int} (h:ClsOK g.l c) (hf:Fine g.l) (i:Int):∀ j∈Xae (Xbb g.l i),0<=j/\∃ x,c[j.toNat]?=some x/\okI x:=fun j hj=>by
 have hi:=hf.kid i j hj
 unfold inL at hi
 obtain⟨x,hx⟩:=Xal (l:=c) (i:=j.toNat) (by rw[h.len];omega)
 exact⟨hi.1,x,hx,h.ok x (List.mem_of_getElem? hx)⟩
theorem Wuj {α:Type} [DecidableEq α] {l:List α} (hl:l.length<=1000):∀ n∈rkp l,okI n:=fun n hn=>by
 obtain⟨a,ha,rfl⟩:=List.mem_map.1 hn
 have h1:=List.idxOf_lt_length_of_mem (Xbr.2 ha)
 have h2:=Yd6 l
 unfold okI
 omega
theorem Yhw {g:Gr} (h:Neat g) (c:List Int):ClsOK g.l (rkp (Xiy g.l c)):=⟨by rw[Xjt,Xgu],Wuj (by rw[Xgu];exact h.len)⟩
def Xhm (R:List Int) (n i:Nat):List Int:=R.take i++Xd7 (n - i)
theorem Yp3 {R:List Int} {n i:Nat} {y:Int} (hn:R.length=n) (h:R[i]?=some y):i < (Xaf (Xhm R n i)).length/\(Xaf (Xhm R n i))[i]?=some [.int .i64 0]/\(Xaf (Xhm R n i)).set i [.int .i64 y]=Xaf (Xhm R n (i+1)):=by
 have hi:=(Kr.1 h).1
 obtain⟨d,hd⟩:∃ d,n - i=d+1:=⟨n - i - 1,by omega⟩
 have hd2:n - (i+1)=d:=by omega
 unfold Xhm
 rw[hd,hd2,List.take_succ,h]
 have hz:(Xaf (R.take i)).length=i:=by simp[Xaf];omega
 have e:Xaf (R.take i++Xd7 (d+1))=Xaf (R.take i)++([.int .i64 0]::Xaf (Xd7 d)):=by simp[Xaf,Xd7,List.replicate_succ]
 rw[e]
 refine⟨by simp[Xaf];omega,?_,?_⟩
 ·rw[List.getElem?_append_right (by omega),hz,Nat.sub_self];rfl
 ·rw[List.set_append_right _ _ (by omega),hz,Nat.sub_self,List.set_cons_zero]
  simp[Xaf]
theorem Yp4 {R:List Int} {n:Nat} (hn:R.length=n):Xhm R n n=R:=by
 unfold Xhm
 rw[Nat.sub_self,List.take_of_length_le (by omega)]
 simp[Xd7]
theorem Yhx (l:List SayT) (j:Nat) (c:Ch):Yi6 j c (.map (Xz2 l))=.map (Xz2 l):=by
 simp only[Yi6,Ch.map.injEq]
 conv=>rhs;rw[<- List.map_id (Xz2 l)]
 apply List.map_congr_left
 intro e he
 obtain⟨a,_,rfl⟩:=List.mem_map.1 he
 rfl
theorem Xum {l:List Nd} {c:List Int} {i:Nat} {x:Nd} (h:l[i]?=some x):(Xiy l c)[i]?=some (Wgd c x):=by unfold Xiy;rw[List.getElem?_map,h];rfl
set_option maxHeartbeats 2000000 in
theorem Wgi (hU:Xpg gp) (hP:Xng gp) {g:Gr} (hn:Neat g) {c:List Int} (hc:ClsOK g.l c) (v:Nat) :
  Tri QP gp 137 [.one (.ptr 0 0)] [pC g v,.row 1 v (Xaf c)] fun r post =>
   r=vi ((ddp (Xiy g.l c)).length:Int)/\post=[pC g v,.row 1 v (Xaf (rkp (Xiy g.l c)))]:=by
 have hSl:=Xgu g.l c
 have hcl:=hc.len
 have hgl:=hn.len
 have hnode:∀ i:Nat,∀ x,g.l[i]?=some x->∃ s,(Xiy g.l c)[i]?=some s/\Does QP gp 186 [pD g c,vi i] (Wge s):=fun i x hx=>by
  have hi:inL g.l i:=(Xr1 hx).1
  refine⟨_,Xum hx,?_⟩
  have:=Wui hU hP g c hn.small i hi (hn.keys hi) (hc.kid hn.f i)
  rwa [(Xr1 hx).2] at this
 generalize Xiy g.l c=S at *
 have hRl:(rkp S).length=g.l.length:=by rw[Xjt,hSl]
 refine Yoo ?_
 simp only[go_sem]
 repeat' first|refine Kn rfl ?_|((first|refine Ka ?_|refine Kb ?_|refine Kv ?_|refine Ke ?_);simp only[go_sem])|refine Kf ?_|refine Kg ?_|apply Kp<;>intro _|((first|refine Kh ?_|refine Ki rfl ?_);simp only[or_self,Qs,Qt,Qu,Qv,Qw,Qx,Qy,Qz,Za,go_sem])
 refine⟨by omega,by omega,by unfold lenMax;omega,?_⟩
 repeat' first|refine Kn rfl ?_|((first|refine Ka ?_|refine Kb ?_|refine Kv ?_|refine Ke ?_);simp only[go_sem])|refine Kf ?_|refine Kg ?_|apply Kp<;>intro _|((first|refine Kh ?_|refine Ki rfl ?_);simp only[or_self,Qs,Qt,Qu,Qv,Qw,Qx,Qy,Qz,Za,go_sem])
 refine Or.inr (Or.inr ⟨[0,1],.one (.clo (.func 185) [.ptr 2 0]),[pC g v,.row 1 v (Xaf c),.cells [.ptr 0 0]],(by simp only[Xaw,Xcv,rnV,rnA,Xc1,rn0,Xc0,Xbz,Xcx,rnC,Xaj,List.isEmpty_nil,reduceCtorEq,↓reduceIte,Qa,Qb,Qc,Qd,Qe,Qf,Qg,Qh,Qi,Qj,Qk,Ql,Qm,Qn,Qo,Qp,Qq,Qr];simp only[go_sem];exact⟨Wdq,Wgh g c v⟩),Kg ?_⟩)
 simp only[go_sem]
 repeat' first|refine Kn rfl ?_|((first|refine Ka ?_|refine Kb ?_|refine Kv ?_|refine Ke ?_);simp only[go_sem])|refine Kf ?_|refine Kg ?_|apply Kp<;>intro _|((first|refine Kh ?_|refine Ki rfl ?_);simp only[or_self,Qs,Qt,Qu,Qv,Qw,Qx,Qy,Qz,Za,go_sem])
 refine Y0b (f2:=185) (caps:=[.one (.ptr 6 0)]) (fun pd own'=>pd=none/\∃ rest,own'=pC g v::.row 1 v (Xaf c)::.map (Xz2 (ddp S))::.cells [.own 2 0]::.row 1 0 (Xaf (rkp S))::.cells [.own 4 0]::.cells [.ptr 0 0]::rest) rfl ?_ Wdv ?_ ?_ ?_
 ·intro y;simp only[go_sem]
 ·rintro b rc hps ⟨hs,hta,htb⟩
  refine Yos ?_
  simp only[go_sem]
  repeat' first|refine Kn rfl ?_|((first|refine Ka ?_|refine Kb ?_|refine Kv ?_|refine Ke ?_);simp only[go_sem])|refine Kf ?_|refine Kg ?_|apply Kp<;>intro _|((first|refine Kh ?_|refine Ki rfl ?_);simp only[or_self,Qs,Qt,Qu,Qv,Qw,Qx,Qy,Qz,Za,go_sem])
  rw[show (List.replicate c.length [D.int IntKind.i64 0])=Xaf (Xhm (rkp S) g.l.length 0) from by simp[Xhm,Xaf,Xd7,hcl]]
  refine Kt (fr 21 [(0,.one (.d (.raw (.func (.yield b) #[] #[])))),(1,.one (.ptr 6 0)),(9,vi g.l.length),(10,vi (0:Nat))]) ?_
  refine Km (fun mz sz=>∃ i:Nat,i<=g.l.length/\mz=g.l.length - i/\(0<=i)/\sz=⟨fr 21 [(0,.one (.d (.raw (.func (.yield b) #[] #[])))),(1,.one (.ptr 6 0)),(9,vi g.l.length),(10,vi i)],[pC g v,.row 1 v (Xaf c),.map (Xz2 (ddp (S.take i))),.cells [.own 2 0],.row 1 0 (Xaf (Xhm (rkp S) g.l.length i)),.cells [.own 4 0],.cells [.ptr 0 0],.dead,.lp b _ rc .ready none]⟩) (g.l.length) ⟨0,Nat.zero_le _,(Nat.sub_zero _).symm,?_,rfl⟩ ?_
  ·exact Nat.zero_le _
  rintro _ _ ⟨i,hi,rfl,-,rfl⟩
  simp only[go_sem]
  by_cases hil:i < g.l.length
  ·obtain⟨x,hx⟩:=Xal hil
   obtain⟨s,hs1,hs2⟩:=hnode i x hx
   have e1:decide ((i:Int) < (g.l.length:Int))=true:=decide_eq_true (by omega)
   obtain⟨f1,f2,f3⟩:=Yp3 hRl (Xkj hs1)
   have hfl:i < (Xhm (rkp S) g.l.length i).length:=by simpa [Xaf] using f1
   have hnx:=Xyn hs1
   have hit:=Xym hs1 (Nat.lt_succ_self i)
   have hmem:s∈ddp (S.take (i+1)):=Xbr.2 (Xgm.2 ⟨i,Nat.lt_succ_self i,hs1⟩)
   have hf2:=Xsk (ddp (S.take (i+1))) s
   rw[if_pos hmem,hit] at hf2
   have hf1:=Xsk (ddp (S.take i)) s
   generalize ((ddp S).idxOf s:Int)=y at *
   repeat' first|refine Kn rfl ?_|((first|refine Ka ?_|refine Kb ?_|refine Kv ?_|refine Ke ?_);simp only[e1,go_sem])|refine Kf ?_|refine Kg ?_|(apply Kp<;>intro _<;>try (exfalso;omega))|((first|refine Kh ?_|refine Ki rfl ?_);simp only[e1,or_self,Qs,Qt,Qu,Qv,Qw,Qx,Qy,Qz,Za,go_sem])
   refine Or.inl ⟨_,⟨hs2,rfl⟩,Kg ?_⟩
   simp only[go_sem]
   repeat' first|refine Kn rfl ?_|((first|refine Ka ?_|refine Kb ?_|refine Kv ?_|refine Ke ?_);simp only[go_sem])|refine Kf ?_|refine Kg ?_|(apply Kp<;>intro _<;>try (exfalso;omega))|((first|refine Kh ?_|refine Ki rfl ?_);simp only[or_self,Qs,Qt,Qu,Qv,Qw,Qx,Qy,Qz,Za,go_sem])
   by_cases hm:s∈S.take i
   ·rw[if_pos hm] at hnx
    rw[if_pos (Xbr.2 hm),<- hnx.2] at hf1
    rw[<- hnx.2]
    refine⟨[pC g v,.row 1 v (Xaf c),.map (Xz2 (ddp (S.take (i+1)))),.cells [.own 2 0],.row 1 0 (Xaf (Xhm (rkp S) g.l.length (i+1))),.cells [.own 4 0],.cells [.ptr 0 0],.dead,.lp b _ rc .ready none,.cells [.d (.int .i64 s.k),.d (.int .i64 s.x.k),.d (.int .i64 s.x.n),.d (.str s.x.s),.d (.str (bT s.ks)),.d (.str (bT s.ns))]],true,by simp,⟨8,_,rc,hs,_,_,[pC g v,.row 1 v (Xaf c),.map (Xz2 (ddp (S.take (i+1)))),.cells [.own 2 0],.row 1 0 (Xaf (Xhm (rkp S) g.l.length (i+1))),.cells [.own 4 0],.cells [.ptr 0 0],.dead,.dead,.cells [.d (.int .i64 s.k),.d (.int .i64 s.x.k),.d (.int .i64 s.x.n),.d (.str s.x.s),.d (.str (bT s.ks)),.d (.str (bT s.ns))]],none,rfl,by rw[<- Array.length_toList,hps];rfl,hta,htb,?_,rfl,rfl⟩,Kg ?_⟩
    ·rw[hps]
     simp only[go_sem]
     repeat' first|refine Kn rfl ?_|((first|refine Ka ?_|refine Kb ?_|refine Kv ?_|refine Ke ?_);simp only[go_sem])|refine Kf ?_|refine Kg ?_|apply Kp<;>intro _|((first|refine Kh ?_|refine Ki rfl ?_);simp only[or_self,Qs,Qt,Qu,Qv,Qw,Qx,Qy,Qz,Za,go_sem])
     refine Xfy ⟨rfl,?_⟩
     repeat' first|refine Kn rfl ?_|((first|refine Ka ?_|refine Kb ?_|refine Kv ?_|refine Ke ?_);simp only[Xfb,go_sem])|refine Kf ?_|refine Kg ?_|refine⟨_,⟨hf2,rfl⟩,Kg ?_⟩|refine⟨Kq _,hfl,_,⟨f2,Nat.le_refl _⟩,Kg ?_⟩|apply Kp<;>intro _|((first|refine Kh ?_|refine Ki rfl ?_);simp only[Xfb,or_self,Qs,Qt,Qu,Qv,Qw,Qx,Qy,Qz,Za,go_sem])
     exact Xfy ⟨⟨rfl,rfl⟩,by rw[<- f3];rfl⟩
    ·simp only[go_sem]
     repeat' first|refine Kn rfl ?_|((first|refine Ka ?_|refine Kb ?_|refine Kv ?_|refine Ke ?_);simp only[go_sem])|refine Kf ?_|refine Kg ?_|apply Kp<;>intro _|((first|refine Kh ?_|refine Ki rfl ?_);simp only[or_self,Qs,Qt,Qu,Qv,Qw,Qx,Qy,Qz,Za,go_sem])
     refine⟨Xaq hil (by unfold lenMax;omega),?_⟩
     refine Kt (fr 21 [(0,.one (.d (.raw (.func (.yield b) #[] #[])))),(1,.one (.ptr 6 0)),(9,vi g.l.length),(10,vi (i+1))]) ?_
     refine Kk 9 (by simp only[List.length_nil,List.length_cons];decide) (by simp only[go_sem]) (by simp only[List.take_succ_cons,List.take_zero,List.all_cons,List.all_nil,Xix];try simp only[go_sem]) ?_
     simp only[go_sem]
     refine Kl ⟨g.l.length - (i+1),by omega,i+1,by omega,rfl,?_,rfl⟩
     exact Nat.zero_le _
   ·rw[if_neg hm] at hnx
    have hm':s ∉ ddp (S.take i):=fun h=>hm (Xbr.1 h)
    rw[if_neg hm'] at hf1
    have hput:=Yp2 hm'
    rw[<- hnx.2] at hput
    refine⟨[pC g v,.row 1 v (Xaf c),.map (Xz2 (ddp (S.take (i+1)))),.cells [.own 2 0],.row 1 0 (Xaf (Xhm (rkp S) g.l.length (i+1))),.cells [.own 4 0],.cells [.ptr 0 0],.dead,.lp b _ rc .ready none,.cells [.d (.int .i64 s.k),.d (.int .i64 s.x.k),.d (.int .i64 s.x.n),.d (.str s.x.s),.d (.str (bT s.ks)),.d (.str (bT s.ns))]],true,by simp,⟨8,_,rc,hs,_,_,[pC g v,.row 1 v (Xaf c),.map (Xz2 (ddp (S.take (i+1)))),.cells [.own 2 0],.row 1 0 (Xaf (Xhm (rkp S) g.l.length (i+1))),.cells [.own 4 0],.cells [.ptr 0 0],.dead,.dead,.cells [.d (.int .i64 s.k),.d (.int .i64 s.x.k),.d (.int .i64 s.x.n),.d (.str s.x.s),.d (.str (bT s.ks)),.d (.str (bT s.ns))]],none,rfl,by rw[<- Array.length_toList,hps];rfl,hta,htb,?_,rfl,rfl⟩,Kg ?_⟩
    ·rw[hps]
     simp only[go_sem]
     repeat' first|refine Kn rfl ?_|((first|refine Ka ?_|refine Kb ?_|refine Kv ?_|refine Ke ?_);simp only[go_sem])|refine Kf ?_|refine Kg ?_|apply Kp<;>intro _|((first|refine Kh ?_|refine Ki rfl ?_);simp only[or_self,Qs,Qt,Qu,Qv,Qw,Qx,Qy,Qz,Za,go_sem])
     refine Xfy ⟨rfl,?_⟩
     repeat' first|refine Kn rfl ?_|((first|refine Ka ?_|refine Kb ?_|refine Kv ?_|refine Ke ?_);simp only[Xfb,go_sem])|refine Kf ?_|refine Kg ?_|refine⟨_,⟨hf1,rfl⟩,Kg ?_⟩|refine⟨_,hput,Kg ?_⟩|refine⟨_,⟨hf2,rfl⟩,Kg ?_⟩|refine⟨Kq _,hfl,_,⟨f2,Nat.le_refl _⟩,Kg ?_⟩|apply Kp<;>intro _|((first|refine Kh ?_|refine Ki rfl ?_);simp only[Xfb,or_self,Qs,Qt,Qu,Qv,Qw,Qx,Qy,Qz,Za,go_sem])
     exact Xfy ⟨⟨rfl,rfl⟩,by rw[<- f3];rfl⟩
    ·simp only[go_sem]
     repeat' first|refine Kn rfl ?_|((first|refine Ka ?_|refine Kb ?_|refine Kv ?_|refine Ke ?_);simp only[go_sem])|refine Kf ?_|refine Kg ?_|apply Kp<;>intro _|((first|refine Kh ?_|refine Ki rfl ?_);simp only[or_self,Qs,Qt,Qu,Qv,Qw,Qx,Qy,Qz,Za,go_sem])
     refine⟨Xaq hil (by unfold lenMax;omega),?_⟩
     refine Kt (fr 21 [(0,.one (.d (.raw (.func (.yield b) #[] #[])))),(1,.one (.ptr 6 0)),(9,vi g.l.length),(10,vi (i+1))]) ?_
     refine Kk 9 (by simp only[List.length_nil,List.length_cons];decide) (by simp only[go_sem]) (by simp only[List.take_succ_cons,List.take_zero,List.all_cons,List.all_nil,Xix];try simp only[go_sem]) ?_
     simp only[go_sem]
     refine Kl ⟨g.l.length - (i+1),by omega,i+1,by omega,rfl,?_,rfl⟩
     exact Nat.zero_le _
  ·obtain rfl:i=g.l.length:=by omega
   have e1:decide ((g.l.length:Int) < (g.l.length:Int))=false:=decide_eq_false (by omega)
   rw[List.take_of_length_le (by omega),Yp4 hRl]
   repeat' first|refine Kn rfl ?_|((first|refine Ka ?_|refine Kb ?_|refine Kv ?_|refine Ke ?_);simp only[e1,go_sem])|refine Kf ?_|refine Kg ?_|apply Kp<;>intro _|((first|refine Kh ?_|refine Ki rfl ?_);simp only[e1,or_self,Qs,Qt,Qu,Qv,Qw,Qx,Qy,Qz,Za,go_sem])
   exact⟨.ready,none,rfl,by simp,rfl,_,rfl⟩
 ·rintro own' ⟨_,rest,rfl⟩
  simp only[go_sem]
  refine Kk 7 (by simp only[List.length_nil,List.length_cons];decide) (by simp only[go_sem]) (by simp only[List.take_succ_cons,List.take_zero,List.all_cons,List.all_nil,Xix];simp only[go_sem]) ?_
  simp only[go_sem]
  refine Xa6 4 ?_
  simp only[Yq5,Xaj,List.map_cons,List.map_nil,Yhx]
  simp only[go_sem]
  repeat' first|refine Kn rfl ?_|((first|refine Ka ?_|refine Kb ?_|refine Kv ?_|refine Ke ?_);simp only[Xfb,go_sem])|refine Kf ?_|refine Kg ?_|apply Kp<;>intro _|((first|refine Kh ?_|refine Ki rfl ?_);simp only[Xfb,or_self,Qs,Qt,Qu,Qv,Qw,Qx,Qy,Qz,Za,go_sem])
  refine⟨fun p hp=>by obtain⟨_,_,rfl⟩:=List.mem_map.1 hp;rfl,by omega,?_⟩
  repeat refine Ko rfl ?_
  refine Ka ?_
  simp only[Xfb,go_sem]
  refine Kt (fr 46 [(2,vi ((ddp S).length:Int))]) ?_
  refine Kk 2 (by simp only[List.length_nil,List.length_cons];decide) (by simp only[go_sem]) (by simp only[List.take_succ_cons,List.take_zero,List.all_cons,List.all_nil,Xix];simp only[go_sem]) ?_
  simp only[go_sem]
  refine Ki rfl ?_
  simp only[or_self,Qs,Qt,Qu,Qv,Qw,Qx,Qy,Qz,Za,go_sem]
 ·rintro _ _ ⟨h,_⟩;cases h
structure Env10 (gp:Heap):Prop where
 e:Env gp
 p:Xng gp
theorem Wuk {g:Gr} (hn:Neat g) {c:List Int} (hc:ClsOK g.l c) {i j:Int} (hi:inL g.l i) (hj:inL g.l j):Wgd c (Xbb g.l i)=Wgd c (Xbb g.l j)↔X2g (Xbb g.l i) c=X2g (Xbb g.l j) c:=by
 have hk:∀ i:Int,(Xae (Xbb g.l i)).map (fun k=>c[k.toNat]?)=(Xae (Xbb g.l i)).map (fun k=>some (Xdi c k)):=fun i=>by
  refine List.map_congr_left fun k hk=>?_
  obtain⟨_,x,h1,_⟩:=hc.kid hn.f i k hk
  unfold Xdi;rw[h1];rfl
 unfold Wgd X2g
 rw[hk i,hk j,SayT.mk.injEq,Say.mk.injEq]
 have e1:Xg0 (Xai (Xbb g.l i))=Xg0 (Xai (Xbb g.l j))↔Xai (Xbb g.l i)=Xai (Xbb g.l j) :=
  ⟨Yef (fun x hx=>(hn.keys hi x hx).1) (fun x hx=>(hn.keys hj x hx).1),fun e=>by rw[e]⟩
 have e2:Xgz ((Xae (Xbb g.l i)).map (Xdi c))=Xgz ((Xae (Xbb g.l j)).map (Xdi c))↔(Xae (Xbb g.l i)).map (fun k=>some (Xdi c k))=(Xae (Xbb g.l j)).map (fun k=>some (Xdi c k)):=by
  rw[show (Xae (Xbb g.l i)).map (fun k=>some (Xdi c k))=((Xae (Xbb g.l i)).map (Xdi c)).map some from by rw[List.map_map];rfl,
   show (Xae (Xbb g.l j)).map (fun k=>some (Xdi c k))=((Xae (Xbb g.l j)).map (Xdi c)).map some from by rw[List.map_map];rfl]
  rw[(List.map_inj_right (f:=some) (by intro a b e;exact Option.some.inj e))]
  exact⟨Yeb,fun e=>by rw[e]⟩
 rw[e1,e2]
theorem Yp5 {g:Gr} (hn:Neat g) {c:List Int} (hc:ClsOK g.l c) (i j:Nat) (hi:i < g.l.length) (hj:j < g.l.length):(Xiy g.l c)[i]?=(Xiy g.l c)[j]?↔(Xfo g.l c)[i]?=(Xfo g.l c)[j]?:=by
 obtain⟨x,hx⟩:=Xal hi
 obtain⟨y,hy⟩:=Xal hj
 obtain⟨h1,h2⟩:=Xr1 hx
 obtain⟨h3,h4⟩:=Xr1 hy
 have:=Wuk hn hc h1 h3
 rw[h2,h4] at this
 rw[Xum hx,Xum hy,show (Xfo g.l c)[i]?=some (X2g x c) from by unfold Xfo;rw[List.getElem?_map,hx];rfl,show (Xfo g.l c)[j]?=some (X2g y c) from by unfold Xfo;rw[List.getElem?_map,hy];rfl]
 rw[Option.some.injEq,Option.some.injEq]
 exact this
theorem Xp4 {g:Gr} (hn:Neat g) {c:List Int} (hc:ClsOK g.l c):rkp (Xiy g.l c)=rnd (Xfo g.l) c/\(ddp (Xiy g.l c)).length=cnt (Xfo g.l) c:=by
 have hl:(Xiy g.l c).length=(Xfo g.l c).length:=by rw[Xgu,Xpw]
 have hk:=Yp5 hn hc
 refine⟨Xt9 hl fun i j hi hj=>by rw[Xgu] at hi hj;exact hk i j hi hj,?_⟩
 unfold cnt
 apply Nat.le_antisymm
 ·exact Xyp hl.symm fun i j hi hj e=>by rw[Xpw] at hi hj;exact (hk i j hi hj).2 e
 ·exact Xyp hl fun i j hi hj e=>by rw[Xgu] at hi hj;exact (hk i j hi hj).1 e
theorem Xz3 {g:Gr}:ClsOK g.l (Xd7 g.l.length):=⟨by simp[Xd7],fun n hn=>by
 obtain⟨_,rfl⟩:=List.mem_replicate.1 hn
 unfold okI;omega⟩
theorem X12 {σ:Type} [DecidableEq σ] {f:List Int->List σ} {k n m:Nat} {c:List Int} (h:¬ n < m):Xgy f k n m c=c:=by
 cases k with
 | zero=>rfl
 | succ k=>simp only[Xgy];rw[if_neg h]
set_option maxHeartbeats 1000000 in
theorem Yp6 (h:Env10 gp) {g:Gr} (hn:Neat g) (v:Nat):Tri QP gp 102 [.one (.ptr 0 0)] [pC g v,.row 1 v (Xaf (Xd7 g.l.length))] fun r post =>
  r=.one (.own 1 v)/\post=[pC g v,.row 1 v (Xaf (Xcb g.l))]:=by
 have hr:∀ c,ClsOK g.l c->Tri QP gp 137 [.one (.ptr 0 0)] [pC g v,.row 1 v (Xaf c)] fun r post =>
   r=vi (cnt (Xfo g.l) c:Int)/\post=[pC g v,.row 1 v (Xaf (rnd (Xfo g.l) c))]:=fun c hc=>by
  have:=Wgi h.e.u h.p hn hc v
  rwa [(Xp4 hn hc).1,(Xp4 hn hc).2] at this
 have hok:∀ c,ClsOK g.l c->ClsOK g.l (rnd (Xfo g.l) c):=fun c hc=>by
  rw[<- (Xp4 hn hc).1];exact Yhw hn c
 have hcn:∀ c,cnt (Xfo g.l) c<=g.l.length:=hn.f.parts.cnt_le
 have hgl:=hn.len
 refine Yoh ?_
 simp only[go_sem]
 repeat' first|refine Kn rfl ?_|((first|refine Ka ?_|refine Kb ?_|refine Kv ?_|refine Ke ?_);simp only[go_sem])|refine Kf ?_|refine Kg ?_|apply Kp<;>intro _|((first|refine Kh ?_|refine Ki rfl ?_);simp only[or_self,Qs,Qt,Qu,Qv,Qw,Qx,Qy,Qz,Za,go_sem])
 refine Or.inr (Or.inr ⟨[0,1],vi (cnt (Xfo g.l) (Xd7 g.l.length):Int),[pC g v,.row 1 v (Xaf (rnd (Xfo g.l) (Xd7 g.l.length)))],(by simp only[Xaw,Xcv,rnV,rnA,Xc1,rn0,Xc0,Xbz,Xcx,rnC,Xaj,List.isEmpty_nil,reduceCtorEq,↓reduceIte,Qa,Qb,Qc,Qd,Qe,Qf,Qg,Qh,Qi,Qj,Qk,Ql,Qm,Qn,Qo,Qp,Qq,Qr];simp only[go_sem];exact⟨Yfb,hr _ Xz3⟩),Kg ?_⟩)
 simp only[go_sem]
 repeat' first|refine Kn rfl ?_|((first|refine Ka ?_|refine Kb ?_|refine Kv ?_|refine Ke ?_);simp only[go_sem])|refine Kf ?_|refine Kg ?_|apply Kp<;>intro _|((first|refine Kh ?_|refine Ki rfl ?_);simp only[or_self,Qs,Qt,Qu,Qv,Qw,Qx,Qy,Qz,Za,go_sem])
 refine Kt (fr 20 [(0,.one (.ptr 0 0)),(3,.one (.mvo (.func 137) false [.ptr 0 0])),(4,vi ((0:Nat):Int)),(5,vi (cnt (Xfo g.l) (Xd7 g.l.length):Int))]) ?_
 refine Ku 2 ?_
 simp only[go_sem]
 refine Km (fun mz sz=>∃ (k n m:Nat) (c:List Int),mz=k/\Xgy (Xfo g.l) k n m c=Xcb g.l/\ClsOK g.l c/\g.l.length+1<=k+n/\m<=g.l.length/\n<=g.l.length/\sz=⟨fr 20 [(0,.one (.ptr 0 0)),(3,.one (.mvo (.func 137) false [.ptr 0 0])),(4,vi (n:Int)),(5,vi (m:Int))],[pC g v,.row 1 v (Xaf c)]⟩) _ ⟨g.l.length+1,0,_,_,rfl,rfl,hok _ Xz3,by omega,hcn _,by omega,rfl⟩ ?_
 rintro k _ ⟨_,n,m,c,rfl,hp,hc,h1,h2,h3,rfl⟩
 simp only[go_sem]
 by_cases hlt:n < m
 ·obtain⟨k',rfl⟩:∃ k',k=k'+1:=⟨k - 1,by omega⟩
  simp only[Xgy] at hp
  rw[if_pos hlt] at hp
  have e1:decide ((m:Int) > (n:Int))=true:=decide_eq_true (by omega)
  repeat' first|refine Kn rfl ?_|((first|refine Ka ?_|refine Kb ?_|refine Kv ?_|refine Ke ?_);simp only[e1,go_sem])|refine Kf ?_|refine Kg ?_|apply Kp<;>intro _|((first|refine Kh ?_|refine Ki rfl ?_);simp only[e1,or_self,Qs,Qt,Qu,Qv,Qw,Qx,Qy,Qz,Za,go_sem])
  refine Or.inr (Or.inr ⟨[0,1],vi (cnt (Xfo g.l) c:Int),[pC g v,.row 1 v (Xaf (rnd (Xfo g.l) c))],(by simp only[Xaw,Xcv,rnV,rnA,Xc1,rn0,Xc0,Xbz,Xcx,rnC,Xaj,List.isEmpty_nil,reduceCtorEq,↓reduceIte,Qa,Qb,Qc,Qd,Qe,Qf,Qg,Qh,Qi,Qj,Qk,Ql,Qm,Qn,Qo,Qp,Qq,Qr];simp only[go_sem];exact⟨Yfb,hr _ hc⟩),Kg ?_⟩)
  simp only[go_sem]
  repeat' first|refine Kn rfl ?_|((first|refine Ka ?_|refine Kb ?_|refine Kv ?_|refine Ke ?_);simp only[go_sem])|refine Kf ?_|refine Kg ?_|apply Kp<;>intro _|((first|refine Kh ?_|refine Ki rfl ?_);simp only[or_self,Qs,Qt,Qu,Qv,Qw,Qx,Qy,Qz,Za,go_sem])
  refine Kt (fr 20 [(0,.one (.ptr 0 0)),(3,.one (.mvo (.func 137) false [.ptr 0 0])),(4,vi (m:Int)),(5,vi (cnt (Xfo g.l) c:Int))]) ?_
  refine Ku 2 ?_
  simp only[go_sem]
  exact Kl ⟨k',by omega,k',m,_,_,rfl,hp,hok _ hc,by omega,hcn _,by omega,rfl⟩
 ·rw[X12 hlt] at hp
  have e1:decide ((m:Int) > (n:Int))=false:=decide_eq_false (by omega)
  rw[hp]
  repeat' first|refine Kn rfl ?_|((first|refine Ka ?_|refine Kb ?_|refine Kv ?_|refine Ke ?_);simp only[e1,go_sem])|refine Kf ?_|refine Kg ?_|apply Kp<;>intro _|((first|refine Kh ?_|refine Ki rfl ?_);simp only[e1,or_self,Qs,Qt,Qu,Qv,Qw,Qx,Qy,Qz,Za,go_sem])
  all_goals trace_state
def cOf (g:Gr):List Int:=if chk g=none then Xcb g.l else []
theorem Xz4 {g:Gr} (h:Good g):cOf g=Xcb g.l:=by unfold cOf;rw[if_pos h.c]
theorem Good.neat {g:Gr} (h:Good g) (hs:∀ x∈g.l,x.short):Neat g:=⟨h.fine,hs,Nat.le_trans h.len (by omega)⟩
theorem Yhy (h:Env10 gp) (g:Gr) (hs:Xc4 g) (hst:∀ x∈g.l,x.short):Does QP gp 67 [g.v] (.tup [.one (.d (.sl (Xaf (cOf g)))),vi (Xnf g)]):=by
 refine Wsw ?_
 simp only[go_sem]
 have c1:Does QP gp 47 [g.v] (.tup [vi ((chk g).getD (0,0)).1,vi (Xnf g)]):=Yu7 h.e g
 refine Xfk 15 ?_
 simp only[go_sem]
 by_cases hc:chk g=none
 ·have hg:Good g:=⟨hc,hs⟩
  have hn:=hg.neat hst
  rw[Xz4 hg,Xhi hc]
  rw[Xhi hc] at c1
  repeat' first|refine Kn rfl ?_|((first|refine Ka ?_|refine Kb ?_|refine Kv ?_|refine Ke ?_);simp only[go_sem])|refine Kf ?_|refine Kg ?_|refine⟨_,c1,Kg ?_⟩|refine⟨_,⟨c1,rfl⟩,Kg ?_⟩|apply Kp<;>intro _|((first|refine Kh ?_|refine Ki rfl ?_);simp only[or_self,Qs,Qt,Qu,Qv,Qw,Qx,Qy,Qz,Za,go_sem])
  refine Or.inr ⟨[],.one (.ptr 1 0),[.row 1 0 (Xaf (Xd7 g.l.length)),.cells [.d (.int .i64 g.root),.d (.sl (nds g.l)),.own 0 0]],(by simp only[Xaw,Xcv,rnV,rnA,Xc1,rn0,Xc0,Xbz,Xcx,rnC,Xaj,List.isEmpty_nil,reduceCtorEq,↓reduceIte,Qa,Qb,Qc,Qd,Qe,Qf,Qg,Qh,Qi,Qj,Qk,Ql,Qm,Qn,Qo,Qp,Qq,Qr];simp only[go_sem];exact⟨Wc8,W00 g hn.len⟩),Kg ?_⟩
  simp only[go_sem]
  repeat' first|refine Kn rfl ?_|((first|refine Ka ?_|refine Kb ?_|refine Kv ?_|refine Ke ?_);simp only[go_sem])|refine Kf ?_|refine Kg ?_|apply Kp<;>intro _|((first|refine Kh ?_|refine Ki rfl ?_);simp only[or_self,Qs,Qt,Qu,Qv,Qw,Qx,Qy,Qz,Za,go_sem])
  refine Or.inr (Or.inr ⟨[1,0],.one (.own 1 0),[pC g 0,.row 1 0 (Xaf (Xcb g.l))],(by simp only[Xaw,Xcv,rnV,rnA,Xc1,rn0,Xc0,Xbz,Xcx,rnC,Xaj,List.isEmpty_nil,reduceCtorEq,↓reduceIte,Qa,Qb,Qc,Qd,Qe,Qf,Qg,Qh,Qi,Qj,Qk,Ql,Qm,Qn,Qo,Qp,Qq,Qr];simp only[go_sem];exact⟨Wde,Yp6 h hn 0⟩),Kg ?_⟩)
  simp only[go_sem]
  repeat' first|((first|refine Kb ?_|refine Kv ?_);simp only[go_sem])|refine Kf ?_|refine Kg ?_
  refine Xa6 0 ?_
  simp only[go_sem]
  repeat' first|refine Kn rfl ?_|((first|refine Ka ?_|refine Kb ?_|refine Kv ?_|refine Ke ?_);simp only[go_sem])|refine Kf ?_|refine Kg ?_|apply Kp<;>intro _|((first|refine Kh ?_|refine Ki rfl ?_);simp only[or_self,Qs,Qt,Qu,Qv,Qw,Qx,Qy,Qz,Za,go_sem])
  all_goals trace_state
 ·have he:=Xio hc
  have e0:cOf g=[]:=by unfold cOf;rw[if_neg hc]
  rw[e0]
  generalize Xnf g=e at *
  repeat' first|refine Kn rfl ?_|((first|refine Ka ?_|refine Kb ?_|refine Kv ?_|refine Ke ?_);simp only[go_sem])|refine Kf ?_|refine Kg ?_|refine⟨_,c1,Kg ?_⟩|refine⟨_,⟨c1,rfl⟩,Kg ?_⟩|apply Kp<;>intro _|((first|refine Kh ?_|refine Ki rfl ?_);simp only[or_self,Qs,Qt,Qu,Qv,Qw,Qx,Qy,Qz,Za,go_sem])
  all_goals simp_all
end Go.Fw.L07
