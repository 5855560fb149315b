/- Chapter 7: kids as own rows. -/
import Derived.Test.YtejnfjophhnaeaaGreatDoorL07R
import Derived.Test.YtejnfjophhnaeaaGreatDoorJb
import Derived.Test.YtejnfjophhnaeaaGreatDoorL07L10Mini
import Derived.Test.YtejnfjophhnaeaaGreatDoorJa
import Derived.Test.YtejnfjophhnaeaaGreatDoorEa
set_option linter.all false
namespace Go.Fw
open Go
section
variable {S:Sx} {Y:Dyn} {k:List MI} {s:St} {a:Act} {w w':World} {H:Xag} {an:Anc} {F:Nat->Nat->Prop} {ms:List Nat}
theorem SatX.nil_row_v (h:SatX S Y s a w H an F ms) {u:Value} (hu:∃ A,u=.slice A 0 0) (sz ver:Nat) (hsz:0 < sz) :
  SatX S Y { s with own:=s.own++[.row sz ver []] } a w H (an.put s.own.length (ver,u)) (fun j b=>if j=s.own.length then False else F j b) ms:=by
 obtain⟨A,rfl⟩:=hu
 exact h.add_own (WKeep.refl w _) (fun _ hb=>hb.elim) ⟨rfl,⟨_,_,_,rfl⟩,hsz,by simp,by simp[Xab],.inl ⟨rfl,⟨_,rfl⟩,fun _ hb=>hb⟩⟩
theorem Ygj (t sz ver:Nat) (hsz:0 < sz) (ht:Xa0 s.fr t=.one .nil) (h:G S k ⟨Xbv s.fr t (.one (.own s.own.length ver)),s.own++[.row sz ver []]⟩):G S k s:=by
 rintro Y a w ⟨H,an,F,ms,hs⟩
 obtain⟨u,hu,hd⟩:=hs.fr.get (Xa8 _ _ _ ht (by simp))
 have hd:∃ A,u=.slice A 0 0:=hd
 have h1:=hs.nil_row_v hd sz ver hsz
 refine h Y a w ⟨H,_,_,ms,h1.reframe ?_⟩
 have:=Xbx s.fr a.tmps.toList t (.one (.own s.own.length ver)) u h1.fr (by
  obtain⟨A,rfl⟩:=hd
  exact⟨rfl,(ver,.slice A 0 0),by simp[Anc.put],Nat.le_refl _,fun _=>rfl⟩)
 rwa [Xiu hu] at this
end
end Go.Fw
namespace Go.Fw.L07
open Go Go.Fw
open Go.Fw.Sh renaming intro->Kg
open Go.Fw renaming Xhi->Ka,Xef->Ka,Xed->Kb,Xhm->Kv,Xee->Ke,Xeg->Kf,Xhk->Kh,Xhj->Ki,Xdf->Kt,Xnx->Kk,Xff->Ku,Xdd->Kl,Xe9->Km,Gx->Kn,Gw->Ko
open Int renaming natCast_nonneg->Kq
open List renaming getElem?_eq_some_iff->Kr
open And renaming intro->Kp
open Go.Proofs.Tryz renaming prog->QP
open Nat renaming reduceAdd->Qa,reduceSub->Qb,reduceMul->Qc,reduceLeDiff->Qd,reduceLT->Qe,reduceEqDiff->Qf
open Int renaming reduceToNat->Qg,reduceLT->Qh,reduceLE->Qi,reduceGT->Qj,reduceGE->Qk,reduceEq->Ql,reduceNe->Qm,reduceBEq->Qn,reduceBNe->Qo,reduceAdd->Qp,reduceSub->Qq,reduceNeg->Qr
open Go.Fw.V.one renaming injEq->Qs
open Go.Fw.V.agg renaming injEq->Qt
open Go.Fw.V.tup renaming injEq->Qu
open Go.Fw.A.d renaming injEq->Qv
open Go.Fw.D.bool renaming injEq->Qw
open Go.Fw.D.int renaming injEq->Qx
open Go.Fw.D.str renaming injEq->Qy
open Go.Fw.D.sl renaming injEq->Qz
open List.cons renaming injEq->Za
set_option maxRecDepth 4000
variable {gp:Xag}
theorem Xmt (l:List Int) (hl:l.length < 1000000):Tri QP gp 44 [.one (.d (.sl (Xai l)))] [] fun r post=>r=.one (.own 0 1)/\post=[.row 1 1 (Xai l)]:=by
 refine Yxy ?_
 simp only[go_sem]
 cases l with
 | nil =>
  refine Ywq 0 rfl fun q c=>?_
  cases q with
  | none =>
   simp only[go_sem]
   repeat' first|refine Kn rfl ?_|((first|refine Ka ?_|refine Kb ?_|refine Kv ?_|refine Ke ?_);simp only[Xbz,Xb0,go_sem])|refine Kf ?_|refine Kg ?_|apply Kp<;>intro _|((first|refine Kh ?_|refine Ki rfl ?_);simp only[Xbz,Xb0,or_self,Qs,Qt,Qu,Qv,Qw,Qx,Qy,Qz,Za,go_sem])
   repeat' first|refine Kn rfl ?_|((first|refine Ka ?_|refine Kb ?_|refine Kv ?_);simp only[Xcr,go_sem])|refine Kf ?_|refine Kg ?_
   refine Ygj 2 1 1 (by decide) rfl ?_
   simp only[go_sem]
   repeat' first|refine Kn rfl ?_|((first|refine Ka ?_|refine Kb ?_|refine Kv ?_|refine Ke ?_);simp only[Xbz,Xb0,Xcr,Xcw,go_sem])|refine Kf ?_|refine Kg ?_|apply Kp<;>intro _|((first|refine Kh ?_|refine Ki rfl ?_);simp only[Xbz,Xb0,Xcr,Xcw,or_self,Qs,Qt,Qu,Qv,Qw,Qx,Qy,Qz,Za,go_sem])
  | some q =>
   simp only[go_sem]
   refine Xzl ?_
   repeat' first|refine Kn rfl ?_|((first|refine Ka ?_|refine Kb ?_|refine Kv ?_|refine Ke ?_);simp only[Xbz,Xb0,go_sem])|refine Kf ?_|refine Kg ?_|apply Kp<;>intro _|((first|refine Kh ?_|refine Ki rfl ?_);simp only[Xbz,Xb0,or_self,Qs,Qt,Qu,Qv,Qw,Qx,Qy,Qz,Za,go_sem])
   refine Xss 0 rfl ?_
   simp only[go_sem]
   repeat' first|refine Kn rfl ?_|((first|refine Ka ?_|refine Kb ?_|refine Kv ?_|refine Ke ?_);simp only[Xbz,Xb0,Xcr,Xcw,go_sem])|refine Kf ?_|refine Kg ?_|apply Kp<;>intro _|((first|refine Kh ?_|refine Ki rfl ?_);simp only[Xbz,Xb0,Xcr,Xcw,or_self,Qs,Qt,Qu,Qv,Qw,Qx,Qy,Qz,Za,go_sem])
   refine⟨by simp,by simp[Xab],?_⟩
   repeat' first|refine Kn rfl ?_|((first|refine Ka ?_|refine Kb ?_|refine Kv ?_|refine Ke ?_);simp only[Xbz,Xb0,Xcr,Xcw,go_sem])|refine Kf ?_|refine Kg ?_|apply Kp<;>intro _|((first|refine Kh ?_|refine Ki rfl ?_);simp only[Xbz,Xb0,Xcr,Xcw,or_self,Qs,Qt,Qu,Qv,Qw,Qx,Qy,Qz,Za,go_sem])
 | cons x l =>
  simp only[go_sem]
  repeat' first|refine Kn rfl ?_|((first|refine Ka ?_|refine Kb ?_|refine Kv ?_|refine Ke ?_);simp only[Xbz,Xb0,Xcr,Xcw,go_sem])|refine Kf ?_|refine Kg ?_|apply Kp<;>intro _|((first|refine Kh ?_|refine Ki rfl ?_);simp only[Xbz,Xb0,Xcr,Xcw,or_self,Qs,Qt,Qu,Qv,Qw,Qx,Qy,Qz,Za,go_sem])
  refine⟨by simp,by simp at hl;omega,by simp[Xab] at hl ⊢;omega,?_⟩
  repeat' first|refine Kn rfl ?_|((first|refine Ka ?_|refine Kb ?_|refine Kv ?_|refine Ke ?_);simp only[Xbz,Xb0,Xcr,Xcw,go_sem])|refine Kf ?_|refine Kg ?_|apply Kp<;>intro _|((first|refine Kh ?_|refine Ki rfl ?_);simp only[Xbz,Xb0,Xcr,Xcw,or_self,Qs,Qt,Qu,Qv,Qw,Qx,Qy,Qz,Za,go_sem])
def Yoa (x:Nd):Nat:=if x.k=1 then 1 else (Xac x).length
theorem Yob (g:Gr) (i:Int) (hg:Xd9 g):Tri QP gp 21 [g.v,vi i] [] fun r post=>r=.tup [.one (.own 1 (Yoa (Xbg g.l i))),vi (atE g.l i)]/\post=[.dead,.row 1 (Yoa (Xbg g.l i)) (Xai (Xak (Xbg g.l i)))]:=by
 refine Yw9 ?_
 simp only[go_sem]
 refine Xgv 28 ?_
 simp only[go_sem]
 obtain⟨h1,h2⟩:=hg.at i
 have hz:=Xwr g.l i
 have ha:=Xsx (gp:=gp) g i
 generalize Xbg g.l i=x at *
 generalize atE g.l i=e at *
 generalize atN g.l i=n at *
 have hq:=Xc0 x
 repeat' first|refine Kn rfl ?_|((first|refine Ka ?_|refine Kb ?_|refine Kv ?_|refine Ke ?_);simp only[Xbn,Xbo,Xbp,Xbq,Xbr,Xa3,Xaz,Xa4,Xa5,Xa6,Xa7,go_sem])|refine Kf ?_|refine Kg ?_|refine⟨_,ha,Kg ?_⟩|refine⟨_,⟨ha,rfl⟩,Kg ?_⟩|refine⟨_,Xzw x n (by omega),Kg ?_⟩|refine⟨_,⟨Xzw x n (by omega),rfl⟩,Kg ?_⟩|apply Kp<;>intro _|((first|refine Kh ?_|refine Ki rfl ?_);simp only[Xbn,Xbo,Xbp,Xbq,Xbr,Xa3,Xaz,Xa4,Xa5,Xa6,Xa7,or_self,Qs,Qt,Qu,Qv,Qw,Qx,Qy,Qz,Za,go_sem])
 ·rename_i h
  have h:x.k=1:=by simpa using h
  have hk:Xak x=x.kids:=by unfold Xak;rw[if_pos h]
  have hv:Yoa x=1:=by unfold Yoa;rw[if_pos h]
  rw[hk,hv]
  refine Or.inr ⟨[],.one (.own 0 1),[.row 1 1 (Xai x.kids)],(by simp only[Xbu,Xfh,rnV,rnA,Xfr,rn0,Xfq,Xct,Xfd,rnC,Xao,List.isEmpty_nil,reduceCtorEq,↓reduceIte,Qa,Qb,Qc,Qd,Qe,Qf,Qg,Qh,Qi,Qj,Qk,Ql,Qm,Qn,Qo,Qp,Qq,Qr];simp only[go_sem];exact⟨Xup,Xmt x.kids (by omega)⟩),Kg ?_⟩
  simp only[go_sem]
  refine Ku 2 ?_
  simp only[go_sem]
  refine Xat 0 ?_
  simp only[go_sem]
  repeat' first|refine Kn rfl ?_|((first|refine Ka ?_|refine Kb ?_|refine Kv ?_|refine Ke ?_);simp only[Xbn,Xbo,Xbp,Xbq,Xbr,Xa3,Xaz,Xa4,Xa5,Xa6,Xa7,go_sem])|refine Kf ?_|refine Kg ?_|apply Kp<;>intro _|((first|refine Kh ?_|refine Ki rfl ?_);simp only[Xbn,Xbo,Xbp,Xbq,Xbr,Xa3,Xaz,Xa4,Xa5,Xa6,Xa7,or_self,Qs,Qt,Qu,Qv,Qw,Qx,Qy,Qz,Za,go_sem])
 ·rename_i h
  have h:¬ x.k=1:=by simpa using h
  have hk:Xak x=(Xac x).map Pr.kid:=by unfold Xak;rw[if_neg h]
  have hv:Yoa x=(Xac x).length:=by unfold Yoa;rw[if_neg (h)]
  rw[hk,hv]
  refine Xeu 8 1 (by decide) rfl ?_
  simp only[go_sem]
  refine Kt (fr 45 [(7,vi e),(8,.one (.own 1 (0:Nat))),(31,.one (.d (.sl (prs (Xac x))))),(32,vi (Xac x).length),(33,vi (0:Nat))]) ?_
  refine Km (fun mz sz=>∃ i:Nat,i<=(Xac x).length/\mz=(Xac x).length - i/\(0<=i)/\sz=⟨fr 45 [(7,vi e),(8,.one (.own 1 i)),(31,.one (.d (.sl (prs (Xac x))))),(32,vi (Xac x).length),(33,vi i)],[.cells _,.row 1 i (Xai (((Xac x).map Pr.kid).take i))]⟩) ((Xac x).length) ⟨0,Nat.zero_le _,(Nat.sub_zero _).symm,?_,rfl⟩ ?_
  ·exact Nat.zero_le _
  rintro _ _ ⟨i,hi,rfl,-,rfl⟩
  simp only[go_sem]
  by_cases hil:i < (Xac x).length
  ·obtain⟨p,hp⟩:=Xaj hil
   repeat' first|refine Kn rfl ?_|((first|refine Ka ?_|refine Kb ?_|refine Kv ?_|refine Ke ?_);simp only[Xbn,Xbo,Xbp,Xbq,Xbr,Xa3,Xaz,Xa4,Xa5,Xa6,Xa7,go_sem])|refine Kf ?_|refine Kg ?_|refine⟨_,⟨Kq _,(by first|exact Xad hp|(rw[Int.toNat_natCast];exact Xad hp)),rfl⟩,Kg ?_⟩|apply Kp<;>intro _|((first|refine Kh ?_|refine Ki rfl ?_);simp only[Xbn,Xbo,Xbp,Xbq,Xbr,Xa3,Xaz,Xa4,Xa5,Xa6,Xa7,or_self,Qs,Qt,Qu,Qv,Qw,Qx,Qy,Qz,Za,go_sem])
   ·refine⟨by simp,by simp;omega,by simp[Xab];omega,?_⟩
    rw[show Xai (((Xac x).map Pr.kid).take i)++[_]=Xai (((Xac x).map Pr.kid).take (i+1)) from Xea (by rw[List.getElem?_map,hp];rfl)]
    repeat' first|refine Kn rfl ?_|((first|refine Ka ?_|refine Kb ?_|refine Kv ?_|refine Ke ?_);simp only[Xbn,Xbo,Xbp,Xbq,Xbr,Xa3,Xaz,Xa4,Xa5,Xa6,Xa7,go_sem])|refine Kf ?_|refine Kg ?_|apply Kp<;>intro _|((first|refine Kh ?_|refine Ki rfl ?_);simp only[Xbn,Xbo,Xbp,Xbq,Xbr,Xa3,Xaz,Xa4,Xa5,Xa6,Xa7,or_self,Qs,Qt,Qu,Qv,Qw,Qx,Qy,Qz,Za,go_sem])
    refine⟨Xaf hil (by unfold Xab;omega),?_⟩
    refine Kt (fr 45 [(7,vi e),(8,.one (.own 1 (i+1))),(31,.one (.d (.sl (prs (Xac x))))),(32,vi (Xac x).length),(33,vi (i+1))]) ?_
    refine Ku 2 ?_
    simp only[go_sem]
    refine Kl ⟨(Xac x).length - (i+1),by omega,i+1,by omega,rfl,?_,rfl⟩
    exact Nat.zero_le _
   ·omega
  ·repeat refine Ko rfl ?_
   refine Ka ?_
   simp only[Xaz,go_sem]
   repeat refine Ko rfl ?_
   refine Ke ?_
   simp only[go_sem]
   refine⟨fun h=>by exfalso;omega,fun _=>Xc3 rfl ?_⟩
   obtain rfl:i=(Xac x).length:=by omega
   rw[List.take_of_length_le (by simp)]
   refine Xat 0 ?_
   simp only[go_sem]
   repeat' first|refine Kn rfl ?_|((first|refine Ka ?_|refine Kb ?_|refine Kv ?_|refine Ke ?_);simp only[Xbn,Xbo,Xbp,Xbq,Xbr,Xa3,Xaz,Xa4,Xa5,Xa6,Xa7,go_sem])|refine Kf ?_|refine Kg ?_|apply Kp<;>intro _|((first|refine Kh ?_|refine Ki rfl ?_);simp only[Xbn,Xbo,Xbp,Xbq,Xbr,Xa3,Xaz,Xa4,Xa5,Xa6,Xa7,or_self,Qs,Qt,Qu,Qv,Qw,Qx,Qy,Qz,Za,go_sem])
 ·rename_i h
  have h:x=Nd.zero:=hz (by intro h2;simp[h2] at h)
  have hk:Xak x=(Xac x).map Pr.kid:=by rw[h];rfl
  have hv:Yoa x=(Xac x).length:=by unfold Yoa;rw[if_neg (by rw[h];decide)]
  rw[hk,hv]
  refine Xeu 8 1 (by decide) rfl ?_
  simp only[go_sem]
  refine Kt (fr 45 [(7,vi e),(8,.one (.own 1 (0:Nat))),(31,.one (.d (.sl (prs (Xac x))))),(32,vi (Xac x).length),(33,vi (0:Nat))]) ?_
  refine Km (fun mz sz=>∃ i:Nat,i<=(Xac x).length/\mz=(Xac x).length - i/\(0<=i)/\sz=⟨fr 45 [(7,vi e),(8,.one (.own 1 i)),(31,.one (.d (.sl (prs (Xac x))))),(32,vi (Xac x).length),(33,vi i)],[.cells _,.row 1 i (Xai (((Xac x).map Pr.kid).take i))]⟩) ((Xac x).length) ⟨0,Nat.zero_le _,(Nat.sub_zero _).symm,?_,rfl⟩ ?_
  ·exact Nat.zero_le _
  rintro _ _ ⟨i,hi,rfl,-,rfl⟩
  simp only[go_sem]
  by_cases hil:i < (Xac x).length
  ·obtain⟨p,hp⟩:=Xaj hil
   repeat' first|refine Kn rfl ?_|((first|refine Ka ?_|refine Kb ?_|refine Kv ?_|refine Ke ?_);simp only[Xbn,Xbo,Xbp,Xbq,Xbr,Xa3,Xaz,Xa4,Xa5,Xa6,Xa7,go_sem])|refine Kf ?_|refine Kg ?_|refine⟨_,⟨Kq _,(by first|exact Xad hp|(rw[Int.toNat_natCast];exact Xad hp)),rfl⟩,Kg ?_⟩|apply Kp<;>intro _|((first|refine Kh ?_|refine Ki rfl ?_);simp only[Xbn,Xbo,Xbp,Xbq,Xbr,Xa3,Xaz,Xa4,Xa5,Xa6,Xa7,or_self,Qs,Qt,Qu,Qv,Qw,Qx,Qy,Qz,Za,go_sem])
   ·refine⟨by simp,by simp;omega,by simp[Xab];omega,?_⟩
    rw[show Xai (((Xac x).map Pr.kid).take i)++[_]=Xai (((Xac x).map Pr.kid).take (i+1)) from Xea (by rw[List.getElem?_map,hp];rfl)]
    repeat' first|refine Kn rfl ?_|((first|refine Ka ?_|refine Kb ?_|refine Kv ?_|refine Ke ?_);simp only[Xbn,Xbo,Xbp,Xbq,Xbr,Xa3,Xaz,Xa4,Xa5,Xa6,Xa7,go_sem])|refine Kf ?_|refine Kg ?_|apply Kp<;>intro _|((first|refine Kh ?_|refine Ki rfl ?_);simp only[Xbn,Xbo,Xbp,Xbq,Xbr,Xa3,Xaz,Xa4,Xa5,Xa6,Xa7,or_self,Qs,Qt,Qu,Qv,Qw,Qx,Qy,Qz,Za,go_sem])
    refine⟨Xaf hil (by unfold Xab;omega),?_⟩
    refine Kt (fr 45 [(7,vi e),(8,.one (.own 1 (i+1))),(31,.one (.d (.sl (prs (Xac x))))),(32,vi (Xac x).length),(33,vi (i+1))]) ?_
    refine Ku 2 ?_
    simp only[go_sem]
    refine Kl ⟨(Xac x).length - (i+1),by omega,i+1,by omega,rfl,?_,rfl⟩
    exact Nat.zero_le _
   ·omega
  ·repeat refine Ko rfl ?_
   refine Ka ?_
   simp only[Xaz,go_sem]
   repeat refine Ko rfl ?_
   refine Ke ?_
   simp only[go_sem]
   refine⟨fun h=>by exfalso;omega,fun _=>Xc3 rfl ?_⟩
   obtain rfl:i=(Xac x).length:=by omega
   rw[List.take_of_length_le (by simp)]
   refine Xat 0 ?_
   simp only[go_sem]
   repeat' first|refine Kn rfl ?_|((first|refine Ka ?_|refine Kb ?_|refine Kv ?_|refine Ke ?_);simp only[Xbn,Xbo,Xbp,Xbq,Xbr,Xa3,Xaz,Xa4,Xa5,Xa6,Xa7,go_sem])|refine Kf ?_|refine Kg ?_|apply Kp<;>intro _|((first|refine Kh ?_|refine Ki rfl ?_);simp only[Xbn,Xbo,Xbp,Xbq,Xbr,Xa3,Xaz,Xa4,Xa5,Xa6,Xa7,or_self,Qs,Qt,Qu,Qv,Qw,Qx,Qy,Qz,Za,go_sem])
abbrev pD (g:Gr) (c:List Int):V:=.one (.d (.bx [.int .i64 g.root,.sl (nds g.l),.sl (Xai c)]))
theorem X0f {l:List Sc} {i:Nat} {x:Sc} (h:l[i]?=some x):Xhq (l.take i)++(bT (scB x)++⟨#[44]⟩:ByteArray).data.toList=Xhq (l.take (i+1)):=by
 have e:(bT (scB x)++⟨#[44]⟩:ByteArray)=bT (scB x++[44]):=Yvq _ [44]
 rw[e]
 unfold Xhq
 rw[List.take_succ,h,List.flatMap_append]
 simp[bT]
theorem Ygk:∀ l:List Int,(l.flatMap pcR).length<=4*l.length
 | []=>Nat.le_refl _
 | r::l=>by
  have h1:=Ygh r
  have h2:=Ygk l
  simp only[List.flatMap_cons,List.length_append,List.length_cons]
  omega
theorem Ygl (s:ByteArray):∀ (f p:Nat),(sgF s f p).length<=f
 | 0,p=>by simp[sgF]
 | f+1,p=>by
  have:=Ygl s f (p+(Utf8.decode s p).2)
  simp only[sgF]
  split <;> simp <;> omega
theorem Ygm {x:Sc} (h:prR Xal x=true) (hs:x.short):(scB x).length<=1700000:=by
 have hk:=Xf4 h
 unfold Xi4 at hk
 unfold scB
 split
 ·simp
 ·split
  ·cases decide (x.n=1) <;> simp[Xj2]
  ·split
   ·have:=Lib.itoa_length_le x.n (by omega) (by omega)
    omega
   ·unfold X0l sgS
    have h1:=Xjc ((sgF x.s x.s.size 0).flatMap pcR)
    have h2:=Ygk (sgF x.s x.s.size 0)
    have h3:=Ygl x.s x.s.size 0
    unfold Sc.short at hs
    simp only[List.length_cons,List.length_append,List.length_nil]
    omega
theorem Xrt:∀ (l:List Sc),(∀ x∈l,prR Xal x=true/\x.short)->(Xhq l).length<=1700001*l.length
 | [],_=>Nat.le_refl _
 | x::l,h=>by
  have h0:=h x (by simp)
  have h1:=Ygm h0.1 h0.2
  have h2:=Xrt l fun m hm=>h m (by simp[hm])
  unfold Xhq at *
  simp only[List.flatMap_cons,List.length_append,List.length_cons,List.length_nil]
  omega
theorem Wrq (hU:Xo4 gp) (hP:Xpp gp) (g:Gr) (c:List Int) (hg:Xd9 g) (i:Int) (hk:∀ x∈Xap (Xbg g.l i),prR Xal x=true/\x.short) :
  Xam QP gp 74 [pD g c,vi i] (vs (bT (Xhq (Xap (Xbg g.l i))))):=by
 refine Wra ?_
 simp only[go_sem]
 have ck:=keys (gp:=gp) g i hg
 have hl:(Xap (Xbg g.l i)).length<=12:=by
  obtain⟨h1,h2⟩:=hg.at i
  have:=Xc0 (Xbg g.l i)
  unfold Xap;rw[List.length_map];omega
 generalize Xap (Xbg g.l i)=l at *
 generalize atE g.l i=e at *
 repeat' first|refine Kn rfl ?_|((first|refine Ka ?_|refine Kb ?_|refine Kv ?_|refine Ke ?_);simp only[go_sem])|refine Kf ?_|refine Kg ?_|refine⟨_,ck,Kg ?_⟩|refine⟨_,⟨ck,rfl⟩,Kg ?_⟩|apply Kp<;>intro _|((first|refine Kh ?_|refine Ki rfl ?_);simp only[or_self,Qs,Qt,Qu,Qv,Qw,Qx,Qy,Qz,Za,go_sem])
 refine Kt (fr 37 [(7,.one (.ptr 0 0)),(21,.one (.d (.sl (scs l)))),(22,vi l.length),(23,vi ((0:Nat):Int))]) ?_
 refine Km (fun mz sz=>∃ i:Nat,i<=l.length/\mz=l.length - i/\sz=⟨fr 37 [(7,.one (.ptr 0 0)),(21,.one (.d (.sl (scs l)))),(22,vi l.length),(23,vi (i:Int))],[.bld TB (.own 1 i),.brow TU i (Xhq (l.take i))]⟩) l.length ⟨0,Nat.zero_le _,rfl,by simp[Xhq]⟩ ?_
 rintro _ _ ⟨i,hi,rfl,rfl⟩
 simp only[go_sem]
 have hlen:=Xrt (l.take i) fun n hm=>hk n (List.mem_of_mem_take hm)
 have hlt:(l.take i).length<=12:=by simp;omega
 by_cases hil:i < l.length
 ·obtain⟨x,hx⟩:=Xaj hil
  have h0:=hk x (List.mem_of_getElem? hx)
  have c1:=Wrp hU hP x h0.1 h0.2
  have hit:=Ygm h0.1 h0.2
  have hsz:(bT (scB x)++(⟨#[44]⟩:ByteArray)).size<=1700001:=by rw[Xyv,Xpq];simp[ByteArray.size];omega
  have e1:decide ((i:Int) < (l.length:Int))=true:=decide_eq_true (by omega)
  repeat' first|refine Kn rfl ?_|((first|refine Ka ?_|refine Kb ?_|refine Kv ?_|refine Ke ?_);simp only[e1,go_sem])|refine Kf ?_|refine Kg ?_|refine⟨_,c1,Kg ?_⟩|refine⟨_,⟨c1,rfl⟩,Kg ?_⟩|refine⟨_,⟨Kq _,(by first|exact Xad hx|(rw[Int.toNat_natCast];exact Xad hx)),rfl⟩,Kg ?_⟩|apply Kp<;>intro _|((first|refine Kh ?_|refine Ki rfl ?_);simp only[e1,or_self,Qs,Qt,Qu,Qv,Qw,Qx,Qy,Qz,Za,go_sem])
  refine⟨by rw[Xpq];simp;omega,?_⟩
  have bW:=Xrp (gp:=gp) (ver:=i) (bs:=Xhq (l.take i)) (s:=bT (scB x)++⟨#[44]⟩) (by omega)
  have hsn:=X0f hx
  generalize (bT (scB x)++⟨#[44]⟩:ByteArray)=w at *
  refine Or.inr (Or.inr ⟨[0,1],.tup [vi w.size,.one (.d .nilI)],[.bld TB (.own 1 (i+1)),.brow TU (i+1) (Xhq (l.take i)++w.data.toList)],(by simp only[Xbu,Xfh,rnV,rnA,Xfr,rn0,Xfq,Xct,Xfd,rnC,Xao,List.isEmpty_nil,reduceCtorEq,↓reduceIte,Qa,Qb,Qc,Qd,Qe,Qf,Qg,Qh,Qi,Qj,Qk,Ql,Qm,Qn,Qo,Qp,Qq,Qr];simp only[go_sem];exact⟨X9m,bW⟩),Kg ?_⟩)
  simp only[go_sem]
  rw[hsn]
  refine Kt (fr 37 [(7,.one (.ptr 0 0)),(21,.one (.d (.sl (scs l)))),(22,vi l.length),(23,vi (i:Int))]) ?_
  refine Ku 2 ?_
  simp only[go_sem]
  repeat' first|refine Kn rfl ?_|((first|refine Ka ?_|refine Kb ?_|refine Kv ?_|refine Ke ?_);simp only[go_sem])|refine Kf ?_|refine Kg ?_|apply Kp<;>intro _|((first|refine Kh ?_|refine Ki rfl ?_);simp only[or_self,Qs,Qt,Qu,Qv,Qw,Qx,Qy,Qz,Za,go_sem])
  refine⟨Xaf hil (by unfold Xab;omega),?_⟩
  refine Kt (fr 37 [(7,.one (.ptr 0 0)),(21,.one (.d (.sl (scs l)))),(22,vi l.length),(23,vi (i+1))]) ?_
  exact Kl ⟨l.length - (i+1),by omega,i+1,by omega,rfl,rfl⟩
 ·obtain rfl:i=l.length:=by omega
  rw[List.take_of_length_le (Nat.le_refl _)]
  have e1:decide ((l.length:Int) < (l.length:Int))=false:=decide_eq_false (by omega)
  repeat' first|refine Kn rfl ?_|((first|refine Ka ?_|refine Kb ?_|refine Kv ?_|refine Ke ?_);simp only[e1,go_sem])|refine Kf ?_|refine Kg ?_|apply Kp<;>intro _|((first|refine Kh ?_|refine Ki rfl ?_);simp only[e1,or_self,Qs,Qt,Qu,Qv,Qw,Qx,Qy,Qz,Za,go_sem])
  refine Or.inr (Or.inr ⟨[0,1],vs (bT (Xhq l)),[.dead,.dead],(by simp only[Xbu,Xfh,rnV,rnA,Xfr,rn0,Xfq,Xct,Xfd,rnC,Xao,List.isEmpty_nil,reduceCtorEq,↓reduceIte,Qa,Qb,Qc,Qd,Qe,Qf,Qg,Qh,Qi,Qj,Qk,Ql,Qm,Qn,Qo,Qp,Qq,Qr];simp only[go_sem];exact⟨by kernel_rfl,Xj4⟩),Kg ?_⟩)
  simp only[go_sem]
  repeat' first|refine Kn rfl ?_|((first|refine Ka ?_|refine Kb ?_|refine Kv ?_|refine Ke ?_);simp only[go_sem])|refine Kf ?_|refine Kg ?_|apply Kp<;>intro _|((first|refine Kh ?_|refine Ki rfl ?_);simp only[or_self,Qs,Qt,Qu,Qv,Qw,Qx,Qy,Qz,Za,go_sem])
def Xf5 (c:List Int) (i:Int):Int:=c[i.toNat]?.getD 0
structure SayT where
 k:Int
 x:Sc
 ks:List UInt8
 ns:List UInt8
 deriving DecidableEq
def Xyw (c:List Int) (x:Nd):SayT:=⟨x.k,x.x,Xhq (Xap x),Xhp ((Xak x).map (Xf5 c))⟩
abbrev Yvr (s:SayT):V:=.agg [.d (.int .i64 s.k),.d (.int .i64 s.x.k),.d (.int .i64 s.x.n),.d (.str s.x.s),.d (.str (bT s.ks)),.d (.str (bT s.ns))]
def X0o (c l:List Int) (i:Nat):List Int:=(l.take i).map (Xf5 c)++l.drop i
theorem Wei (c l:List Int) (i:Nat) (h:i<=l.length):(X0o c l i).length=l.length:=by simp[X0o];omega
theorem Wrr {c l:List Int} {i:Nat} {j:Int} (h:l[i]?=some j):(X0o c l i)[i]?=some j:=by
 have:=(Kr.1 h).1
 unfold X0o
 rw[List.getElem?_append_right (by rw[List.length_map,List.length_take];omega)]
 simp only[List.getElem?_drop,List.length_map,List.length_take]
 rw[show i+(i - min i l.length)=i by omega,h]
theorem Wej {c l:List Int} {i:Nat} {j y:Int} (h:l[i]?=some j) (hy:c[j.toNat]?=some y):(Xai (X0o c l i)).set i [.int .i64 y]=Xai (X0o c l (i+1)):=by
 have hi:=(Kr.1 h).1
 have e:Xf5 c j=y:=by unfold Xf5;rw[hy];rfl
 have:Xai (X0o c l i)=(Xai ((l.take i).map (Xf5 c)))++([.int .i64 j]::Xai (l.drop (i+1))):=by
  unfold X0o
  rw[List.drop_eq_getElem_cons hi]
  have:l[i]=j:=by rw[List.getElem?_eq_getElem hi] at h;exact Option.some.inj h
  simp[Xai,this]
 rw[this,List.set_append_right _ _ (by simp[Xai];omega)]
 have hz:i - (Xai ((l.take i).map (Xf5 c))).length=0:=by simp[Xai];omega
 rw[hz,List.set_cons_zero]
 unfold X0o
 rw[List.take_succ,h]
 simp[Xai,e]
theorem Xel {l:List Int} {i:Nat} {x:Int} (h:l[i]?=some x):(Xai l)[i]?=some [.int .i64 x]:=by rw[List.getElem?_map,h];rfl
theorem Ygn {l:List Nd} {i:Nat} {x:Nd} (h:l[i]?=some x):(nds l)[i]?=some x.ds:=by rw[List.getElem?_map,h];rfl
theorem Yvs (hU:Xo4 gp) (hP:Xpp gp) (g:Gr) (c:List Int) (hg:Xd9 g) (m:Int) (hi:inL g.l m) (hk:∀ x∈Xap (Xbg g.l m),prR Xal x=true/\x.short)
  (hc:∀ j∈Xak (Xbg g.l m),0<=j/\∃ x,c[j.toNat]?=some x/\okI x):Xam QP gp 45 [pD g c,vi m] (Yvr (Xyw c (Xbg g.l m))):=by
 refine Wqg ?_
 simp only[go_sem]
 refine Xgv 15 ?_
 simp only[go_sem]
 have hx:=Xrn hi
 have hi0:=hi.1
 have ck:=Yob (gp:=gp) g m hg
 have hl:=Xhd (Xbg g.l m) 12 (hg.at m)
 have c1:=Wrq hU hP g c hg m hk
 have c2:=Weh hP ((Xak (Xbg g.l m)).map (Xf5 c)) (fun n hn=>by
  obtain⟨j,hj,rfl⟩:=List.mem_map.1 hn
  obtain⟨_,x,h1,h2⟩:=hc j hj
  unfold Xf5;rw[h1];exact h2) (by simp;omega)
 unfold Xyw
 generalize Xbg g.l m=x at *
 generalize Xak x=l at *
 generalize Yoa x=v at *
 generalize atE g.l m=e at *
 repeat' first|refine Kn rfl ?_|((first|refine Ka ?_|refine Kb ?_|refine Kv ?_|refine Ke ?_);simp only[go_sem])|refine Kf ?_|refine Kg ?_|apply Kp<;>intro _|((first|refine Kh ?_|refine Ki rfl ?_);simp only[or_self,Qs,Qt,Qu,Qv,Qw,Qx,Qy,Qz,Za,go_sem])
 refine Or.inr ⟨[],.tup [.one (.own 1 v),vi e],[.dead,.row 1 v (Xai l)],(by simp only[Xbu,Xfh,rnV,rnA,Xfr,rn0,Xfq,Xct,Xfd,rnC,Xao,List.isEmpty_nil,reduceCtorEq,↓reduceIte,Qa,Qb,Qc,Qd,Qe,Qf,Qg,Qh,Qi,Qj,Qk,Ql,Qm,Qn,Qo,Qp,Qq,Qr];simp only[go_sem];exact⟨Yo8,ck⟩),Kg ?_⟩
 simp only[go_sem]
 repeat' first|refine Kn rfl ?_|((first|refine Ka ?_|refine Kb ?_|refine Kv ?_|refine Ke ?_);simp only[go_sem])|refine Kf ?_|refine Kg ?_|apply Kp<;>intro _|((first|refine Kh ?_|refine Ki rfl ?_);simp only[or_self,Qs,Qt,Qu,Qv,Qw,Qx,Qy,Qz,Za,go_sem])
 refine Kt (fr 60 [(0,pD g c),(1,vi m),(4,.one (.ptr 0 0)),(5,.one (.own 2 v)),(18,.one (.own 2 v)),(19,vi l.length),(20,vi ((0:Nat):Int))]) ?_
 refine Ku 3 ?_
 simp only[go_sem]
 refine Kt (fr 60 [(0,pD g c),(1,vi m),(4,.one (.ptr 0 0)),(5,.one (.own 2 v)),(18,.one (.own 2 v)),(19,vi l.length),(20,vi (0:Nat))]) ?_
 refine Km (fun mz sz=>∃ i:Nat,i<=l.length/\mz=l.length - i/\(0<=i)/\sz=⟨fr 60 [(0,pD g c),(1,vi m),(4,.one (.ptr 0 0)),(5,.one (.own 2 v)),(18,.one (.own 2 v)),(19,vi l.length),(20,vi i)],[.cells [.d (.int .i64 0),.d (.int .i64 0),.d (.int .i64 0),.d (.str ⟨#[]⟩),.d (.str ⟨#[]⟩),.d (.str ⟨#[]⟩)],.dead,.row 1 v (Xai (X0o c l i))]⟩) (l.length) ⟨0,Nat.zero_le _,(Nat.sub_zero _).symm,?_,rfl⟩ ?_
 ·exact Nat.zero_le _
 rintro _ _ ⟨i,hkl,rfl,-,rfl⟩
 simp only[go_sem]
 by_cases hil:i < l.length
 ·obtain⟨j,hj⟩:=Xaj hil
  obtain⟨hj0,y,hy,_⟩:=hc j (List.mem_of_getElem? hj)
  have hm:=Wrr (c:=c) hj
  have hml:=Wei c l i (by omega)
  have e1:decide ((i:Int) < (l.length:Int))=true:=decide_eq_true (by omega)
  repeat' first|refine Kn rfl ?_|((first|refine Ka ?_|refine Kb ?_|refine Kv ?_|refine Ke ?_);simp only[e1,go_sem])|refine Kf ?_|refine Kg ?_|refine⟨_,⟨Kq _,(by first|exact Xad hm|(rw[Int.toNat_natCast];exact Xad hm)),rfl⟩,Kg ?_⟩|refine⟨_,⟨Kq _,(by first|exact Xad hy|(rw[Int.toNat_natCast];exact Xad hy)),rfl⟩,Kg ?_⟩|apply Kp<;>intro _|((first|refine Kh ?_|refine Ki rfl ?_);simp only[e1,or_self,Qs,Qt,Qu,Qv,Qw,Qx,Qy,Qz,Za,go_sem])
  refine⟨Kq _,by omega,_,⟨Xel hm,Nat.le_refl _⟩,Kg ?_⟩
  simp only[go_sem]
  repeat' first|refine Kn rfl ?_|((first|refine Ka ?_|refine Kb ?_|refine Kv ?_|refine Ke ?_);simp only[go_sem])|refine Kf ?_|refine Kg ?_|refine⟨_,⟨hj0,Xel hy,rfl⟩,Kg ?_⟩|apply Kp<;>intro _|((first|refine Kh ?_|refine Ki rfl ?_);simp only[or_self,Qs,Qt,Qu,Qv,Qw,Qx,Qy,Qz,Za,go_sem])
  refine⟨Kq _,by omega,_,⟨Xel hm,Nat.le_refl _⟩,Kg ?_⟩
  simp only[go_sem]
  rw[Wej hj hy]
  repeat' first|refine Kn rfl ?_|((first|refine Ka ?_|refine Kb ?_|refine Kv ?_|refine Ke ?_);simp only[go_sem])|refine Kf ?_|refine Kg ?_|apply Kp<;>intro _|((first|refine Kh ?_|refine Ki rfl ?_);simp only[or_self,Qs,Qt,Qu,Qv,Qw,Qx,Qy,Qz,Za,go_sem])
  refine⟨Xaf hil (by unfold Xab;omega),?_⟩
  refine Kt (fr 60 [(0,pD g c),(1,vi m),(4,.one (.ptr 0 0)),(5,.one (.own 2 v)),(18,.one (.own 2 v)),(19,vi l.length),(20,vi (i+1))]) ?_
  refine Ku 3 ?_
  simp only[go_sem]
  refine Kl ⟨l.length - (i+1),by omega,i+1,by omega,rfl,?_,rfl⟩
  exact Nat.zero_le _
 ·obtain rfl:i=l.length:=by omega
  have e1:decide ((l.length:Int) < (l.length:Int))=false:=decide_eq_false (by omega)
  have hm:X0o c l l.length=l.map (Xf5 c):=by simp[X0o]
  rw[hm]
  repeat' first|refine Kn rfl ?_|((first|refine Ka ?_|refine Kb ?_|refine Kv ?_|refine Ke ?_);simp only[e1,go_sem])|refine Kf ?_|refine Kg ?_|refine⟨_,c1,Kg ?_⟩|refine⟨_,⟨c1,rfl⟩,Kg ?_⟩|refine⟨_,c2,Kg ?_⟩|refine⟨_,⟨c2,rfl⟩,Kg ?_⟩|refine⟨_,⟨hi0,Ygn hx,rfl⟩,Kg ?_⟩|apply Kp<;>intro _|((first|refine Kh ?_|refine Ki rfl ?_);simp only[e1,or_self,Qs,Qt,Qu,Qv,Qw,Qx,Qy,Qz,Za,go_sem])
  all_goals trace_state
section
variable {α:Type} [DecidableEq α] {kag:Bool} {ks:List Leaf} {kv:α->V}
def Ygo (kv:α->V) (k:Nat) (l:List α):List (V × V):=(l.zipIdx k).map fun p=>(kv p.1,vi (p.2:Int))
theorem Xmu (k:Nat) (a:α) (l:List α):Ygo kv k (a::l)=(kv a,vi (k:Int))::Ygo kv (k+1) l:=by simp[Ygo,List.zipIdx_cons]
theorem Xru (he:∀ a b,eqV kag ks (kv a) (kv b)=some (decide (a=b))):∀ (l:List α) (k:Nat) (x:α),Xep kag ks (Ygo kv k l) (kv x)=some (if x∈l then some (vi ((l.idxOf x+k:Nat):Int)) else none)
 | [],k,x=>by simp[Ygo,Xep]
 | a::l,k,x=>by
  rw[Xmu]
  simp only[Xep,he]
  by_cases h:x=a
  ·subst h;simp
  ·have h':¬ a=x:=fun e=>h e.symm
   simp only[h,decide_false,Xru he l (k+1) x,List.mem_cons,false_or]
   split
   ·rw[List.idxOf_cons]
    have:(a==x)=false:=by simp[h']
    rw[this]
    simp;omega
   ·rfl
theorem Xyx (he:∀ a b,eqV kag ks (kv a) (kv b)=some (decide (a=b))):∀ (l:List α) (k:Nat) (x:α),x ∉ l->Xob kag ks (Ygo kv k l) (kv x) (vi ((k+l.length:Nat):Int))=some (Ygo kv k (l++[x]))
 | [],k,x,_=>by simp[Ygo,Xob]
 | a::l,k,x,h=>by
  simp only[List.mem_cons,not_or] at h
  rw[Xmu,List.cons_append,Xmu]
  have ih:=Xyx he l (k+1) x h.2
  rw[show k+1+l.length=k+(a::l).length from by simp;omega] at ih
  simp only[Xob,he,h.1,decide_false,ih]
theorem Yoc (l:List α):(Ygo kv 0 l).length=l.length:=by simp[Ygo]
end
theorem Yvt {a b:List UInt8}:bT a=bT b↔a=b:=by
 constructor
 ·intro h
  have:=congrArg (fun x:ByteArray=>x.data.toList) h
  simpa [bT] using this
 ·rintro rfl;rfl
abbrev kS:List Leaf:=[.i,.i,.i,.s,.s,.s]
theorem Ygp (a b:SayT):eqV true kS (Yvr a) (Yvr b)=some (decide (a=b)):=by
 obtain⟨k,⟨k2,n,s⟩,u,v⟩:=a
 obtain⟨k',⟨k2',n',s'⟩,u',v'⟩:=b
 simp only[go_sem]
 congr 1
 rw[Bool.eq_iff_iff]
 simp[Yvt,and_assoc]
def Xyy (l:List SayT):List (V × V):=Ygo Yvr 0 l
theorem Xrv (l:List SayT) (x:SayT):Xep true kS (Xyy l) (Yvr x)=some (if x∈l then some (vi (l.idxOf x:Int)) else none):=Xru Ygp l 0 x
theorem Yod {l:List SayT} {x:SayT} (h:x ∉ l):Xob true kS (Xyy l) (Yvr x) (vi (l.length:Int))=some (Xyy (l++[x])):=by
 have:=Xyx Ygp l 0 x h
 rwa [Nat.zero_add] at this
theorem Xf6 (l:List SayT):(Xyy l).length=l.length:=Yoc l
theorem Xjd (l:List SayT):(Ch.map (Xyy l)).refs=[]:=by
 simp only[Ch.refs]
 rw[List.flatMap_eq_nil_iff]
 intro e he
 obtain⟨a,_,rfl⟩:=List.mem_map.1 he
 rfl
abbrev pC (g:Gr) (v:Nat):Ch:=.cells [.d (.int .i64 g.root),.d (.sl (nds g.l)),.own 1 v]
theorem Wun (g:Gr) (hl:g.l.length<=1000):Tri QP gp 37 [g.v] [] fun r post=>r=.one (.ptr 1 0)/\post=[.row 1 0 (Xai (Xb1 g.l.length)),.cells [.d (.int .i64 g.root),.d (.sl (nds g.l)),.own 0 0]]:=by
 refine Wbq ?_
 simp only[go_sem]
 repeat' first|refine Kn rfl ?_|((first|refine Ka ?_|refine Kb ?_|refine Kv ?_|refine Ke ?_);simp only[go_sem])|refine Kf ?_|refine Kg ?_|apply Kp<;>intro _|((first|refine Kh ?_|refine Ki rfl ?_);simp only[or_self,Qs,Qt,Qu,Qv,Qw,Qx,Qy,Qz,Za,go_sem])
 refine⟨by omega,by omega,by unfold Xab;omega,?_⟩
 repeat' first|refine Kn rfl ?_|((first|refine Ka ?_|refine Kb ?_|refine Kv ?_|refine Ke ?_);simp only[go_sem])|refine Kf ?_|refine Kg ?_|apply Kp<;>intro _|((first|refine Kh ?_|refine Ki rfl ?_);simp only[or_self,Qs,Qt,Qu,Qv,Qw,Qx,Qy,Qz,Za,go_sem])
 simp[Xai,Xb1]
theorem Wek (g:Gr) (c:List Int) (v:Nat):Tri QP gp 97 [.one (.ptr 0 0)] [pC g v,.row 1 v (Xai c)] fun r post =>
  r=.one (.clo (.func 125) [.ptr 2 0])/\post=[pC g v,.row 1 v (Xai c),.cells [.ptr 0 0]]:=by
 refine Wd2 ?_
 simp only[go_sem]
 repeat' first|refine Kn rfl ?_|((first|refine Ka ?_|refine Kb ?_|refine Kv ?_|refine Ke ?_);simp only[go_sem])|refine Kf ?_|refine Kg ?_|apply Kp<;>intro _|((first|refine Kh ?_|refine Ki rfl ?_);simp only[or_self,Qs,Qt,Qu,Qv,Qw,Qx,Qy,Qz,Za,go_sem])
 all_goals trace_state
def Xje (l:List Nd) (c:List Int):List SayT:=l.map (Xyw c)
theorem Xhh (l:List Nd) (c:List Int):(Xje l c).length=l.length:=by simp[Xje]
structure Neat (g:Gr):Prop where
 f:Fine g.l
 s:∀ x∈g.l,x.short
 len:g.l.length<=1000
theorem Neat.small {g:Gr} (h:Neat g):Xd9 g:=h.f.small
theorem X0g {x:Nd} {n:Int} (h:Xa9 Xal x n=true):∀ y∈Xap x,prR Xal y=true:=by
 by_cases hk:x.k=2
 ·have h1:=(Xh4 h hk).1
  obtain⟨m1,_,_⟩:=Xgx h hk
  intro y hy
  unfold Xap at hy
  rw[Xcp hk m1] at hy
  have:=((Xek (Xdl x)).map Pr.key).mem_iff.1 hy
  rw[Xi6 m1] at this
  exact (List.all_eq_true.1 h1) y this
 ·intro y hy
  unfold Xap at hy
  rw[Xf2 hk] at hy
  cases hy
theorem Yoe {x:Nd}:∀ y∈Xap x,y∈x.keys:=by
 intro y hy
 by_cases hk:x.k=2/\x.keys.length=x.kids.length
 ·unfold Xap at hy
  rw[Xcp hk.1 hk.2] at hy
  have:=((Xek (Xdl x)).map Pr.key).mem_iff.1 hy
  rwa [Xi6 hk.2] at this
 ·unfold Xap Xac at hy
  rw[if_neg hk] at hy
  cases hy
theorem Neat.keys {g:Gr} (h:Neat g) {i:Int} (hi:inL g.l i):∀ y∈Xap (Xbg g.l i),prR Xal y=true/\y.short:=fun y hy =>
 ⟨X0g (h.f.node _ (Xo5 hi)) y hy,(h.s _ (Xo5 hi)).2.2.2 y (Yoe y hy)⟩
structure ClsOK (l:List Nd) (c:List Int):Prop where
 len:c.length=l.length
 ok:∀ n∈c,okI n
theorem ClsOK.kid {g:Gr} {c:List Int} (h:ClsOK g.l c) (hf:Fine g.l) (i:Int):∀ j∈Xak (Xbg g.l i),0<=j/\∃ x,c[j.toNat]?=some x/\okI x:=fun j hj=>by
 have hi:=hf.kid i j hj
 unfold inL at hi
 obtain⟨x,hx⟩:=Xaj (l:=c) (i:=j.toNat) (by rw[h.len];omega)
 exact⟨hi.1,x,hx,h.ok x (List.mem_of_getElem? hx)⟩
theorem Wrs {α:Type} [DecidableEq α] {l:List α} (hl:l.length<=1000):∀ n∈rkp l,okI n:=fun n hn=>by
 obtain⟨a,ha,rfl⟩:=List.mem_map.1 hn
 have h1:=List.idxOf_lt_length_of_mem (Xbs.2 ha)
 have h2:=Ycb l
 unfold okI
 omega
theorem Ygq {g:Gr} (h:Neat g) (c:List Int):ClsOK g.l (rkp (Xje g.l c)):=⟨by rw[Xj0,Xhh],Wrs (by rw[Xhh];exact h.len)⟩
def Xh7 (R:List Int) (n i:Nat):List Int:=R.take i++Xb1 (n - i)
theorem Yof {R:List Int} {n i:Nat} {y:Int} (hn:R.length=n) (h:R[i]?=some y):i < (Xai (Xh7 R n i)).length/\(Xai (Xh7 R n i))[i]?=some [.int .i64 0]/\(Xai (Xh7 R n i)).set i [.int .i64 y]=Xai (Xh7 R n (i+1)):=by
 have hi:=(Kr.1 h).1
 obtain⟨d,hd⟩:∃ d,n - i=d+1:=⟨n - i - 1,by omega⟩
 have hd2:n - (i+1)=d:=by omega
 unfold Xh7
 rw[hd,hd2,List.take_succ,h]
 have hz:(Xai (R.take i)).length=i:=by simp[Xai];omega
 have e:Xai (R.take i++Xb1 (d+1))=Xai (R.take i)++([.int .i64 0]::Xai (Xb1 d)):=by simp[Xai,Xb1,List.replicate_succ]
 rw[e]
 refine⟨by simp[Xai];omega,?_,?_⟩
 ·rw[List.getElem?_append_right (by omega),hz,Nat.sub_self];rfl
 ·rw[List.set_append_right _ _ (by omega),hz,Nat.sub_self,List.set_cons_zero]
  simp[Xai]
theorem Yog {R:List Int} {n:Nat} (hn:R.length=n):Xh7 R n n=R:=by
 unfold Xh7
 rw[Nat.sub_self,List.take_of_length_le (by omega)]
 simp[Xb1]
theorem Ygr (l:List SayT) (j:Nat) (c:Ch):We5 j c (.map (Xyy l))=.map (Xyy l):=by
 simp only[We5,Ch.map.injEq]
 conv=>rhs;rw[<- List.map_id (Xyy l)]
 apply List.map_congr_left
 intro e he
 obtain⟨a,_,rfl⟩:=List.mem_map.1 he
 rfl
theorem Xti {l:List Nd} {c:List Int} {i:Nat} {x:Nd} (h:l[i]?=some x):(Xje l c)[i]?=some (Xyw c x):=by unfold Xje;rw[List.getElem?_map,h];rfl
set_option maxHeartbeats 2000000 in
theorem Wel (hU:Xo4 gp) (hP:Xpp gp) {g:Gr} (hn:Neat g) {c:List Int} (hc:ClsOK g.l c) (v:Nat) :
  Tri QP gp 71 [.one (.ptr 0 0)] [pC g v,.row 1 v (Xai c)] fun r post =>
   r=vi ((ddp (Xje g.l c)).length:Int)/\post=[pC g v,.row 1 v (Xai (rkp (Xje g.l c)))]:=by
 have hSl:=Xhh g.l c
 have hcl:=hc.len
 have hgl:=hn.len
 have hnode:∀ i:Nat,∀ x,g.l[i]?=some x->∃ s,(Xje g.l c)[i]?=some s/\Xam QP gp 45 [pD g c,vi i] (Yvr s):=fun i x hx=>by
  have hi:inL g.l i:=(Xkn hx).1
  refine⟨_,Xti hx,?_⟩
  have:=Yvs hU hP g c hn.small i hi (hn.keys hi) (hc.kid hn.f i)
  rwa [(Xkn hx).2] at this
 generalize Xje g.l c=S at *
 have hRl:(rkp S).length=g.l.length:=by rw[Xj0,hSl]
 refine Wdr ?_
 simp only[go_sem]
 repeat' first|refine Kn rfl ?_|((first|refine Ka ?_|refine Kb ?_|refine Kv ?_|refine Ke ?_);simp only[go_sem])|refine Kf ?_|refine Kg ?_|apply Kp<;>intro _|((first|refine Kh ?_|refine Ki rfl ?_);simp only[or_self,Qs,Qt,Qu,Qv,Qw,Qx,Qy,Qz,Za,go_sem])
 refine⟨by omega,by omega,by unfold Xab;omega,?_⟩
 repeat' first|refine Kn rfl ?_|((first|refine Ka ?_|refine Kb ?_|refine Kv ?_|refine Ke ?_);simp only[go_sem])|refine Kf ?_|refine Kg ?_|apply Kp<;>intro _|((first|refine Kh ?_|refine Ki rfl ?_);simp only[or_self,Qs,Qt,Qu,Qv,Qw,Qx,Qy,Qz,Za,go_sem])
 refine Or.inr (Or.inr ⟨[0,1],.one (.clo (.func 125) [.ptr 2 0]),[pC g v,.row 1 v (Xai c),.cells [.ptr 0 0]],(by simp only[Xbu,Xfh,rnV,rnA,Xfr,rn0,Xfq,Xct,Xfd,rnC,Xao,List.isEmpty_nil,reduceCtorEq,↓reduceIte,Qa,Qb,Qc,Qd,Qe,Qf,Qg,Qh,Qi,Qj,Qk,Ql,Qm,Qn,Qo,Qp,Qq,Qr];simp only[go_sem];exact⟨Wrl,Wek g c v⟩),Kg ?_⟩)
 simp only[go_sem]
 repeat' first|refine Kn rfl ?_|((first|refine Ka ?_|refine Kb ?_|refine Kv ?_|refine Ke ?_);simp only[go_sem])|refine Kf ?_|refine Kg ?_|apply Kp<;>intro _|((first|refine Kh ?_|refine Ki rfl ?_);simp only[or_self,Qs,Qt,Qu,Qv,Qw,Qx,Qy,Qz,Za,go_sem])
 refine Wsc (f2:=125) (caps:=[.one (.ptr 6 0)]) (fun pd own'=>pd=none/\∃ rest,own'=pC g v::.row 1 v (Xai c)::.map (Xyy (ddp S))::.cells [.own 2 0]::.row 1 0 (Xai (rkp S))::.cells [.own 4 0]::.cells [.ptr 0 0]::rest) rfl ?_ Wd7 ?_ ?_ ?_
 ·intro y;simp only[go_sem]
 ·rintro b rc hps ⟨hs,hta,htb⟩
  refine Yn2 ?_
  simp only[go_sem]
  repeat' first|refine Kn rfl ?_|((first|refine Ka ?_|refine Kb ?_|refine Kv ?_|refine Ke ?_);simp only[go_sem])|refine Kf ?_|refine Kg ?_|apply Kp<;>intro _|((first|refine Kh ?_|refine Ki rfl ?_);simp only[or_self,Qs,Qt,Qu,Qv,Qw,Qx,Qy,Qz,Za,go_sem])
  rw[show (List.replicate c.length [D.int IntKind.i64 0])=Xai (Xh7 (rkp S) g.l.length 0) from by simp[Xh7,Xai,Xb1,hcl]]
  refine Kt (fr 21 [(0,.one (.d (.raw (.func (.yield b) #[] #[])))),(1,.one (.ptr 6 0)),(9,vi g.l.length),(10,vi (0:Nat))]) ?_
  refine Km (fun mz sz=>∃ i:Nat,i<=g.l.length/\mz=g.l.length - i/\(0<=i)/\sz=⟨fr 21 [(0,.one (.d (.raw (.func (.yield b) #[] #[])))),(1,.one (.ptr 6 0)),(9,vi g.l.length),(10,vi i)],[pC g v,.row 1 v (Xai c),.map (Xyy (ddp (S.take i))),.cells [.own 2 0],.row 1 0 (Xai (Xh7 (rkp S) g.l.length i)),.cells [.own 4 0],.cells [.ptr 0 0],.dead,.lp b _ rc .ready none]⟩) (g.l.length) ⟨0,Nat.zero_le _,(Nat.sub_zero _).symm,?_,rfl⟩ ?_
  ·exact Nat.zero_le _
  rintro _ _ ⟨i,hi,rfl,-,rfl⟩
  simp only[go_sem]
  by_cases hil:i < g.l.length
  ·obtain⟨x,hx⟩:=Xaj hil
   obtain⟨s,hs1,hs2⟩:=hnode i x hx
   have e1:decide ((i:Int) < (g.l.length:Int))=true:=decide_eq_true (by omega)
   obtain⟨f1,f2,f3⟩:=Yof hRl (Xkm hs1)
   have hfl:i < (Xh7 (rkp S) g.l.length i).length:=by simpa [Xai] using f1
   have hnx:=Xyk hs1
   have hit:=Xyj hs1 (Nat.lt_succ_self i)
   have hmem:s∈ddp (S.take (i+1)):=Xbs.2 (Xhe.2 ⟨i,Nat.lt_succ_self i,hs1⟩)
   have hf2:=Xrv (ddp (S.take (i+1))) s
   rw[if_pos hmem,hit] at hf2
   have hf1:=Xrv (ddp (S.take i)) s
   generalize ((ddp S).idxOf s:Int)=y at *
   repeat' first|refine Kn rfl ?_|((first|refine Ka ?_|refine Kb ?_|refine Kv ?_|refine Ke ?_);simp only[e1,go_sem])|refine Kf ?_|refine Kg ?_|(apply Kp<;>intro _<;>try (exfalso;omega))|((first|refine Kh ?_|refine Ki rfl ?_);simp only[e1,or_self,Qs,Qt,Qu,Qv,Qw,Qx,Qy,Qz,Za,go_sem])
   refine Or.inl ⟨_,⟨hs2,rfl⟩,Kg ?_⟩
   simp only[go_sem]
   repeat' first|refine Kn rfl ?_|((first|refine Ka ?_|refine Kb ?_|refine Kv ?_|refine Ke ?_);simp only[go_sem])|refine Kf ?_|refine Kg ?_|(apply Kp<;>intro _<;>try (exfalso;omega))|((first|refine Kh ?_|refine Ki rfl ?_);simp only[or_self,Qs,Qt,Qu,Qv,Qw,Qx,Qy,Qz,Za,go_sem])
   by_cases hm:s∈S.take i
   ·rw[if_pos hm] at hnx
    rw[if_pos (Xbs.2 hm),<- hnx.2] at hf1
    rw[<- hnx.2]
    refine⟨[pC g v,.row 1 v (Xai c),.map (Xyy (ddp (S.take (i+1)))),.cells [.own 2 0],.row 1 0 (Xai (Xh7 (rkp S) g.l.length (i+1))),.cells [.own 4 0],.cells [.ptr 0 0],.dead,.lp b _ rc .ready none,.cells [.d (.int .i64 s.k),.d (.int .i64 s.x.k),.d (.int .i64 s.x.n),.d (.str s.x.s),.d (.str (bT s.ks)),.d (.str (bT s.ns))]],true,by simp,⟨8,_,rc,hs,_,_,[pC g v,.row 1 v (Xai c),.map (Xyy (ddp (S.take (i+1)))),.cells [.own 2 0],.row 1 0 (Xai (Xh7 (rkp S) g.l.length (i+1))),.cells [.own 4 0],.cells [.ptr 0 0],.dead,.dead,.cells [.d (.int .i64 s.k),.d (.int .i64 s.x.k),.d (.int .i64 s.x.n),.d (.str s.x.s),.d (.str (bT s.ks)),.d (.str (bT s.ns))]],none,rfl,by rw[<- Array.length_toList,hps];rfl,hta,htb,?_,rfl,rfl⟩,Kg ?_⟩
    ·rw[hps]
     simp only[go_sem]
     repeat' first|refine Kn rfl ?_|((first|refine Ka ?_|refine Kb ?_|refine Kv ?_|refine Ke ?_);simp only[go_sem])|refine Kf ?_|refine Kg ?_|apply Kp<;>intro _|((first|refine Kh ?_|refine Ki rfl ?_);simp only[or_self,Qs,Qt,Qu,Qv,Qw,Qx,Qy,Qz,Za,go_sem])
     refine Xor ⟨rfl,?_⟩
     repeat' first|refine Kn rfl ?_|((first|refine Ka ?_|refine Kb ?_|refine Kv ?_|refine Ke ?_);simp only[Xf6,go_sem])|refine Kf ?_|refine Kg ?_|refine⟨_,⟨hf2,rfl⟩,Kg ?_⟩|refine⟨Kq _,hfl,_,⟨f2,Nat.le_refl _⟩,Kg ?_⟩|apply Kp<;>intro _|((first|refine Kh ?_|refine Ki rfl ?_);simp only[Xf6,or_self,Qs,Qt,Qu,Qv,Qw,Qx,Qy,Qz,Za,go_sem])
     exact Xor ⟨⟨rfl,rfl⟩,by rw[<- f3];rfl⟩
    ·simp only[go_sem]
     repeat' first|refine Kn rfl ?_|((first|refine Ka ?_|refine Kb ?_|refine Kv ?_|refine Ke ?_);simp only[go_sem])|refine Kf ?_|refine Kg ?_|apply Kp<;>intro _|((first|refine Kh ?_|refine Ki rfl ?_);simp only[or_self,Qs,Qt,Qu,Qv,Qw,Qx,Qy,Qz,Za,go_sem])
     refine⟨Xaf hil (by unfold Xab;omega),?_⟩
     refine Kt (fr 21 [(0,.one (.d (.raw (.func (.yield b) #[] #[])))),(1,.one (.ptr 6 0)),(9,vi g.l.length),(10,vi (i+1))]) ?_
     refine Kk 9 (by simp only[List.length_nil,List.length_cons];decide) (by simp only[go_sem]) (by simp only[List.take_succ_cons,List.take_zero,List.all_cons,List.all_nil,Xjd];try simp only[go_sem]) ?_
     simp only[go_sem]
     refine Kl ⟨g.l.length - (i+1),by omega,i+1,by omega,rfl,?_,rfl⟩
     exact Nat.zero_le _
   ·rw[if_neg hm] at hnx
    have hm':s ∉ ddp (S.take i):=fun h=>hm (Xbs.1 h)
    rw[if_neg hm'] at hf1
    have hput:=Yod hm'
    rw[<- hnx.2] at hput
    refine⟨[pC g v,.row 1 v (Xai c),.map (Xyy (ddp (S.take (i+1)))),.cells [.own 2 0],.row 1 0 (Xai (Xh7 (rkp S) g.l.length (i+1))),.cells [.own 4 0],.cells [.ptr 0 0],.dead,.lp b _ rc .ready none,.cells [.d (.int .i64 s.k),.d (.int .i64 s.x.k),.d (.int .i64 s.x.n),.d (.str s.x.s),.d (.str (bT s.ks)),.d (.str (bT s.ns))]],true,by simp,⟨8,_,rc,hs,_,_,[pC g v,.row 1 v (Xai c),.map (Xyy (ddp (S.take (i+1)))),.cells [.own 2 0],.row 1 0 (Xai (Xh7 (rkp S) g.l.length (i+1))),.cells [.own 4 0],.cells [.ptr 0 0],.dead,.dead,.cells [.d (.int .i64 s.k),.d (.int .i64 s.x.k),.d (.int .i64 s.x.n),.d (.str s.x.s),.d (.str (bT s.ks)),.d (.str (bT s.ns))]],none,rfl,by rw[<- Array.length_toList,hps];rfl,hta,htb,?_,rfl,rfl⟩,Kg ?_⟩
    ·rw[hps]
     simp only[go_sem]
     repeat' first|refine Kn rfl ?_|((first|refine Ka ?_|refine Kb ?_|refine Kv ?_|refine Ke ?_);simp only[go_sem])|refine Kf ?_|refine Kg ?_|apply Kp<;>intro _|((first|refine Kh ?_|refine Ki rfl ?_);simp only[or_self,Qs,Qt,Qu,Qv,Qw,Qx,Qy,Qz,Za,go_sem])
     refine Xor ⟨rfl,?_⟩
     repeat' first|refine Kn rfl ?_|((first|refine Ka ?_|refine Kb ?_|refine Kv ?_|refine Ke ?_);simp only[Xf6,go_sem])|refine Kf ?_|refine Kg ?_|refine⟨_,⟨hf1,rfl⟩,Kg ?_⟩|refine⟨_,hput,Kg ?_⟩|refine⟨_,⟨hf2,rfl⟩,Kg ?_⟩|refine⟨Kq _,hfl,_,⟨f2,Nat.le_refl _⟩,Kg ?_⟩|apply Kp<;>intro _|((first|refine Kh ?_|refine Ki rfl ?_);simp only[Xf6,or_self,Qs,Qt,Qu,Qv,Qw,Qx,Qy,Qz,Za,go_sem])
     exact Xor ⟨⟨rfl,rfl⟩,by rw[<- f3];rfl⟩
    ·simp only[go_sem]
     repeat' first|refine Kn rfl ?_|((first|refine Ka ?_|refine Kb ?_|refine Kv ?_|refine Ke ?_);simp only[go_sem])|refine Kf ?_|refine Kg ?_|apply Kp<;>intro _|((first|refine Kh ?_|refine Ki rfl ?_);simp only[or_self,Qs,Qt,Qu,Qv,Qw,Qx,Qy,Qz,Za,go_sem])
     refine⟨Xaf hil (by unfold Xab;omega),?_⟩
     refine Kt (fr 21 [(0,.one (.d (.raw (.func (.yield b) #[] #[])))),(1,.one (.ptr 6 0)),(9,vi g.l.length),(10,vi (i+1))]) ?_
     refine Kk 9 (by simp only[List.length_nil,List.length_cons];decide) (by simp only[go_sem]) (by simp only[List.take_succ_cons,List.take_zero,List.all_cons,List.all_nil,Xjd];try simp only[go_sem]) ?_
     simp only[go_sem]
     refine Kl ⟨g.l.length - (i+1),by omega,i+1,by omega,rfl,?_,rfl⟩
     exact Nat.zero_le _
  ·obtain rfl:i=g.l.length:=by omega
   have e1:decide ((g.l.length:Int) < (g.l.length:Int))=false:=decide_eq_false (by omega)
   rw[List.take_of_length_le (by omega),Yog hRl]
   repeat' first|refine Kn rfl ?_|((first|refine Ka ?_|refine Kb ?_|refine Kv ?_|refine Ke ?_);simp only[e1,go_sem])|refine Kf ?_|refine Kg ?_|apply Kp<;>intro _|((first|refine Kh ?_|refine Ki rfl ?_);simp only[e1,or_self,Qs,Qt,Qu,Qv,Qw,Qx,Qy,Qz,Za,go_sem])
   exact⟨.ready,none,rfl,by simp,rfl,_,rfl⟩
 ·rintro own' ⟨_,rest,rfl⟩
  simp only[go_sem]
  refine Kk 7 (by simp only[List.length_nil,List.length_cons];decide) (by simp only[go_sem]) (by simp only[List.take_succ_cons,List.take_zero,List.all_cons,List.all_nil,Xjd];simp only[go_sem]) ?_
  simp only[go_sem]
  refine Xat 4 ?_
  simp only[Wr0,Xao,List.map_cons,List.map_nil,Ygr]
  simp only[go_sem]
  repeat' first|refine Kn rfl ?_|((first|refine Ka ?_|refine Kb ?_|refine Kv ?_|refine Ke ?_);simp only[Xf6,go_sem])|refine Kf ?_|refine Kg ?_|apply Kp<;>intro _|((first|refine Kh ?_|refine Ki rfl ?_);simp only[Xf6,or_self,Qs,Qt,Qu,Qv,Qw,Qx,Qy,Qz,Za,go_sem])
  refine⟨fun p hp=>by obtain⟨_,_,rfl⟩:=List.mem_map.1 hp;rfl,by omega,?_⟩
  repeat refine Ko rfl ?_
  refine Ka ?_
  simp only[Xf6,go_sem]
  refine Kt (fr 46 [(2,vi ((ddp S).length:Int))]) ?_
  refine Kk 2 (by simp only[List.length_nil,List.length_cons];decide) (by simp only[go_sem]) (by simp only[List.take_succ_cons,List.take_zero,List.all_cons,List.all_nil,Xjd];simp only[go_sem]) ?_
  simp only[go_sem]
  refine Ki rfl ?_
  simp only[or_self,Qs,Qt,Qu,Qv,Qw,Qx,Qy,Qz,Za,go_sem]
 ·rintro _ _ ⟨h,_⟩;cases h
structure Env10 (gp:Xag):Prop where
 e:Env gp
 p:Xpp gp
theorem Yvu {g:Gr} (hn:Neat g) {c:List Int} (hc:ClsOK g.l c) {i j:Int} (hi:inL g.l i) (hj:inL g.l j):Xyw c (Xbg g.l i)=Xyw c (Xbg g.l j)↔X0m (Xbg g.l i) c=X0m (Xbg g.l j) c:=by
 have hk:∀ i:Int,(Xak (Xbg g.l i)).map (fun k=>c[k.toNat]?)=(Xak (Xbg g.l i)).map (fun k=>some (Xf5 c k)):=fun i=>by
  refine List.map_congr_left fun k hk=>?_
  obtain⟨_,x,h1,_⟩:=hc.kid hn.f i k hk
  unfold Xf5;rw[h1];rfl
 unfold Xyw X0m
 rw[hk i,hk j,SayT.mk.injEq,Say.mk.injEq]
 have e1:Xhq (Xap (Xbg g.l i))=Xhq (Xap (Xbg g.l j))↔Xap (Xbg g.l i)=Xap (Xbg g.l j) :=
  ⟨Yck (fun x hx=>(hn.keys hi x hx).1) (fun x hx=>(hn.keys hj x hx).1),fun e=>by rw[e]⟩
 have e2:Xhp ((Xak (Xbg g.l i)).map (Xf5 c))=Xhp ((Xak (Xbg g.l j)).map (Xf5 c))↔(Xak (Xbg g.l i)).map (fun k=>some (Xf5 c k))=(Xak (Xbg g.l j)).map (fun k=>some (Xf5 c k)):=by
  rw[show (Xak (Xbg g.l i)).map (fun k=>some (Xf5 c k))=((Xak (Xbg g.l i)).map (Xf5 c)).map some from by rw[List.map_map];rfl,
   show (Xak (Xbg g.l j)).map (fun k=>some (Xf5 c k))=((Xak (Xbg g.l j)).map (Xf5 c)).map some from by rw[List.map_map];rfl]
  rw[(List.map_inj_right (f:=some) (by intro a b e;exact Option.some.inj e))]
  exact⟨Yce,fun e=>by rw[e]⟩
 rw[e1,e2]
theorem Yoh {g:Gr} (hn:Neat g) {c:List Int} (hc:ClsOK g.l c) (i j:Nat) (hi:i < g.l.length) (hj:j < g.l.length):(Xje g.l c)[i]?=(Xje g.l c)[j]?↔(Xgd g.l c)[i]?=(Xgd g.l c)[j]?:=by
 obtain⟨x,hx⟩:=Xaj hi
 obtain⟨y,hy⟩:=Xaj hj
 obtain⟨h1,h2⟩:=Xkn hx
 obtain⟨h3,h4⟩:=Xkn hy
 have:=Yvu hn hc h1 h3
 rw[h2,h4] at this
 rw[Xti hx,Xti hy,show (Xgd g.l c)[i]?=some (X0m x c) from by unfold Xgd;rw[List.getElem?_map,hx];rfl,show (Xgd g.l c)[j]?=some (X0m y c) from by unfold Xgd;rw[List.getElem?_map,hy];rfl]
 rw[Option.some.injEq,Option.some.injEq]
 exact this
theorem Xpr {g:Gr} (hn:Neat g) {c:List Int} (hc:ClsOK g.l c):rkp (Xje g.l c)=rnd (Xgd g.l) c/\(ddp (Xje g.l c)).length=cnt (Xgd g.l) c:=by
 have hl:(Xje g.l c).length=(Xgd g.l c).length:=by rw[Xhh,Xpl]
 have hk:=Yoh hn hc
 refine⟨Xta hl fun i j hi hj=>by rw[Xhh] at hi hj;exact hk i j hi hj,?_⟩
 unfold cnt
 apply Nat.le_antisymm
 ·exact Xym hl.symm fun i j hi hj e=>by rw[Xpl] at hi hj;exact (hk i j hi hj).2 e
 ·exact Xym hl fun i j hi hj e=>by rw[Xhh] at hi hj;exact (hk i j hi hj).1 e
theorem Xk7 {g:Gr}:ClsOK g.l (Xb1 g.l.length):=⟨by simp[Xb1],fun n hn=>by
 obtain⟨_,rfl⟩:=List.mem_replicate.1 hn
 unfold okI;omega⟩
theorem X0h {σ:Type} [DecidableEq σ] {f:List Int->List σ} {k n m:Nat} {c:List Int} (h:¬ n < m):Xho f k n m c=c:=by
 cases k with
 | zero=>rfl
 | succ k=>simp only[Xho];rw[if_neg h]
set_option maxHeartbeats 1000000 in
theorem Xyz (h:Env10 gp) {g:Gr} (hn:Neat g) (v:Nat):Tri QP gp 38 [.one (.ptr 0 0)] [pC g v,.row 1 v (Xai (Xb1 g.l.length))] fun r post =>
  r=.one (.own 1 v)/\post=[pC g v,.row 1 v (Xai (Xc5 g.l))]:=by
 have hr:∀ c,ClsOK g.l c->Tri QP gp 71 [.one (.ptr 0 0)] [pC g v,.row 1 v (Xai c)] fun r post =>
   r=vi (cnt (Xgd g.l) c:Int)/\post=[pC g v,.row 1 v (Xai (rnd (Xgd g.l) c))]:=fun c hc=>by
  have:=Wel h.e.u h.p hn hc v
  rwa [(Xpr hn hc).1,(Xpr hn hc).2] at this
 have hok:∀ c,ClsOK g.l c->ClsOK g.l (rnd (Xgd g.l) c):=fun c hc=>by
  rw[<- (Xpr hn hc).1];exact Ygq hn c
 have hcn:∀ c,cnt (Xgd g.l) c<=g.l.length:=hn.f.parts.cnt_le
 have hgl:=hn.len
 refine Wbt ?_
 simp only[go_sem]
 repeat' first|refine Kn rfl ?_|((first|refine Ka ?_|refine Kb ?_|refine Kv ?_|refine Ke ?_);simp only[go_sem])|refine Kf ?_|refine Kg ?_|apply Kp<;>intro _|((first|refine Kh ?_|refine Ki rfl ?_);simp only[or_self,Qs,Qt,Qu,Qv,Qw,Qx,Qy,Qz,Za,go_sem])
 refine Or.inr (Or.inr ⟨[0,1],vi (cnt (Xgd g.l) (Xb1 g.l.length):Int),[pC g v,.row 1 v (Xai (rnd (Xgd g.l) (Xb1 g.l.length)))],(by simp only[Xbu,Xfh,rnV,rnA,Xfr,rn0,Xfq,Xct,Xfd,rnC,Xao,List.isEmpty_nil,reduceCtorEq,↓reduceIte,Qa,Qb,Qc,Qd,Qe,Qf,Qg,Qh,Qi,Qj,Qk,Ql,Qm,Qn,Qo,Qp,Qq,Qr];simp only[go_sem];exact⟨Yu7,hr _ Xk7⟩),Kg ?_⟩)
 simp only[go_sem]
 repeat' first|refine Kn rfl ?_|((first|refine Ka ?_|refine Kb ?_|refine Kv ?_|refine Ke ?_);simp only[go_sem])|refine Kf ?_|refine Kg ?_|apply Kp<;>intro _|((first|refine Kh ?_|refine Ki rfl ?_);simp only[or_self,Qs,Qt,Qu,Qv,Qw,Qx,Qy,Qz,Za,go_sem])
 refine Kt (fr 20 [(0,.one (.ptr 0 0)),(3,.one (.mvo (.func 71) false [.ptr 0 0])),(4,vi ((0:Nat):Int)),(5,vi (cnt (Xgd g.l) (Xb1 g.l.length):Int))]) ?_
 refine Ku 2 ?_
 simp only[go_sem]
 refine Km (fun mz sz=>∃ (k n m:Nat) (c:List Int),mz=k/\Xho (Xgd g.l) k n m c=Xc5 g.l/\ClsOK g.l c/\g.l.length+1<=k+n/\m<=g.l.length/\n<=g.l.length/\sz=⟨fr 20 [(0,.one (.ptr 0 0)),(3,.one (.mvo (.func 71) false [.ptr 0 0])),(4,vi (n:Int)),(5,vi (m:Int))],[pC g v,.row 1 v (Xai c)]⟩) _ ⟨g.l.length+1,0,_,_,rfl,rfl,hok _ Xk7,by omega,hcn _,by omega,rfl⟩ ?_
 rintro k _ ⟨_,n,m,c,rfl,hp,hc,h1,h2,h3,rfl⟩
 simp only[go_sem]
 by_cases hlt:n < m
 ·obtain⟨k',rfl⟩:∃ k',k=k'+1:=⟨k - 1,by omega⟩
  simp only[Xho] at hp
  rw[if_pos hlt] at hp
  have e1:decide ((m:Int) > (n:Int))=true:=decide_eq_true (by omega)
  repeat' first|refine Kn rfl ?_|((first|refine Ka ?_|refine Kb ?_|refine Kv ?_|refine Ke ?_);simp only[e1,go_sem])|refine Kf ?_|refine Kg ?_|apply Kp<;>intro _|((first|refine Kh ?_|refine Ki rfl ?_);simp only[e1,or_self,Qs,Qt,Qu,Qv,Qw,Qx,Qy,Qz,Za,go_sem])
  refine Or.inr (Or.inr ⟨[0,1],vi (cnt (Xgd g.l) c:Int),[pC g v,.row 1 v (Xai (rnd (Xgd g.l) c))],(by simp only[Xbu,Xfh,rnV,rnA,Xfr,rn0,Xfq,Xct,Xfd,rnC,Xao,List.isEmpty_nil,reduceCtorEq,↓reduceIte,Qa,Qb,Qc,Qd,Qe,Qf,Qg,Qh,Qi,Qj,Qk,Ql,Qm,Qn,Qo,Qp,Qq,Qr];simp only[go_sem];exact⟨Yu7,hr _ hc⟩),Kg ?_⟩)
  simp only[go_sem]
  repeat' first|refine Kn rfl ?_|((first|refine Ka ?_|refine Kb ?_|refine Kv ?_|refine Ke ?_);simp only[go_sem])|refine Kf ?_|refine Kg ?_|apply Kp<;>intro _|((first|refine Kh ?_|refine Ki rfl ?_);simp only[or_self,Qs,Qt,Qu,Qv,Qw,Qx,Qy,Qz,Za,go_sem])
  refine Kt (fr 20 [(0,.one (.ptr 0 0)),(3,.one (.mvo (.func 71) false [.ptr 0 0])),(4,vi (m:Int)),(5,vi (cnt (Xgd g.l) c:Int))]) ?_
  refine Ku 2 ?_
  simp only[go_sem]
  exact Kl ⟨k',by omega,k',m,_,_,rfl,hp,hok _ hc,by omega,hcn _,by omega,rfl⟩
 ·rw[X0h hlt] at hp
  have e1:decide ((m:Int) > (n:Int))=false:=decide_eq_false (by omega)
  rw[hp]
  repeat' first|refine Kn rfl ?_|((first|refine Ka ?_|refine Kb ?_|refine Kv ?_|refine Ke ?_);simp only[e1,go_sem])|refine Kf ?_|refine Kg ?_|apply Kp<;>intro _|((first|refine Kh ?_|refine Ki rfl ?_);simp only[e1,or_self,Qs,Qt,Qu,Qv,Qw,Qx,Qy,Qz,Za,go_sem])
  all_goals trace_state
def cOf (g:Gr):List Int:=if chk g=none then Xc5 g.l else []
theorem Xps {g:Gr} (h:Good g):cOf g=Xc5 g.l:=by unfold cOf;rw[if_pos h.c]
theorem Good.neat {g:Gr} (h:Good g) (hs:∀ x∈g.l,x.short):Neat g:=⟨h.fine,hs,Nat.le_trans h.len (by omega)⟩
theorem Xmv (h:Env10 gp) (g:Gr) (hs:Xd9 g) (hst:∀ x∈g.l,x.short):Xam QP gp 14 [g.v] (.tup [.one (.d (.sl (Xai (cOf g)))),vi (Xf3 g)]):=by
 refine Wn8 ?_
 simp only[go_sem]
 have c1:Xam QP gp 36 [g.v] (.tup [vi ((chk g).getD (0,0)).1,vi (Xf3 g)]):=Xwt h.e g
 refine Xgv 15 ?_
 simp only[go_sem]
 by_cases hc:chk g=none
 ·have hg:Good g:=⟨hc,hs⟩
  have hn:=hg.neat hst
  rw[Xps hg,Xcu hc]
  rw[Xcu hc] at c1
  repeat' first|refine Kn rfl ?_|((first|refine Ka ?_|refine Kb ?_|refine Kv ?_|refine Ke ?_);simp only[go_sem])|refine Kf ?_|refine Kg ?_|refine⟨_,c1,Kg ?_⟩|refine⟨_,⟨c1,rfl⟩,Kg ?_⟩|apply Kp<;>intro _|((first|refine Kh ?_|refine Ki rfl ?_);simp only[or_self,Qs,Qt,Qu,Qv,Qw,Qx,Qy,Qz,Za,go_sem])
  refine Or.inr ⟨[],.one (.ptr 1 0),[.row 1 0 (Xai (Xb1 g.l.length)),.cells [.d (.int .i64 g.root),.d (.sl (nds g.l)),.own 0 0]],(by simp only[Xbu,Xfh,rnV,rnA,Xfr,rn0,Xfq,Xct,Xfd,rnC,Xao,List.isEmpty_nil,reduceCtorEq,↓reduceIte,Qa,Qb,Qc,Qd,Qe,Qf,Qg,Qh,Qi,Qj,Qk,Ql,Qm,Qn,Qo,Qp,Qq,Qr];simp only[go_sem];exact⟨Yel,Wun g hn.len⟩),Kg ?_⟩
  simp only[go_sem]
  repeat' first|refine Kn rfl ?_|((first|refine Ka ?_|refine Kb ?_|refine Kv ?_|refine Ke ?_);simp only[go_sem])|refine Kf ?_|refine Kg ?_|apply Kp<;>intro _|((first|refine Kh ?_|refine Ki rfl ?_);simp only[or_self,Qs,Qt,Qu,Qv,Qw,Qx,Qy,Qz,Za,go_sem])
  refine Or.inr (Or.inr ⟨[1,0],.one (.own 1 0),[pC g 0,.row 1 0 (Xai (Xc5 g.l))],(by simp only[Xbu,Xfh,rnV,rnA,Xfr,rn0,Xfq,Xct,Xfd,rnC,Xao,List.isEmpty_nil,reduceCtorEq,↓reduceIte,Qa,Qb,Qc,Qd,Qe,Qf,Qg,Qh,Qi,Qj,Qk,Ql,Qm,Qn,Qo,Qp,Qq,Qr];simp only[go_sem];exact⟨Yt4,Xyz h hn 0⟩),Kg ?_⟩)
  simp only[go_sem]
  repeat' first|((first|refine Kb ?_|refine Kv ?_);simp only[go_sem])|refine Kf ?_|refine Kg ?_
  refine Xat 0 ?_
  simp only[go_sem]
  repeat' first|refine Kn rfl ?_|((first|refine Ka ?_|refine Kb ?_|refine Kv ?_|refine Ke ?_);simp only[go_sem])|refine Kf ?_|refine Kg ?_|apply Kp<;>intro _|((first|refine Kh ?_|refine Ki rfl ?_);simp only[or_self,Qs,Qt,Qu,Qv,Qw,Qx,Qy,Qz,Za,go_sem])
  all_goals trace_state
 ·have he:=Xk1 hc
  have e0:cOf g=[]:=by unfold cOf;rw[if_neg hc]
  rw[e0]
  generalize Xf3 g=e at *
  repeat' first|refine Kn rfl ?_|((first|refine Ka ?_|refine Kb ?_|refine Kv ?_|refine Ke ?_);simp only[go_sem])|refine Kf ?_|refine Kg ?_|refine⟨_,c1,Kg ?_⟩|refine⟨_,⟨c1,rfl⟩,Kg ?_⟩|apply Kp<;>intro _|((first|refine Kh ?_|refine Ki rfl ?_);simp only[or_self,Qs,Qt,Qu,Qv,Qw,Qx,Qy,Qz,Za,go_sem])
  all_goals simp_all
end Go.Fw.L07
