/- Chapter 7,by definition: kids,a key's kid; the law that tells all. -/
import Derived.Test.YtejnfjophhnaeaaGreatDoorVa
import Derived.Test.YtejnfjophhnaeaaGreatDoorIa
set_option linter.all false
namespace Go.Fw.L07
open Go Go.Fw
open Go.Fw.Sh renaming intro->Kg
open Go.Fw renaming Xhi->Ka,Xef->Ka,Xed->Kb,Xhm->Kv,Xee->Ke,Xeg->Kf,Xhk->Kh,Xhj->Ki,Xdf->Kt,Xdd->Kl,Xe9->Km,Gx->Kn
open Int renaming natCast_nonneg->Kq
open And renaming intro->Kp
open Go.Proofs.Tryz renaming prog->QP
open Go.Fw.V.one renaming injEq->Qs
open Go.Fw.V.agg renaming injEq->Qt
open Go.Fw.V.tup renaming injEq->Qu
open Go.Fw.A.d renaming injEq->Qv
open Go.Fw.D.bool renaming injEq->Qw
open Go.Fw.D.int renaming injEq->Qx
open Go.Fw.D.str renaming injEq->Qy
open Go.Fw.D.sl renaming injEq->Qz
open List.cons renaming injEq->Za
set_option maxRecDepth 4000
variable {gp:Xag}
def kdO (x:Nd) (k:Int):Int:=(x.kids[k.toNat]?).getD 0
theorem Yoi (x:Nd) (hk:x.k=2) (hl:x.keys.length=x.kids.length):(Xfp x x.keys.length).map (kdO x)=Xak x:=by
 have hzl:(Xdl x).length=x.keys.length:=by unfold Xdl;simp;omega
 have h1:=Xmn x hl x.keys.length (Nat.le_refl _)
 have h2:Xak x=(Xbb Xfk (Xdl x) x.keys.length).map Pr.kid:=by
  unfold Xak
  rw[if_neg (by omega),Xcp hk hl,<- hzl]
 rw[h2,<- h1,List.map_map]
 apply List.map_congr_left
 intro k hk
 have hkr:=Xgz x _ k hk
 obtain⟨m,rfl⟩:=Int.eq_ofNat_of_zero_le hkr.1
 obtain⟨a,ha⟩:=Xaj (l:=x.keys) (i:=m) (by omega)
 obtain⟨b,hb⟩:=Xaj (l:=x.kids) (i:=m) (by omega)
 have hz:(Xdl x)[m]?=some ⟨a,b⟩:=X8l ha hb
 simp only[Function.comp,kdO,Int.toNat_natCast,hb,hz,Option.getD_some]
set_option maxHeartbeats 1000000 in
theorem Wep (g:Gr) (i0:Int) (hg:Xd9 g):Xam QP gp 47 [g.v,vi i0] (.tup [.one (.d (.sl (Xai (Xak (Xbg g.l i0))))),vi (atE g.l i0)]):=by
 refine Whb ?_
 simp only[go_sem]
 by_cases hr:0<=i0/\i0 < g.l.length
 ·obtain⟨i,rfl⟩:=Int.eq_ofNat_of_zero_le hr.1
  obtain⟨x,hx⟩:=Xaj (l:=g.l) (i:=i) (by omega)
  have hnd:Xbg g.l i=x:=by unfold Xbg;rw[if_pos hr,Int.toNat_natCast,hx];rfl
  have hat:atE g.l i=0:=by unfold atE;rw[if_pos hr]
  have hsx:=hg x (List.mem_of_getElem? hx)
  have c1:=Yb6 (gp:=gp) x
  have c2:=Yb8 (gp:=gp) x hsx.1
  rw[hnd,hat]
  by_cases hq:x.k=1
  ·have e0:(x.k==1)=true:=by simp[hq]
   have hk:Xak x=x.kids:=by unfold Xak;rw[if_pos hq]
   rw[hk]
   repeat' first|refine Kn rfl ?_|((first|refine Ka ?_|refine Kb ?_|refine Kv ?_|refine Ke ?_);simp only[Xdg,Xdh,Xdi,Xdj,Xdk,Xb5,Xb6,Xb7,Xb8,Xb9,Xca,Xcb,Xco,e0,go_sem])|refine Kf ?_|refine Kg ?_|refine⟨_,⟨Kq _,(by first|exact Xad hx|(rw[Int.toNat_natCast];exact Xad hx)),rfl⟩,Kg ?_⟩|(apply Kp<;>intro _<;>try (exfalso;omega))|((first|refine Kh ?_|refine Ki rfl ?_);simp only[Xdg,Xdh,Xdi,Xdj,Xdk,Xb5,Xb6,Xb7,Xb8,Xb9,Xca,Xcb,Xco,e0,or_self,Qs,Qt,Qu,Qv,Qw,Qx,Qy,Qz,Za,go_sem])
   all_goals first|(exfalso;omega)|skip
   refine Ka ?_
   simp only[Xcl,go_sem]
   repeat (refine Kp (by first|(simp;done)|omega|(unfold Xab;omega)|(simp;omega)) ?_)
   refine Xat 1 ?_
   simp only[go_sem]
   repeat' first|refine Kn rfl ?_|((first|refine Ka ?_|refine Kb ?_|refine Kv ?_|refine Ke ?_);simp only[Xdg,Xdh,Xdi,Xdj,Xdk,Xb5,Xcl,Xb6,Xb7,Xb8,Xb9,Xca,Xcb,Xco,go_sem])|refine Kf ?_|refine Kg ?_|apply Kp<;>intro _|((first|refine Kh ?_|refine Ki rfl ?_);simp only[Xdg,Xdh,Xdi,Xdj,Xdk,Xb5,Xcl,Xb6,Xb7,Xb8,Xb9,Xca,Xcb,Xco,or_self,Qs,Qt,Qu,Qv,Qw,Qx,Qy,Qz,Za,go_sem])
   all_goals trace_state
  ·have e0:(x.k==1)=false:=by simp[hq]
   by_cases hm:x.k=2/\x.keys.length=x.kids.length
   ·rw[decide_eq_true hm] at c1
    have hok:=Yoi x hm.1 hm.2
    have hol:=Xja x x.keys.length
    have hin:=Xgz x x.keys.length
    generalize Xfp x x.keys.length=out at *
    repeat' first|refine Kn rfl ?_|((first|refine Ka ?_|refine Kb ?_|refine Kv ?_|refine Ke ?_);simp only[Xdg,Xdh,Xdi,Xdj,Xdk,Xb5,Xcl,Xb6,Xb7,Xb8,Xb9,Xca,Xcb,Xco,e0,go_sem])|refine Kf ?_|refine Kg ?_|refine⟨_,c1,Kg ?_⟩|refine⟨_,⟨c1,rfl⟩,Kg ?_⟩|refine⟨_,c2,Kg ?_⟩|refine⟨_,⟨c2,rfl⟩,Kg ?_⟩|refine⟨_,⟨Kq _,(by first|exact Xad hx|(rw[Int.toNat_natCast];exact Xad hx)),rfl⟩,Kg ?_⟩|(apply Kp<;>intro _<;>try (exfalso;omega))|((first|refine Kh ?_|refine Ki rfl ?_);simp only[Xdg,Xdh,Xdi,Xdj,Xdk,Xb5,Xcl,Xb6,Xb7,Xb8,Xb9,Xca,Xcb,Xco,e0,or_self,Qs,Qt,Qu,Qv,Qw,Qx,Qy,Qz,Za,go_sem])
    all_goals first|(exfalso;omega)|skip
    refine Xeu 7 1 (by decide) rfl ?_
    simp only[go_sem]
    refine Kt (fr 53 [(1,vi i),(2,.one (.d (.bx [.int .i64 g.root,.sl (nds g.l)]))),(6,.one (.ptr 0 0)),(7,.one (.own 1 (0:Nat))),(8,.one (.d (.sl (Xai out)))),(9,vi (0:Nat))]) ?_
    refine Km (fun mz sz=>∃ j:Nat,j<=out.length/\mz=out.length - j/\(0<=j)/\sz=⟨fr 53 [(1,vi i),(2,.one (.d (.bx [.int .i64 g.root,.sl (nds g.l)]))),(6,.one (.ptr 0 0)),(7,.one (.own 1 j)),(8,.one (.d (.sl (Xai out)))),(9,vi j)],[.cells x.as,.row 1 j (Xai ((out.map (kdO x)).take j))]⟩) (out.length) ⟨0,Nat.zero_le _,(Nat.sub_zero _).symm,?_,rfl⟩ ?_
    ·exact Nat.zero_le _
    rintro _ _ ⟨j,hj,rfl,-,rfl⟩
    simp only[go_sem]
    by_cases hjl:j < out.length
    ·obtain⟨k,hk⟩:=Xaj hjl
     have hkr:=hin k (List.mem_of_getElem? hk)
     obtain⟨m,rfl⟩:=Int.eq_ofNat_of_zero_le hkr.1
     obtain⟨a,ha⟩:=Xaj (l:=x.kids) (i:=m) (by omega)
     have hka:(out.map (kdO x))[j]?=some a:=by rw[List.getElem?_map,hk];simp[kdO,ha]
     repeat' first|refine Kn rfl ?_|((first|refine Ka ?_|refine Kb ?_|refine Kv ?_|refine Ke ?_);simp only[Xdg,Xdh,Xdi,Xdj,Xdk,Xb5,Xcl,Xb6,Xb7,Xb8,Xb9,Xca,Xcb,Xco,go_sem])|refine Kf ?_|refine Kg ?_|refine⟨_,⟨Kq _,(by first|exact Xad hx|(rw[Int.toNat_natCast];exact Xad hx)),rfl⟩,Kg ?_⟩|refine⟨_,⟨Kq _,(by first|exact Xad hk|(rw[Int.toNat_natCast];exact Xad hk)),rfl⟩,Kg ?_⟩|refine⟨_,⟨Kq _,(by first|exact Xad ha|(rw[Int.toNat_natCast];exact Xad ha)),rfl⟩,Kg ?_⟩|(apply Kp<;>intro _<;>try (exfalso;omega))|((first|refine Kh ?_|refine Ki rfl ?_);simp only[Xdg,Xdh,Xdi,Xdj,Xdk,Xb5,Xcl,Xb6,Xb7,Xb8,Xb9,Xca,Xcb,Xco,or_self,Qs,Qt,Qu,Qv,Qw,Qx,Qy,Qz,Za,go_sem])
     all_goals first|(exfalso;omega)|skip
     refine⟨by simp,by simp;omega,by simp[Xab];omega,?_⟩
     rw[show Xai ((out.map (kdO x)).take j)++[_]=Xai ((out.map (kdO x)).take (j+1)) from Xea hka]
     repeat' first|refine Kn rfl ?_|((first|refine Ka ?_|refine Kb ?_|refine Kv ?_|refine Ke ?_);simp only[Xdg,Xdh,Xdi,Xdj,Xdk,Xb5,Xcl,Xb6,Xb7,Xb8,Xb9,Xca,Xcb,Xco,go_sem])|refine Kf ?_|refine Kg ?_|(apply Kp<;>intro _<;>try (exfalso;omega))|((first|refine Kh ?_|refine Ki rfl ?_);simp only[Xdg,Xdh,Xdi,Xdj,Xdk,Xb5,Xcl,Xb6,Xb7,Xb8,Xb9,Xca,Xcb,Xco,or_self,Qs,Qt,Qu,Qv,Qw,Qx,Qy,Qz,Za,go_sem])
     refine⟨Xaf hjl (by unfold Xab;omega),?_⟩
     refine Kt (fr 53 [(1,vi i),(2,.one (.d (.bx [.int .i64 g.root,.sl (nds g.l)]))),(6,.one (.ptr 0 0)),(7,.one (.own 1 (j+1))),(8,.one (.d (.sl (Xai out)))),(9,vi (j+1))]) ?_
     refine Kl ⟨out.length - (j+1),by omega,j+1,by omega,rfl,?_,rfl⟩
     exact Nat.zero_le _
    ·obtain rfl:out.length=j:=by omega
     rw[List.take_of_length_le (by simp),hok]
     repeat' first|refine Kn rfl ?_|((first|refine Ka ?_|refine Kb ?_|refine Kv ?_|refine Ke ?_);simp only[Xdg,Xdh,Xdi,Xdj,Xdk,Xb5,Xcl,Xb6,Xb7,Xb8,Xb9,Xca,Xcb,go_sem])|refine Kf ?_|refine Kg ?_|(apply Kp<;>intro _<;>try (exfalso;omega))|((first|refine Kh ?_|refine Ki rfl ?_);simp only[Xdg,Xdh,Xdi,Xdj,Xdk,Xb5,Xcl,Xb6,Xb7,Xb8,Xb9,Xca,Xcb,or_self,Qs,Qt,Qu,Qv,Qw,Qx,Qy,Qz,Za,go_sem])
     all_goals first|(exfalso;omega)|skip
     refine Xat 1 ?_
     simp only[go_sem]
     repeat' first|refine Kn rfl ?_|((first|refine Ka ?_|refine Kb ?_|refine Kv ?_|refine Ke ?_);simp only[Xdg,Xdh,Xdi,Xdj,Xdk,Xb5,Xcl,Xb6,Xb7,Xb8,Xb9,Xca,Xcb,Xco,go_sem])|refine Kf ?_|refine Kg ?_|apply Kp<;>intro _|((first|refine Kh ?_|refine Ki rfl ?_);simp only[Xdg,Xdh,Xdi,Xdj,Xdk,Xb5,Xcl,Xb6,Xb7,Xb8,Xb9,Xca,Xcb,Xco,or_self,Qs,Qt,Qu,Qv,Qw,Qx,Qy,Qz,Za,go_sem])
     all_goals trace_state
   ·rw[decide_eq_false hm] at c1
    have hk:Xak x=[]:=by unfold Xak Xac;rw[if_neg hq,if_neg hm];rfl
    rw[hk]
    repeat' first|refine Kn rfl ?_|((first|refine Ka ?_|refine Kb ?_|refine Kv ?_|refine Ke ?_);simp only[Xdg,Xdh,Xdi,Xdj,Xdk,Xb5,Xcl,Xb6,Xb7,Xb8,Xb9,Xca,Xcb,Xco,e0,go_sem])|refine Kf ?_|refine Kg ?_|refine⟨_,c1,Kg ?_⟩|refine⟨_,⟨c1,rfl⟩,Kg ?_⟩|refine⟨_,⟨Kq _,(by first|exact Xad hx|(rw[Int.toNat_natCast];exact Xad hx)),rfl⟩,Kg ?_⟩|(apply Kp<;>intro _<;>try (exfalso;omega))|((first|refine Kh ?_|refine Ki rfl ?_);simp only[Xdg,Xdh,Xdi,Xdj,Xdk,Xb5,Xcl,Xb6,Xb7,Xb8,Xb9,Xca,Xcb,Xco,e0,or_self,Qs,Qt,Qu,Qv,Qw,Qx,Qy,Qz,Za,go_sem])
    all_goals first|(exfalso;omega)|trace_state
 ·have hat:atE g.l i0=2:=by unfold atE;rw[if_neg hr]
  have hk:Xak (Xbg g.l i0)=[]:=by rw[Xf1 hr];rfl
  rw[hat,hk]
  repeat' first|refine Kn rfl ?_|((first|refine Ka ?_|refine Kb ?_|refine Kv ?_|refine Ke ?_);simp only[Xdg,Xdh,Xdi,Xdj,Xdk,Xb5,Xcl,Xb6,Xb7,Xb8,Xb9,Xca,Xcb,Xco,go_sem])|refine Kf ?_|refine Kg ?_|(apply Kp<;>intro _<;>try (exfalso;omega))|((first|refine Kh ?_|refine Ki rfl ?_);simp only[Xdg,Xdh,Xdi,Xdj,Xdk,Xb5,Xcl,Xb6,Xb7,Xb8,Xb9,Xca,Xcb,Xco,or_self,Qs,Qt,Qu,Qv,Qw,Qx,Qy,Qz,Za,go_sem])
  all_goals first|(exfalso;omega)|trace_state
theorem Xrw (s:ByteArray):(Wr2 s).size<=100:=by
 unfold Wr2
 rw[ByteArray.size_extract]
 omega
theorem Ygs (g:Gr):∀ x∈g.cut.l,x.short:=by
 intro x hx
 obtain⟨y,_,rfl⟩:=List.mem_map.1 hx
 refine⟨by simp[Nd.cut];omega,by simp[Nd.cut];omega,?_,fun z hz=>?_⟩
 ·exact Nat.le_trans (Xrw _) (by omega)
 ·obtain⟨u,_,rfl⟩:=List.mem_map.1 hz
  exact Nat.le_trans (Xrw _) (by omega)
end Go.Fw.L07
