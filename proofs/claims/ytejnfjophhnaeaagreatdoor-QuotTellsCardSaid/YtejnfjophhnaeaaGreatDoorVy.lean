/- Chapter 7,by definition: kids,a key's kid; the law that tells all. -/
import Derived.Test.YtejnfjophhnaeaaGreatDoorVa
import Derived.Test.YtejnfjophhnaeaaGreatDoorIa
set_option linter.all false
namespace Go.Fw.L07
open Go Go.Fw
open Go.Fw.Sh renaming intro->Kg
open Go.Fw renaming Xhj->Ka,Xev->Kb,Xhm->Kv,Xew->Ke,Xex->Kf,Xhl->Kh,Xhk->Ki,Xdt->Kt,Xdr->Kl,Xfh->Km,Gx->Kn
open Int renaming natCast_nonneg->Kq
open And renaming intro->Kp
open Go.Proofs.Tryz renaming prog->QP
open Go.Fw.V.one renaming injEq->Qs
open Go.Fw.V.agg renaming injEq->Qt
open Go.Fw.V.tup renaming injEq->Qu
open Go.Fw.A.d renaming injEq->Qv
open Go.Fw.D.bool renaming injEq->Qw
open Go.Fw.D.int renaming injEq->Qx
open Go.Fw.D.str renaming injEq->Qy
open Go.Fw.D.sl renaming injEq->Qz
open List.cons renaming injEq->Za
set_option maxRecDepth 4000
variable {gp:Xal}
def kdO (x:Nd) (k:Int):Int:=(x.kids[k.toNat]?).getD 0
theorem Yry (x:Nd) (hk:x.k=2) (hl:x.keys.length=x.kids.length):(Xfx x x.keys.length).map (kdO x)=Xaf x:=by
 have hzl:(Xcu x).length=x.keys.length:=by unfold Xcu;simp;omega
 have h1:=Xm5 x hl x.keys.length (Nat.le_refl _)
 have h2:Xaf x=(Xa9 Xfs (Xcu x) x.keys.length).map Pr.kid:=by
  unfold Xaf
  rw[if_neg (by omega),Xbu hk hl,<- hzl]
 rw[h2,<- h1,List.map_map]
 apply List.map_congr_left
 intro k hk
 have hkr:=Xg4 x _ k hk
 obtain⟨m,rfl⟩:=Int.eq_ofNat_of_zero_le hkr.1
 obtain⟨a,ha⟩:=Xai (l:=x.keys) (i:=m) (by omega)
 obtain⟨b,hb⟩:=Xai (l:=x.kids) (i:=m) (by omega)
 have hz:(Xcu x)[m]?=some ⟨a,b⟩:=X98 ha hb
 simp only[Function.comp,kdO,Int.toNat_natCast,hb,hz,Option.getD_some]
set_option maxHeartbeats 1000000 in
theorem Yif (g:Gr) (i0:Int) (hg:Xc7 g):Xak QP gp 47 [g.v,vi i0] (.tup [.one (.d (.sl (Xag (Xaf (Xau g.l i0))))),vi (atE g.l i0)]):=by
 refine Wpx ?_
 simp only[go_sem]
 by_cases hr:0<=i0/\i0 < g.l.length
 ·obtain⟨i,rfl⟩:=Int.eq_ofNat_of_zero_le hr.1
  obtain⟨x,hx⟩:=Xai (l:=g.l) (i:=i) (by omega)
  have hnd:Xau g.l i=x:=by unfold Xau;rw[if_pos hr,Int.toNat_natCast,hx];rfl
  have hat:atE g.l i=0:=by unfold atE;rw[if_pos hr]
  have hsx:=hg x (List.mem_of_getElem? hx)
  have c1:=Yfh (gp:=gp) x
  have c2:=Yfj (gp:=gp) x hsx.1
  rw[hnd,hat]
  by_cases hq:x.k=1
  ·have e0:(x.k==1)=true:=by simp[hq]
   have hk:Xaf x=x.kids:=by unfold Xaf;rw[if_pos hq]
   rw[hk]
   repeat' first|refine Kn rfl ?_|((first|refine Ka ?_|refine Kb ?_|refine Kv ?_|refine Ke ?_);simp only[Xdu,Xdv,Xdw,Xdx,Xdy,Xb6,Xb7,Xb8,Xb9,Xca,Xcb,Xcc,Xcz,e0,go_sem])|refine Kf ?_|refine Kg ?_|refine⟨_,⟨Kq _,(by first|exact Xab hx|(rw[Int.toNat_natCast];exact Xab hx)),rfl⟩,Kg ?_⟩|(apply Kp<;>intro _<;>try (exfalso;omega))|((first|refine Kh ?_|refine Ki rfl ?_);simp only[Xdu,Xdv,Xdw,Xdx,Xdy,Xb6,Xb7,Xb8,Xb9,Xca,Xcb,Xcc,Xcz,e0,or_self,Qs,Qt,Qu,Qv,Qw,Qx,Qy,Qz,Za,go_sem])
   all_goals first|(exfalso;omega)|skip
   refine Ka ?_
   simp only[Xcw,go_sem]
   repeat (refine Kp (by first|(simp;done)|omega|(unfold Xac;omega)|(simp;omega)) ?_)
   refine Xar 1 ?_
   simp only[go_sem]
   repeat' first|refine Kn rfl ?_|((first|refine Ka ?_|refine Kb ?_|refine Kv ?_|refine Ke ?_);simp only[Xdu,Xdv,Xdw,Xdx,Xdy,Xb6,Xcw,Xb7,Xb8,Xb9,Xca,Xcb,Xcc,Xcz,go_sem])|refine Kf ?_|refine Kg ?_|apply Kp<;>intro _|((first|refine Kh ?_|refine Ki rfl ?_);simp only[Xdu,Xdv,Xdw,Xdx,Xdy,Xb6,Xcw,Xb7,Xb8,Xb9,Xca,Xcb,Xcc,Xcz,or_self,Qs,Qt,Qu,Qv,Qw,Qx,Qy,Qz,Za,go_sem])
   all_goals trace_state
  ·have e0:(x.k==1)=false:=by simp[hq]
   by_cases hm:x.k=2/\x.keys.length=x.kids.length
   ·rw[decide_eq_true hm] at c1
    have hok:=Yry x hm.1 hm.2
    have hol:=Xi7 x x.keys.length
    have hin:=Xg4 x x.keys.length
    generalize Xfx x x.keys.length=out at *
    repeat' first|refine Kn rfl ?_|((first|refine Ka ?_|refine Kb ?_|refine Kv ?_|refine Ke ?_);simp only[Xdu,Xdv,Xdw,Xdx,Xdy,Xb6,Xcw,Xb7,Xb8,Xb9,Xca,Xcb,Xcc,Xcz,e0,go_sem])|refine Kf ?_|refine Kg ?_|refine⟨_,c1,Kg ?_⟩|refine⟨_,⟨c1,rfl⟩,Kg ?_⟩|refine⟨_,c2,Kg ?_⟩|refine⟨_,⟨c2,rfl⟩,Kg ?_⟩|refine⟨_,⟨Kq _,(by first|exact Xab hx|(rw[Int.toNat_natCast];exact Xab hx)),rfl⟩,Kg ?_⟩|(apply Kp<;>intro _<;>try (exfalso;omega))|((first|refine Kh ?_|refine Ki rfl ?_);simp only[Xdu,Xdv,Xdw,Xdx,Xdy,Xb6,Xcw,Xb7,Xb8,Xb9,Xca,Xcb,Xcc,Xcz,e0,or_self,Qs,Qt,Qu,Qv,Qw,Qx,Qy,Qz,Za,go_sem])
    all_goals first|(exfalso;omega)|skip
    refine Xds 7 1 (by decide) rfl ?_
    simp only[go_sem]
    refine Kt (fr 53 [(1,vi i),(2,.one (.d (.bx [.int .i64 g.root,.sl (nds g.l)]))),(6,.one (.ptr 0 0)),(7,.one (.own 1 (0:Nat))),(8,.one (.d (.sl (Xag out)))),(9,vi (0:Nat))]) ?_
    refine Km (fun mz sz=>∃ j:Nat,j<=out.length/\mz=out.length - j/\(0<=j)/\sz=⟨fr 53 [(1,vi i),(2,.one (.d (.bx [.int .i64 g.root,.sl (nds g.l)]))),(6,.one (.ptr 0 0)),(7,.one (.own 1 j)),(8,.one (.d (.sl (Xag out)))),(9,vi j)],[.cells x.as,.row 1 j (Xag ((out.map (kdO x)).take j))]⟩) (out.length) ⟨0,Nat.zero_le _,(Nat.sub_zero _).symm,?_,rfl⟩ ?_
    ·exact Nat.zero_le _
    rintro _ _ ⟨j,hj,rfl,-,rfl⟩
    simp only[go_sem]
    by_cases hjl:j < out.length
    ·obtain⟨k,hk⟩:=Xai hjl
     have hkr:=hin k (List.mem_of_getElem? hk)
     obtain⟨m,rfl⟩:=Int.eq_ofNat_of_zero_le hkr.1
     obtain⟨a,ha⟩:=Xai (l:=x.kids) (i:=m) (by omega)
     have hka:(out.map (kdO x))[j]?=some a:=by rw[List.getElem?_map,hk];simp[kdO,ha]
     repeat' first|refine Kn rfl ?_|((first|refine Ka ?_|refine Kb ?_|refine Kv ?_|refine Ke ?_);simp only[Xdu,Xdv,Xdw,Xdx,Xdy,Xb6,Xcw,Xb7,Xb8,Xb9,Xca,Xcb,Xcc,Xcz,go_sem])|refine Kf ?_|refine Kg ?_|refine⟨_,⟨Kq _,(by first|exact Xab hx|(rw[Int.toNat_natCast];exact Xab hx)),rfl⟩,Kg ?_⟩|refine⟨_,⟨Kq _,(by first|exact Xab hk|(rw[Int.toNat_natCast];exact Xab hk)),rfl⟩,Kg ?_⟩|refine⟨_,⟨Kq _,(by first|exact Xab ha|(rw[Int.toNat_natCast];exact Xab ha)),rfl⟩,Kg ?_⟩|(apply Kp<;>intro _<;>try (exfalso;omega))|((first|refine Kh ?_|refine Ki rfl ?_);simp only[Xdu,Xdv,Xdw,Xdx,Xdy,Xb6,Xcw,Xb7,Xb8,Xb9,Xca,Xcb,Xcc,Xcz,or_self,Qs,Qt,Qu,Qv,Qw,Qx,Qy,Qz,Za,go_sem])
     all_goals first|(exfalso;omega)|skip
     refine⟨by simp,by simp;omega,by simp[Xac];omega,?_⟩
     rw[show Xag ((out.map (kdO x)).take j)++[_]=Xag ((out.map (kdO x)).take (j+1)) from Xcv hka]
     repeat' first|refine Kn rfl ?_|((first|refine Ka ?_|refine Kb ?_|refine Kv ?_|refine Ke ?_);simp only[Xdu,Xdv,Xdw,Xdx,Xdy,Xb6,Xcw,Xb7,Xb8,Xb9,Xca,Xcb,Xcc,Xcz,go_sem])|refine Kf ?_|refine Kg ?_|(apply Kp<;>intro _<;>try (exfalso;omega))|((first|refine Kh ?_|refine Ki rfl ?_);simp only[Xdu,Xdv,Xdw,Xdx,Xdy,Xb6,Xcw,Xb7,Xb8,Xb9,Xca,Xcb,Xcc,Xcz,or_self,Qs,Qt,Qu,Qv,Qw,Qx,Qy,Qz,Za,go_sem])
     refine⟨Xah hjl (by unfold Xac;omega),?_⟩
     refine Kt (fr 53 [(1,vi i),(2,.one (.d (.bx [.int .i64 g.root,.sl (nds g.l)]))),(6,.one (.ptr 0 0)),(7,.one (.own 1 (j+1))),(8,.one (.d (.sl (Xag out)))),(9,vi (j+1))]) ?_
     refine Kl ⟨out.length - (j+1),by omega,j+1,by omega,rfl,?_,rfl⟩
     exact Nat.zero_le _
    ·obtain rfl:out.length=j:=by omega
     rw[List.take_of_length_le (by simp),hok]
     repeat' first|refine Kn rfl ?_|((first|refine Ka ?_|refine Kb ?_|refine Kv ?_|refine Ke ?_);simp only[Xdu,Xdv,Xdw,Xdx,Xdy,Xb6,Xcw,Xb7,Xb8,Xb9,Xca,Xcb,Xcc,go_sem])|refine Kf ?_|refine Kg ?_|(apply Kp<;>intro _<;>try (exfalso;omega))|((first|refine Kh ?_|refine Ki rfl ?_);simp only[Xdu,Xdv,Xdw,Xdx,Xdy,Xb6,Xcw,Xb7,Xb8,Xb9,Xca,Xcb,Xcc,or_self,Qs,Qt,Qu,Qv,Qw,Qx,Qy,Qz,Za,go_sem])
     all_goals first|(exfalso;omega)|skip
     refine Xar 1 ?_
     simp only[go_sem]
     repeat' first|refine Kn rfl ?_|((first|refine Ka ?_|refine Kb ?_|refine Kv ?_|refine Ke ?_);simp only[Xdu,Xdv,Xdw,Xdx,Xdy,Xb6,Xcw,Xb7,Xb8,Xb9,Xca,Xcb,Xcc,Xcz,go_sem])|refine Kf ?_|refine Kg ?_|apply Kp<;>intro _|((first|refine Kh ?_|refine Ki rfl ?_);simp only[Xdu,Xdv,Xdw,Xdx,Xdy,Xb6,Xcw,Xb7,Xb8,Xb9,Xca,Xcb,Xcc,Xcz,or_self,Qs,Qt,Qu,Qv,Qw,Qx,Qy,Qz,Za,go_sem])
     all_goals trace_state
   ·rw[decide_eq_false hm] at c1
    have hk:Xaf x=[]:=by unfold Xaf Xad;rw[if_neg hq,if_neg hm];rfl
    rw[hk]
    repeat' first|refine Kn rfl ?_|((first|refine Ka ?_|refine Kb ?_|refine Kv ?_|refine Ke ?_);simp only[Xdu,Xdv,Xdw,Xdx,Xdy,Xb6,Xcw,Xb7,Xb8,Xb9,Xca,Xcb,Xcc,Xcz,e0,go_sem])|refine Kf ?_|refine Kg ?_|refine⟨_,c1,Kg ?_⟩|refine⟨_,⟨c1,rfl⟩,Kg ?_⟩|refine⟨_,⟨Kq _,(by first|exact Xab hx|(rw[Int.toNat_natCast];exact Xab hx)),rfl⟩,Kg ?_⟩|(apply Kp<;>intro _<;>try (exfalso;omega))|((first|refine Kh ?_|refine Ki rfl ?_);simp only[Xdu,Xdv,Xdw,Xdx,Xdy,Xb6,Xcw,Xb7,Xb8,Xb9,Xca,Xcb,Xcc,Xcz,e0,or_self,Qs,Qt,Qu,Qv,Qw,Qx,Qy,Qz,Za,go_sem])
    all_goals first|(exfalso;omega)|trace_state
 ·have hat:atE g.l i0=2:=by unfold atE;rw[if_neg hr]
  have hk:Xaf (Xau g.l i0)=[]:=by rw[Xga hr];rfl
  rw[hat,hk]
  repeat' first|refine Kn rfl ?_|((first|refine Ka ?_|refine Kb ?_|refine Kv ?_|refine Ke ?_);simp only[Xdu,Xdv,Xdw,Xdx,Xdy,Xb6,Xcw,Xb7,Xb8,Xb9,Xca,Xcb,Xcc,Xcz,go_sem])|refine Kf ?_|refine Kg ?_|(apply Kp<;>intro _<;>try (exfalso;omega))|((first|refine Kh ?_|refine Ki rfl ?_);simp only[Xdu,Xdv,Xdw,Xdx,Xdy,Xb6,Xcw,Xb7,Xb8,Xb9,Xca,Xcb,Xcc,Xcz,or_self,Qs,Qt,Qu,Qv,Qw,Qx,Qy,Qz,Za,go_sem])
  all_goals first|(exfalso;omega)|trace_state
theorem Xse (s:ByteArray):(W3x s).size<=100:=by
 unfold W3x
 rw[ByteArray.size_extract]
 omega
theorem Yig (g:Gr):∀ x∈g.cut.l,x.short:=by
 intro x hx
 obtain⟨y,_,rfl⟩:=List.mem_map.1 hx
 refine⟨by simp[Nd.cut];omega,by simp[Nd.cut];omega,?_,fun z hz=>?_⟩
 ·exact Nat.le_trans (Xse _) (by omega)
 ·obtain⟨u,_,rfl⟩:=List.mem_map.1 hz
  exact Nat.le_trans (Xse _) (by omega)
end Go.Fw.L07
