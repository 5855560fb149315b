/- Chapter 7,by definition: kids,a key's kid; the law that tells all. -/
import Derived.Test.YtakgmpkfpkmkaaaGreatDoorVa
import Derived.Test.YtakgmpkfpkmkaaaGreatDoorIa
set_option linter.all false
namespace Go.Fw.L07
open Go Go.Fw
open Go.Fw.Sh renaming intro->Kg
open Go.Fw renaming Xdt->Ka,Xd2->Kf,Xcp->Kt,Xco->Kl,Xeg->Km,Gx->Kn
open Go.Fw renaming Xbs->Ka, Xbw->Ka, Xby->Ka, Xbz->Ka
open Go.Fw renaming Xdt->Kw, Xbs->Kw, Xbw->Kw, Xby->Kw, Xbz->Kw, Xhh->Kw, Xd3->Kw
open Go.Fw.Sh renaming intro->Kf
open Int renaming natCast_nonneg->Kq
open And renaming intro->Kp
open Go.Proofs.Tryz renaming prog->QP
set_option maxRecDepth 4000
variable {gp:Heap}
def kdO (x:Nd) (k:Int):Int:=(x.kids[k.toNat]?).getD 0
theorem Yx3 (x:Nd) (hk:x.k=2) (hl:x.keys.length=x.kids.length):(Xe7 x x.keys.length).map (kdO x)=Xan x:=by
 have hzl:(Xb5 x).length=x.keys.length:=by unfold Xb5;simp;omega
 have h1:=Xl5 x hl x.keys.length (Nat.le_refl _)
 have h2:Xan x=(Xa5 Xe4 (Xb5 x) x.keys.length).map Pr.kid:=by
  unfold Xan
  rw[if_neg (by omega),Xb3 hk hl,<- hzl]
 rw[h2,<- h1,List.map_map]
 apply List.map_congr_left
 intro k hk
 have hkr:=Xgh x _ k hk
 obtain⟨m,rfl⟩:=Int.eq_ofNat_of_zero_le hkr.1
 obtain⟨a,ha⟩:=Xaf (l:=x.keys) (i:=m) (by omega)
 obtain⟨b,hb⟩:=Xaf (l:=x.kids) (i:=m) (by omega)
 have hz:(Xb5 x)[m]?=some ⟨a,b⟩:=Yfq ha hb
 simp only[Function.comp,kdO,Int.toNat_natCast,hb,hz,Option.getD_some]
set_option maxHeartbeats 1000000 in
theorem Wwi (g:Gr) (i0:Int) (hg:Xc9 g):Does QP gp 128 [g.v,vi i0] (.tup [.one (.d (.sl (Xad (Xan (Xbr g.l i0))))),vi (atE g.l i0)]):=by
 refine Wh8 ?_
 simp only[go_sem]
 by_cases hr:0<=i0/\i0 < g.l.length
 ·obtain⟨i,rfl⟩:=Int.eq_ofNat_of_zero_le hr.1
  obtain⟨x,hx⟩:=Xaf (l:=g.l) (i:=i) (by omega)
  have hnd:Xbr g.l i=x:=by unfold Xbr;rw[if_pos hr,Int.toNat_natCast,hx];rfl
  have hat:atE g.l i=0:=by unfold atE;rw[if_pos hr]
  have hsx:=hg x (List.mem_of_getElem? hx)
  have c1:=Ykc (gp:=gp) x
  have c2:=Yke (gp:=gp) x hsx.1
  rw[hnd,hat]
  by_cases hq:x.k=1
  ·have e0:(x.k==1)=true:=by simp[hq]
   have hk:Xan x=x.kids:=by unfold Xan;rw[if_pos hq]
   rw[hk]
   repeat' first|refine Kn rfl ?_|(refine Kw ?_;simp only[Xes,Xet,Xeu,Xev,Xew,Xdb,Xdd,Xde,Xdf,Xdg,Xdh,Xdi,Xdu,e0,go_sem])|refine Kf ?_|refine⟨_,⟨Kq _,(Xab hx),rfl⟩,Kg ?_⟩|(apply Kp<;>intro _<;>try (exfalso;omega))
   all_goals first|(exfalso;omega)|skip
   refine Ka ?_
   simp only[Xdc,go_sem]
   repeat (refine Kp (by first|(simp;done)|omega|(unfold lenMax;omega)|(simp;omega)) ?_)
   refine Xap 1 ?_
   simp only[go_sem]
   repeat' first|refine Kn rfl ?_|(refine Kw ?_;simp only[Xes,Xet,Xeu,Xev,Xew,Xdb,Xdc,Xdd,Xde,Xdf,Xdg,Xdh,Xdi,Xdu,go_sem])|refine Kf ?_|apply Kp<;>intro _
   all_goals trace_state
  ·have e0:(x.k==1)=false:=by simp[hq]
   by_cases hm:x.k=2/\x.keys.length=x.kids.length
   ·rw[decide_eq_true hm] at c1
    have hok:=Yx3 x hm.1 hm.2
    have hol:=Xic x x.keys.length
    have hin:=Xgh x x.keys.length
    generalize Xe7 x x.keys.length=out at *
    repeat' first|refine Kn rfl ?_|(refine Kw ?_;simp only[Xes,Xet,Xeu,Xev,Xew,Xdb,Xdc,Xdd,Xde,Xdf,Xdg,Xdh,Xdi,Xdu,e0,go_sem])|refine Kf ?_|refine⟨_,c1,Kg ?_⟩|refine⟨_,⟨c1,rfl⟩,Kg ?_⟩|refine⟨_,c2,Kg ?_⟩|refine⟨_,⟨c2,rfl⟩,Kg ?_⟩|refine⟨_,⟨Kq _,(Xab hx),rfl⟩,Kg ?_⟩|(apply Kp<;>intro _<;>try (exfalso;omega))
    all_goals first|(exfalso;omega)|skip
    refine Xeh 7 1 (by decide) rfl ?_
    simp only[go_sem]
    refine Kt (fr 53 [(1,vi i),(2,.one (.d (.bx [.int .i64 g.root,.sl (nds g.l)]))),(6,.one (.ptr 0 0)),(7,.one (.own 1 (0:Nat))),(8,.one (.d (.sl (Xad out)))),(9,vi (0:Nat))]) ?_
    refine Km (fun mz sz=>∃ j:Nat,j<=out.length/\mz=out.length - j/\(0<=j)/\sz=⟨fr 53 [(1,vi i),(2,.one (.d (.bx [.int .i64 g.root,.sl (nds g.l)]))),(6,.one (.ptr 0 0)),(7,.one (.own 1 j)),(8,.one (.d (.sl (Xad out)))),(9,vi j)],[.cells x.as,.row 1 j (Xad ((out.map (kdO x)).take j))]⟩) (out.length) ⟨0,Nat.zero_le _,(Nat.sub_zero _).symm,?_,rfl⟩ ?_
    ·exact Nat.zero_le _
    rintro _ _ ⟨j,hj,rfl,-,rfl⟩
    simp only[go_sem]
    by_cases hjl:j < out.length
    ·obtain⟨k,hk⟩:=Xaf hjl
     have hkr:=hin k (List.mem_of_getElem? hk)
     obtain⟨m,rfl⟩:=Int.eq_ofNat_of_zero_le hkr.1
     obtain⟨a,ha⟩:=Xaf (l:=x.kids) (i:=m) (by omega)
     have hka:(out.map (kdO x))[j]?=some a:=by rw[List.getElem?_map,hk];simp[kdO,ha]
     repeat' first|refine Kn rfl ?_|(refine Kw ?_;simp only[Xes,Xet,Xeu,Xev,Xew,Xdb,Xdc,Xdd,Xde,Xdf,Xdg,Xdh,Xdi,Xdu,go_sem])|refine Kf ?_|refine⟨_,⟨Kq _,(Xab hx),rfl⟩,Kg ?_⟩|refine⟨_,⟨Kq _,(Xab hk),rfl⟩,Kg ?_⟩|refine⟨_,⟨Kq _,(Xab ha),rfl⟩,Kg ?_⟩|(apply Kp<;>intro _<;>try (exfalso;omega))
     all_goals first|(exfalso;omega)|skip
     refine⟨by simp,by simp;omega,by simp[lenMax];omega,?_⟩
     rw[show Xad ((out.map (kdO x)).take j)++[_]=Xad ((out.map (kdO x)).take (j+1)) from Xgb hka]
     repeat' first|refine Kn rfl ?_|(refine Kw ?_;simp only[Xes,Xet,Xeu,Xev,Xew,Xdb,Xdc,Xdd,Xde,Xdf,Xdg,Xdh,Xdi,Xdu,go_sem])|refine Kf ?_|(apply Kp<;>intro _<;>try (exfalso;omega))
     refine⟨Xai hjl (by unfold lenMax;omega),?_⟩
     refine Kt (fr 53 [(1,vi i),(2,.one (.d (.bx [.int .i64 g.root,.sl (nds g.l)]))),(6,.one (.ptr 0 0)),(7,.one (.own 1 (j+1))),(8,.one (.d (.sl (Xad out)))),(9,vi (j+1))]) ?_
     refine Kl ⟨out.length - (j+1),by omega,j+1,by omega,rfl,?_,rfl⟩
     exact Nat.zero_le _
    ·obtain rfl:out.length=j:=by omega
     rw[List.take_of_length_le (by simp),hok]
     repeat' first|refine Kn rfl ?_|(refine Kw ?_;simp only[Xes,Xet,Xeu,Xev,Xew,Xdb,Xdc,Xdd,Xde,Xdf,Xdg,Xdh,Xdi,go_sem])|refine Kf ?_|(apply Kp<;>intro _<;>try (exfalso;omega))
     all_goals first|(exfalso;omega)|skip
     refine Xap 1 ?_
     simp only[go_sem]
     repeat' first|refine Kn rfl ?_|(refine Kw ?_;simp only[Xes,Xet,Xeu,Xev,Xew,Xdb,Xdc,Xdd,Xde,Xdf,Xdg,Xdh,Xdi,Xdu,go_sem])|refine Kf ?_|apply Kp<;>intro _
     all_goals trace_state
   ·rw[decide_eq_false hm] at c1
    have hk:Xan x=[]:=by unfold Xan Xae;rw[if_neg hq,if_neg hm];rfl
    rw[hk]
    repeat' first|refine Kn rfl ?_|(refine Kw ?_;simp only[Xes,Xet,Xeu,Xev,Xew,Xdb,Xdc,Xdd,Xde,Xdf,Xdg,Xdh,Xdi,Xdu,e0,go_sem])|refine Kf ?_|refine⟨_,c1,Kg ?_⟩|refine⟨_,⟨c1,rfl⟩,Kg ?_⟩|refine⟨_,⟨Kq _,(Xab hx),rfl⟩,Kg ?_⟩|(apply Kp<;>intro _<;>try (exfalso;omega))
    all_goals first|(exfalso;omega)|trace_state
 ·have hat:atE g.l i0=2:=by unfold atE;rw[if_neg hr]
  have hk:Xan (Xbr g.l i0)=[]:=by rw[Xfp hr];rfl
  rw[hat,hk]
  repeat' first|refine Kn rfl ?_|(refine Kw ?_;simp only[Xes,Xet,Xeu,Xev,Xew,Xdb,Xdc,Xdd,Xde,Xdf,Xdg,Xdh,Xdi,Xdu,go_sem])|refine Kf ?_|(apply Kp<;>intro _<;>try (exfalso;omega))
  all_goals first|(exfalso;omega)|trace_state
theorem Xr2 (s:ByteArray):(Jef s).size<=100:=by
 unfold Jef
 rw[ByteArray.size_extract]
 omega
theorem Xr3 (g:Gr):∀ x∈g.cut.l,x.short:=by
 intro x hx
 obtain⟨y,_,rfl⟩:=List.mem_map.1 hx
 refine⟨by simp[Nd.cut];omega,by simp[Nd.cut];omega,?_,fun z hz=>?_⟩
 ·exact Nat.le_trans (Xr2 _) (by omega)
 ·obtain⟨u,_,rfl⟩:=List.mem_map.1 hz
  exact Nat.le_trans (Xr2 _) (by omega)
end Go.Fw.L07
