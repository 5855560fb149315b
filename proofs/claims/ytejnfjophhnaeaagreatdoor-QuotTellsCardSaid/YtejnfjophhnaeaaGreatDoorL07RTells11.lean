/- Chapter 11: the law QuotTells. -/
import Derived.Test.YtejnfjophhnaeaaGreatDoorJg
import Derived.Test.YtejnfjophhnaeaaGreatDoorL07S11
set_option linter.all false
namespace Go.Fw.L07
open Go Go.Fw
open Go.Fw.Sh renaming intro->Kg
open Go.Fw renaming Xhj->Ka,Xev->Kb,Xhm->Kv,Xew->Ke,Xex->Kf,Xhl->Kh,Xhk->Ki,Gx->Kn
open Go.Proofs.Tryz renaming prog->QP
open Go.Fw.V.one renaming injEq->Qs
open Go.Fw.V.agg renaming injEq->Qt
open Go.Fw.V.tup renaming injEq->Qu
open Go.Fw.A.d renaming injEq->Qv
open Go.Fw.D.bool renaming injEq->Qw
open Go.Fw.D.int renaming injEq->Qx
open Go.Fw.D.str renaming injEq->Qy
open Go.Fw.D.sl renaming injEq->Qz
open List.cons renaming injEq->Za
set_option maxRecDepth 4000
variable {gp:Xal}
set_option maxHeartbeats 1000000 in
theorem X1k (h:Env10 gp) (g:Gr):Xak QP gp 9 [g.v] (vb true):=by
 refine W6p ?_
 simp only[go_sem]
 have cs:=X1j h
 have cg:=Wya (gp:=gp) g 24
 have hs:=Xnt g 24
 have hst:=Xnu g 24
 generalize Xhw g 24=q at *
 have c1:=Xz4 h q hs hst
 have c2:=Wne (gp:=gp) q hs hst
 have c3:=Xz5 h q hs hst
 have c4:=Ysl (gp:=gp) q hs hst
 have hql:(qOf q).l.length<=1000:=by
  by_cases hc:chk q=none
  ·have hg:Good q:=⟨hc,hs⟩
   rw[Xjn hg]
   have:=Yrb hg
   have:=hg.len
   omega
  ·have e1:qOf q=⟨0,[]⟩:=by unfold qOf;rw[if_neg hc]
   rw[e1];simp
 have c5:=Ydp (gp:=gp) (qOf q) (qOf q) hql
 rw[decide_eq_true rfl] at c5
 have c6:=Xuc h q hs hst
 have c7:=Ysk (gp:=gp) q hs hst
 have c8:=Xtg (gp:=gp) (pOf q) (pOf q)
 rw[decide_eq_true rfl] at c8
 generalize decide (chk q=none/\q=Xc0 q)=b at *
 generalize qOf q=Q at *
 generalize pOf q=P at *
 generalize Xfw q=e at *
 repeat' first|refine Kn rfl ?_|((first|refine Ka ?_|refine Kb ?_|refine Kv ?_|refine Ke ?_);simp only[go_sem])|refine Kf ?_|refine Kg ?_|refine⟨_,cs,Kg ?_⟩|refine⟨_,⟨cs,rfl⟩,Kg ?_⟩|refine⟨_,cg,Kg ?_⟩|refine⟨_,⟨cg,rfl⟩,Kg ?_⟩|refine⟨_,c1,Kg ?_⟩|refine⟨_,⟨c1,rfl⟩,Kg ?_⟩|refine⟨_,c2,Kg ?_⟩|refine⟨_,⟨c2,rfl⟩,Kg ?_⟩|refine⟨_,c3,Kg ?_⟩|refine⟨_,⟨c3,rfl⟩,Kg ?_⟩|refine⟨_,c4,Kg ?_⟩|refine⟨_,⟨c4,rfl⟩,Kg ?_⟩|refine⟨_,c5,Kg ?_⟩|refine⟨_,⟨c5,rfl⟩,Kg ?_⟩|refine⟨_,c6,Kg ?_⟩|refine⟨_,⟨c6,rfl⟩,Kg ?_⟩|refine⟨_,c7,Kg ?_⟩|refine⟨_,⟨c7,rfl⟩,Kg ?_⟩|refine⟨_,c8,Kg ?_⟩|refine⟨_,⟨c8,rfl⟩,Kg ?_⟩|(refine And.intro (fun _=>?_) (fun _=>?_) <;> try (exfalso;omega))|((first|refine Kh ?_|refine Ki rfl ?_);simp only[or_self,Qs,Qt,Qu,Qv,Qw,Qx,Qy,Qz,Za,go_sem])
 all_goals trace_state
end Go.Fw.L07
