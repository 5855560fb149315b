/- Chapter 10: the law RefineTells. -/
import Derived.Test.YtejnfjophhnaeaaGreatDoorL07AR10
import Derived.Test.YtejnfjophhnaeaaGreatDoorL07S10
set_option linter.all false
namespace Go.Fw.L07
open Go Go.Fw
open Go.Fw.Sh renaming intro->Kg
open Go.Fw renaming Xhi->Ka,Xef->Ka,Xed->Kb,Xhm->Kv,Xee->Ke,Xeg->Kf,Xhk->Kh,Xhj->Ki,Gx->Kn
open Go.Proofs.Tryz renaming prog->QP
open Go.Fw.V.one renaming injEq->Qs
open Go.Fw.V.agg renaming injEq->Qt
open Go.Fw.V.tup renaming injEq->Qu
open Go.Fw.A.d renaming injEq->Qv
open Go.Fw.D.bool renaming injEq->Qw
open Go.Fw.D.int renaming injEq->Qx
open Go.Fw.D.str renaming injEq->Qy
open Go.Fw.D.sl renaming injEq->Qz
open List.cons renaming injEq->Za
set_option maxRecDepth 4000
variable {gp:Xag}
theorem Xn8 (g:Gr) (n:Nat):(Xez g (n:Int)).l.length<=n:=by
 unfold Xez
 split
 ·exact Nat.zero_le _
 ·rename_i h
  simp only[Gr.cut,List.length_map,List.length_take]
  omega
set_option maxHeartbeats 2000000 in
theorem Xr3 (h:Env10 gp) (g k:Gr) (i j:Int):Xam QP gp 3 [g.v,k.v,vi i,vi j] (vb true):=by
 refine Wtv ?_
 simp only[go_sem]
 have cs:=X0j h
 have cg:=Ysq (gp:=gp) g 14
 have ck:=Ysq (gp:=gp) k 14
 have hs:=Xhx g 14
 have hs':=Xhx k 14
 have hst:=Xhy g 14
 have hst':=Xhy k 14
 have l1:=Xn8 g 14
 have l2:=Xn8 k 14
 have l1:(Xez g 14).l.length<=14:=l1
 have l2:(Xez k 14).l.length<=14:=l2
 generalize Xez g 14=q at *
 generalize Xez k 14=r at *
 have c1:=Xmv h q hs hst
 have c2:=Yol (gp:=gp) q hs hst
 have c3:=Xtj h q r hs hs' hst hst'
 have c4:=Yoo (gp:=gp) q r hs hs' hst hst' (by omega)
 have c5:=Yg5 h q i j hs hst
 have c6:=Wev (gp:=gp) q i j hs hst
 have c7:=Xsw (gp:=gp) (cOf q) (cOf q)
 have c8:=Xsw (gp:=gp) ((apO q i j).getD []) ((apO q i j).getD [])
 rw[decide_eq_true rfl] at c7 c8
 generalize cOf q=C at *
 generalize (apO q i j).getD []=P at *
 generalize (apO q i j).isSome=s at *
 generalize Xf3 q=e at *
 generalize Xpv q r=b at *
 generalize Xpw q r=e' at *
 repeat' first|refine Kn rfl ?_|((first|refine Ka ?_|refine Kb ?_|refine Kv ?_|refine Ke ?_);simp only[go_sem])|refine Kf ?_|refine Kg ?_|refine⟨_,cs,Kg ?_⟩|refine⟨_,⟨cs,rfl⟩,Kg ?_⟩|refine⟨_,cg,Kg ?_⟩|refine⟨_,⟨cg,rfl⟩,Kg ?_⟩|refine⟨_,ck,Kg ?_⟩|refine⟨_,⟨ck,rfl⟩,Kg ?_⟩|refine⟨_,c1,Kg ?_⟩|refine⟨_,⟨c1,rfl⟩,Kg ?_⟩|refine⟨_,c2,Kg ?_⟩|refine⟨_,⟨c2,rfl⟩,Kg ?_⟩|refine⟨_,c3,Kg ?_⟩|refine⟨_,⟨c3,rfl⟩,Kg ?_⟩|refine⟨_,c4,Kg ?_⟩|refine⟨_,⟨c4,rfl⟩,Kg ?_⟩|refine⟨_,c5,Kg ?_⟩|refine⟨_,⟨c5,rfl⟩,Kg ?_⟩|refine⟨_,c6,Kg ?_⟩|refine⟨_,⟨c6,rfl⟩,Kg ?_⟩|refine⟨_,c7,Kg ?_⟩|refine⟨_,⟨c7,rfl⟩,Kg ?_⟩|refine⟨_,c8,Kg ?_⟩|refine⟨_,⟨c8,rfl⟩,Kg ?_⟩|(refine And.intro (fun _=>?_) (fun _=>?_) <;> try (exfalso;omega))|((first|refine Kh ?_|refine Ki rfl ?_);simp only[or_self,Qs,Qt,Qu,Qv,Qw,Qx,Qy,Qz,Za,go_sem])
 all_goals trace_state
end Go.Fw.L07
