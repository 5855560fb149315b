/- Chapter 11: what is known. -/
import Derived.Test.YtejnfjophhnaeaaGreatDoorJd
import Derived.Test.YtejnfjophhnaeaaGreatDoorVy
import Derived.Test.YtejnfjophhnaeaaGreatDoorIb
set_option linter.all false
namespace Go.Fw.L07
open Go Go.Fw
open Go.Fw.Sh renaming intro->Kg
open Go.Fw renaming Xhj->Ka,Xev->Kb,Xhm->Kv,Xew->Ke,Xex->Kf,Xhl->Kh,Xhk->Ki,Gx->Kn
open Go.Proofs.Tryz renaming prog->QP
open Go.Fw.V.one renaming injEq->Qs
open Go.Fw.V.agg renaming injEq->Qt
open Go.Fw.V.tup renaming injEq->Qu
open Go.Fw.A.d renaming injEq->Qv
open Go.Fw.D.bool renaming injEq->Qw
open Go.Fw.D.int renaming injEq->Qx
open Go.Fw.D.str renaming injEq->Qy
open Go.Fw.D.sl renaming injEq->Qz
open List.cons renaming injEq->Za
set_option maxRecDepth 4000
variable {gp:Xal}
theorem Xnt (g:Gr) (n:Int):Xc7 (Xhw g n):=by
 unfold Xhw
 split
 ·intro x hx;cases hx
 ·exact g.cut_small
theorem Xnu (g:Gr) (n:Int):∀ x∈(Xhw g n).l,x.short:=by
 unfold Xhw
 split
 ·intro x hx;cases hx
 ·exact Yig g
def W32:Nd:=⟨0,⟨2,5,⟨#[]⟩⟩,[],[]⟩
def g11:Gr:=⟨1,[W32,⟨1,⟨0,0,⟨#[]⟩⟩,[],[0,2]⟩,W32,⟨0,⟨0,0,⟨#[]⟩⟩,[],[]⟩]⟩
def w11:Gr:=⟨1,[W32,⟨1,⟨0,0,⟨#[]⟩⟩,[],[0,0]⟩,⟨0,⟨0,0,⟨#[]⟩⟩,[],[]⟩]⟩
def q11:Gr:=⟨0,[⟨1,⟨0,0,⟨#[]⟩⟩,[],[1,1]⟩,W32]⟩
theorem X1i {g:Gr} (h:(g.l.all fun x=>decide (x.keys.length<=12/\x.kids.length<=12))=true):Xc7 g:=by
 intro x hx
 have:=List.all_eq_true.1 h x hx
 simpa using this
theorem Xoq {g:Gr} (h:(g.l.all fun x=>decide (x.keys.length<=12/\x.kids.length<=12/\x.x.s.size<=100000) && x.keys.all fun y=>decide (y.s.size<=100000))=true):∀ x∈g.l,x.short:=by
 intro x hx
 have:=List.all_eq_true.1 h x hx
 simp only[Bool.and_eq_true,decide_eq_true_eq,List.all_eq_true] at this
 exact⟨this.1.1,this.1.2.1,this.1.2.2,this.2⟩
theorem Xe2:Good g11:=⟨by kernel_rfl,X1i (by kernel_rfl)⟩
theorem Wnf:Xaz g11.l=[0,1,0,2]:=by kernel_rfl
theorem Xsk:Xat g11=w11:=by kernel_rfl
theorem W64:kd w11 1=[0,0]:=by kernel_rfl
theorem W65:kd w11 0=[]:=by kernel_rfl
theorem Xz6:Xav w11=[1,0]:=by
 have:Walks (kd w11) [1] [] [1,0]:=by
  refine .step (by simp) ?_
  rw[W64]
  refine .step (by simp) ?_
  rw[W65]
  refine .skip (by simp) ?_
  exact (.nil _)
 exact this.eq
theorem Yjw:(⟨0,[1,0].map fun i=>Xbe [1,0] (Xau w11.l i)⟩:Gr)=q11:=by kernel_rfl
theorem Xli:Xc0 g11=q11:=by
 have:Xbh w11=⟨0,[1,0].map fun i=>Xbe [1,0] (Xau w11.l i)⟩:=by rw[<- Xz6];rfl
 unfold Xc0
 rw[Xsk,this,Yjw]
theorem Wng:Wnq g11=[1,0,1,-1]:=by
 unfold Wnq
 rw[Xsk,Xz6,Wnf]
 decide
theorem X1j (h:Env10 gp):Xak QP gp 24 [] (vb true):=by
 have hgs:∀ x∈g11.l,x.short:=Xoq (by kernel_rfl)
 have hqs:∀ x∈q11.l,x.short:=Xoq (by kernel_rfl)
 have c1:=Xz4 h g11 Xe2.s hgs
 rw[Xjn Xe2,Xli,Xbv Xe2.c] at c1
 have c2:=Xz5 h g11 Xe2.s hgs
 have e2:pOf g11=[1,0,1,-1]:=by unfold pOf;rw[if_pos Xe2.c,Wng]
 rw[e2,Xbv Xe2.c] at c2
 have c3:=Xz4 h ⟨0,[]⟩ (by intro x hx;cases hx) (by intro x hx;cases hx)
 have e3:Xfw ⟨0,[]⟩=70:=by unfold Xfw;rw[Xm3];rfl
 have e4:qOf ⟨0,[]⟩=⟨0,[]⟩:=by unfold qOf;rw[Xm3];rfl
 rw[e3,e4] at c3
 have hq:Good q11:=by rw[<- Xli];exact Xe2.quot
 have c4:=Xuc h q11 hq.s hqs
 rw[show decide (chk q11=none/\q11=Xc0 q11)=true from decide_eq_true ⟨hq.c,by rw[<- Xli,Yf4 Xe2]⟩] at c4
 have c5:=Xuc h g11 Xe2.s hgs
 rw[show decide (chk g11=none/\g11=Xc0 g11)=false from decide_eq_false (by rw[Xli];rintro⟨_,e⟩;cases e)] at c5
 have c6:=Xtg (gp:=gp) [1,0,1,-1] [1,0,1,-1]
 have c7:=Xml (gp:=gp) q11 q11
 simp only[decide_true] at c6 c7
 refine W1a ?_
 simp only[go_sem]
 repeat' first|refine Kn rfl ?_|((first|refine Ka ?_|refine Kb ?_|refine Kv ?_|refine Ke ?_);simp only[go_sem])|refine Kf ?_|refine Kg ?_|refine⟨_,c1,Kg ?_⟩|refine⟨_,⟨c1,rfl⟩,Kg ?_⟩|refine⟨_,c2,Kg ?_⟩|refine⟨_,⟨c2,rfl⟩,Kg ?_⟩|refine⟨_,c3,Kg ?_⟩|refine⟨_,⟨c3,rfl⟩,Kg ?_⟩|refine⟨_,c4,Kg ?_⟩|refine⟨_,⟨c4,rfl⟩,Kg ?_⟩|refine⟨_,c5,Kg ?_⟩|refine⟨_,⟨c5,rfl⟩,Kg ?_⟩|refine⟨_,c6,Kg ?_⟩|refine⟨_,⟨c6,rfl⟩,Kg ?_⟩|refine⟨_,c7,Kg ?_⟩|refine⟨_,⟨c7,rfl⟩,Kg ?_⟩|refine And.intro (fun _=>?_) (fun _=>?_)|((first|refine Kh ?_|refine Ki rfl ?_);simp only[or_self,Qs,Qt,Qu,Qv,Qw,Qx,Qy,Qz,Za,go_sem])
 all_goals trace_state
end Go.Fw.L07
