/- Chapter 10,part 17: what is known. -/
import Derived.Test.YtejnfjophhnaeaaGreatDoorJe
import Derived.Test.YtejnfjophhnaeaaGreatDoorL07BS10
import Derived.Test.YtejnfjophhnaeaaGreatDoorVy
import Derived.Test.YtejnfjophhnaeaaGreatDoorIb
set_option linter.all false
namespace Go.Fw.L07
open Go Go.Fw
open Go.Fw.Sh renaming intro->Kg
open Go.Fw renaming Xhi->Ka,Xef->Ka,Xed->Kb,Xhm->Kv,Xee->Ke,Xeg->Kf,Xhk->Kh,Xhj->Ki,Gx->Kn
open Go.Proofs.Tryz renaming prog->QP
open Go.Fw.V.one renaming injEq->Qs
open Go.Fw.V.agg renaming injEq->Qt
open Go.Fw.V.tup renaming injEq->Qu
open Go.Fw.A.d renaming injEq->Qv
open Go.Fw.D.bool renaming injEq->Qw
open Go.Fw.D.int renaming injEq->Qx
open Go.Fw.D.str renaming injEq->Qy
open Go.Fw.D.sl renaming injEq->Qz
open List.cons renaming injEq->Za
set_option maxRecDepth 4000
variable {gp:Xag}
theorem Xhx (g:Gr) (n:Int):Xd9 (Xez g n):=by
 unfold Xez
 split
 ·intro x hx;cases hx
 ·exact g.cut_small
theorem Xhy (g:Gr) (n:Int):∀ x∈(Xez g n).l,x.short:=by
 unfold Xez
 split
 ·intro x hx;cases hx
 ·exact Ygs g
abbrev We8 (l:List Int):Nd:=⟨1,⟨0,0,⟨#[]⟩⟩,[],l⟩
def Xr4:Gr:=⟨0,[We8 [1],We8 [0],We8 [2],We8 []]⟩
def We9:Gr:=⟨0,[We8 [0]]⟩
def Wfa:Gr:=⟨0,[We8 []]⟩
theorem Xj7 {g:Gr} (h:(g.l.all fun x=>decide (x.keys.length<=12/\x.kids.length<=12))=true):Xd9 g:=by
 intro x hx
 have:=List.all_eq_true.1 h x hx
 simpa using this
theorem Xj8 {g:Gr} (h:(g.l.all fun x=>decide (x.keys.length<=12/\x.kids.length<=12/\x.x.s.size<=100000) && x.keys.all fun y=>decide (y.s.size<=100000))=true):∀ x∈g.l,x.short:=by
 intro x hx
 have:=List.all_eq_true.1 h x hx
 simp only[Bool.and_eq_true,decide_eq_true_eq,List.all_eq_true] at this
 exact⟨this.1.1,this.1.2.1,this.1.2.2,this.2⟩
theorem Xcq:Good Xr4:=⟨by kernel_rfl,Xj7 (by kernel_rfl)⟩
theorem Xm0:Good We9:=⟨by kernel_rfl,Xj7 (by kernel_rfl)⟩
theorem Xm1:Good Wfa:=⟨by kernel_rfl,Xj7 (by kernel_rfl)⟩
theorem Yos:Xc5 Xr4.l=[0,0,0,1]:=by kernel_rfl
theorem Wuq:Ynw Xr4 We9=true:=by kernel_rfl
theorem Wur:Ynw Xr4 Wfa=false:=by kernel_rfl
theorem Wew:apO Xr4 0 3=some []:=by
 unfold apO
 rw[if_pos ⟨Xcq.c,by unfold inL;decide,by unfold inL;decide⟩]
 have:Xrk Xr4 Xr4 (0,3)=false:=by kernel_rfl
 unfold apG
 simp[apF,this]
theorem X0j (h:Env10 gp):Xam QP gp 12 [] (vb true):=by
 have ha:∀ x∈Xr4.l,x.short:=Xj8 (by kernel_rfl)
 have hb:∀ x∈We9.l,x.short:=Xj8 (by kernel_rfl)
 have hc:∀ x∈Wfa.l,x.short:=Xj8 (by kernel_rfl)
 have c1:=Xmv h Xr4 Xcq.s ha
 rw[Xps Xcq,Yos,Xcu Xcq.c] at c1
 have c2:=Xtj h Xr4 We9 Xcq.s Xm0.s ha hb
 rw[show Xpv Xr4 We9=true from by unfold Xpv;rw[if_pos ⟨Xcq.c,Xm0.c⟩];exact Wuq,show Xpw Xr4 We9=0 from by unfold Xpw;rw[if_pos (Xcu Xcq.c),Xcu Xm0.c]] at c2
 have c3:=Xtj h Xr4 Wfa Xcq.s Xm1.s ha hc
 rw[show Xpv Xr4 Wfa=false from by unfold Xpv;rw[if_pos ⟨Xcq.c,Xm1.c⟩];exact Wur,show Xpw Xr4 Wfa=0 from by unfold Xpw;rw[if_pos (Xcu Xcq.c),Xcu Xm1.c]] at c3
 have c4:=Yg5 h Xr4 0 3 Xcq.s ha
 rw[Wew] at c4
 simp only[Option.getD_some,Option.isSome_some] at c4
 have c5:=Xmv h ⟨0,[]⟩ (by intro x hx;cases hx) (by intro x hx;cases hx)
 rw[show Xf3 ⟨0,[]⟩=70 from by unfold Xf3;rw[Xmm];rfl,show cOf ⟨0,[]⟩=[] from by unfold cOf;rw[Xmm];rfl] at c5
 have c6:=Xsw (gp:=gp) [0,0,0,1] [0,0,0,1]
 simp only[decide_true] at c6
 refine Wn2 ?_
 simp only[go_sem]
 repeat' first|refine Kn rfl ?_|((first|refine Ka ?_|refine Kb ?_|refine Kv ?_|refine Ke ?_);simp only[go_sem])|refine Kf ?_|refine Kg ?_|refine⟨_,c1,Kg ?_⟩|refine⟨_,⟨c1,rfl⟩,Kg ?_⟩|refine⟨_,c2,Kg ?_⟩|refine⟨_,⟨c2,rfl⟩,Kg ?_⟩|refine⟨_,c3,Kg ?_⟩|refine⟨_,⟨c3,rfl⟩,Kg ?_⟩|refine⟨_,c4,Kg ?_⟩|refine⟨_,⟨c4,rfl⟩,Kg ?_⟩|refine⟨_,c5,Kg ?_⟩|refine⟨_,⟨c5,rfl⟩,Kg ?_⟩|refine⟨_,c6,Kg ?_⟩|refine⟨_,⟨c6,rfl⟩,Kg ?_⟩|refine And.intro (fun _=>?_) (fun _=>?_)|((first|refine Kh ?_|refine Ki rfl ?_);simp only[or_self,Qs,Qt,Qu,Qv,Qw,Qx,Qy,Qz,Za,go_sem])
 all_goals trace_state
end Go.Fw.L07
