/- Chapter 11: what is known. -/
import Derived.Test.YtejnfjophhnaeaaGreatDoorJd
import Derived.Test.YtejnfjophhnaeaaGreatDoorVy
import Derived.Test.YtejnfjophhnaeaaGreatDoorIb
set_option linter.all false
namespace Go.Fw.L07
open Go Go.Fw
open Go.Fw.Sh renaming intro -> Kg
open Go.Fw renaming G_reg -> Ka,G_regw -> Ka,VO_chk -> Kb,VO_go -> Kc,VO_gx -> Kd,G_cond -> Ke,VO_end -> Kf,G_fin -> Kh,G_ret -> Ki,Gx -> Kn
open Go.Proofs.Tryz renaming prog -> QP
open Go.Fw.V.one renaming injEq -> Qs
open Go.Fw.V.agg renaming injEq -> Qt
open Go.Fw.V.tup renaming injEq -> Qu
open Go.Fw.A.d renaming injEq -> Qv
open Go.Fw.D.bool renaming injEq -> Qw
open Go.Fw.D.int renaming injEq -> Qx
open Go.Fw.D.str renaming injEq -> Qy
open Go.Fw.D.sl renaming injEq -> Qz
open List.cons renaming injEq -> Za
set_option maxRecDepth 4000
variable {gp : Heap}
theorem smallG_small11 (g : Gr) (n : Int) : Small (smallG g n) := by
 unfold smallG
 split
 ·intro x hx; cases hx
 ·exact g.cut_small
theorem smallG_short11 (g : Gr) (n : Int) : ∀ x ∈ (smallG g n).l,x.short := by
 unfold smallG
 split
 ·intro x hx; cases hx
 ·exact cut_short g
def five : Nd := ⟨0,⟨2,5,⟨#[]⟩⟩,[],[]⟩
def g11 : Gr := ⟨1,[five,⟨1,⟨0,0,⟨#[]⟩⟩,[],[0,2]⟩,five,⟨0,⟨0,0,⟨#[]⟩⟩,[],[]⟩]⟩
def w11 : Gr := ⟨1,[five,⟨1,⟨0,0,⟨#[]⟩⟩,[],[0,0]⟩,⟨0,⟨0,0,⟨#[]⟩⟩,[],[]⟩]⟩
def q11 : Gr := ⟨0,[⟨1,⟨0,0,⟨#[]⟩⟩,[],[1,1]⟩,five]⟩
theorem small_of11 {g : Gr} (h : (g.l.all fun x => decide (x.keys.length <= 12 /\ x.kids.length <= 12)) = true) : Small g := by
 intro x hx
 have := List.all_eq_true.1 h x hx
 simpa using this
theorem short_of11 {g : Gr} (h : (g.l.all fun x => decide (x.keys.length <= 12 /\ x.kids.length <= 12 /\ x.x.s.size <= 100000) && x.keys.all fun y => decide (y.s.size <= 100000)) = true) : ∀ x ∈ g.l,x.short := by
 intro x hx
 have := List.all_eq_true.1 h x hx
 simp only [Bool.and_eq_true,decide_eq_true_eq,List.all_eq_true] at this
 exact ⟨this.1.1,this.1.2.1,this.1.2.2,this.2⟩
theorem g11_good : Good g11 := ⟨by kernel_rfl,small_of11 (by kernel_rfl)⟩
theorem g11_cls : clsL g11.l = [0,1,0,2] := by kernel_rfl
theorem g11_whole : wholeG g11 = w11 := by kernel_rfl
theorem w11_1 : kd w11 1 = [0,0] := by kernel_rfl
theorem w11_0 : kd w11 0 = [] := by kernel_rfl
theorem w11_walk : walkL w11 = [1,0] := by
 have : Walks (kd w11) [1] [] [1,0] := by
  refine .step (by simp) ?_
  rw [w11_1]
  refine .step (by simp) ?_
  rw [w11_0]
  refine .skip (by simp) ?_
  exact (.nil _)
 exact this.eq
theorem w11_tidy' : (⟨0,[1,0].map fun i => tidyN [1,0] (ndAt w11.l i)⟩ : Gr) = q11 := by kernel_rfl
theorem g11_quot : quotG g11 = q11 := by
 have : tidyG w11 = ⟨0,[1,0].map fun i => tidyN [1,0] (ndAt w11.l i)⟩ := by rw [<- w11_walk]; rfl
 unfold quotG
 rw [g11_whole,this,w11_tidy']
theorem g11_plc : plcG g11 = [1,0,1,-1] := by
 unfold plcG
 rw [g11_whole,w11_walk,g11_cls]
 decide
theorem shown11_ok (h : Env10 gp) : Does QP gp 24 [] (vb true) := by
 have hgs : ∀ x ∈ g11.l,x.short := short_of11 (by kernel_rfl)
 have hqs : ∀ x ∈ q11.l,x.short := short_of11 (by kernel_rfl)
 have c1 := quot11 h g11 g11_good.s hgs
 rw [qOf_good g11_good,g11_quot,chkE_ok g11_good.c] at c1
 have c2 := places11 h g11 g11_good.s hgs
 have e2 : pOf g11 = [1,0,1,-1] := by unfold pOf; rw [if_pos g11_good.c,g11_plc]
 rw [e2,chkE_ok g11_good.c] at c2
 have c3 := quot11 h ⟨0,[]⟩ (by intro x hx; cases hx) (by intro x hx; cases hx)
 have e3 : chkE ⟨0,[]⟩ = 70 := by unfold chkE; rw [not_chk_nil]; rfl
 have e4 : qOf ⟨0,[]⟩ = ⟨0,[]⟩ := by unfold qOf; rw [not_chk_nil]; rfl
 rw [e3,e4] at c3
 have hq : Good q11 := by rw [<- g11_quot]; exact g11_good.quot
 have c4 := isred11 h q11 hq.s hqs
 rw [show decide (chk q11 = none /\ q11 = quotG q11) = true from decide_eq_true ⟨hq.c,by rw [<- g11_quot,quot_quot g11_good]⟩] at c4
 have c5 := isred11 h g11 g11_good.s hgs
 rw [show decide (chk g11 = none /\ g11 = quotG g11) = false from decide_eq_false (by rw [g11_quot]; rintro ⟨_,e⟩; cases e)] at c5
 have c6 := ints_eq (gp := gp) [1,0,1,-1] [1,0,1,-1]
 have c7 := same_gr (gp := gp) q11 q11
 simp only [decide_true] at c6 c7
 refine f24_in ?_
 simp only [go_sem]
 repeat' (first | refine Kn rfl ?_ | ((first | refine Ka ?_ | refine Kb ?_ | refine Kc ?_ | refine Kd ?_ | refine Ke ?_); simp only [go_sem]) | refine Kf ?_ | refine Kg ?_ | refine ⟨_,c1,Sh.intro ?_⟩ | refine ⟨_,⟨c1,rfl⟩,Sh.intro ?_⟩ | refine ⟨_,c2,Sh.intro ?_⟩ | refine ⟨_,⟨c2,rfl⟩,Sh.intro ?_⟩ | refine ⟨_,c3,Sh.intro ?_⟩ | refine ⟨_,⟨c3,rfl⟩,Sh.intro ?_⟩ | refine ⟨_,c4,Sh.intro ?_⟩ | refine ⟨_,⟨c4,rfl⟩,Sh.intro ?_⟩ | refine ⟨_,c5,Sh.intro ?_⟩ | refine ⟨_,⟨c5,rfl⟩,Sh.intro ?_⟩ | refine ⟨_,c6,Sh.intro ?_⟩ | refine ⟨_,⟨c6,rfl⟩,Sh.intro ?_⟩ | refine ⟨_,c7,Sh.intro ?_⟩ | refine ⟨_,⟨c7,rfl⟩,Sh.intro ?_⟩ | refine And.intro (fun _ => ?_) (fun _ => ?_) | ((first | refine Kh ?_ | refine Ki rfl ?_); simp only [or_self,Qs,Qt,Qu,Qv,Qw,Qx,Qy,Qz,Za,go_sem]))
 all_goals trace_state
end Go.Fw.L07
