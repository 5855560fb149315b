/- Chapter 10,part 17: what is known. -/
import Derived.Test.YtejnfjophhnaeaaGreatDoorJe
import Derived.Test.YtejnfjophhnaeaaGreatDoorL07BS10
import Derived.Test.YtejnfjophhnaeaaGreatDoorVy
import Derived.Test.YtejnfjophhnaeaaGreatDoorIb
set_option linter.all false
namespace Go.Fw.L07
open Go Go.Fw
open Go.Fw.Sh renaming intro -> Kg
open Go.Fw renaming G_reg -> Ka,G_regw -> Ka,VO_chk -> Kb,VO_go -> Kc,VO_gx -> Kd,G_cond -> Ke,VO_end -> Kf,G_fin -> Kh,G_ret -> Ki,Gx -> Kn
open Go.Proofs.Tryz renaming prog -> QP
open Go.Fw.V.one renaming injEq -> Qs
open Go.Fw.V.agg renaming injEq -> Qt
open Go.Fw.V.tup renaming injEq -> Qu
open Go.Fw.A.d renaming injEq -> Qv
open Go.Fw.D.bool renaming injEq -> Qw
open Go.Fw.D.int renaming injEq -> Qx
open Go.Fw.D.str renaming injEq -> Qy
open Go.Fw.D.sl renaming injEq -> Qz
open List.cons renaming injEq -> Za
set_option maxRecDepth 4000
variable {gp : Heap}
theorem smallG_small10 (g : Gr) (n : Int) : Small (smallG g n) := by
 unfold smallG
 split
 ·intro x hx; cases hx
 ·exact g.cut_small
theorem smallG_short10 (g : Gr) (n : Int) : ∀ x ∈ (smallG g n).l,x.short := by
 unfold smallG
 split
 ·intro x hx; cases hx
 ·exact cut_short g
abbrev sq10 (l : List Int) : Nd := ⟨1,⟨0,0,⟨#[]⟩⟩,[],l⟩
def ga10 : Gr := ⟨0,[sq10 [1],sq10 [0],sq10 [2],sq10 []]⟩
def gb10 : Gr := ⟨0,[sq10 [0]]⟩
def gc10 : Gr := ⟨0,[sq10 []]⟩
theorem small_of10 {g : Gr} (h : (g.l.all fun x => decide (x.keys.length <= 12 /\ x.kids.length <= 12)) = true) : Small g := by
 intro x hx
 have := List.all_eq_true.1 h x hx
 simpa using this
theorem short_of10 {g : Gr} (h : (g.l.all fun x => decide (x.keys.length <= 12 /\ x.kids.length <= 12 /\ x.x.s.size <= 100000) && x.keys.all fun y => decide (y.s.size <= 100000)) = true) : ∀ x ∈ g.l,x.short := by
 intro x hx
 have := List.all_eq_true.1 h x hx
 simp only [Bool.and_eq_true,decide_eq_true_eq,List.all_eq_true] at this
 exact ⟨this.1.1,this.1.2.1,this.1.2.2,this.2⟩
theorem ga10_good : Good ga10 := ⟨by kernel_rfl,small_of10 (by kernel_rfl)⟩
theorem gb10_good : Good gb10 := ⟨by kernel_rfl,small_of10 (by kernel_rfl)⟩
theorem gc10_good : Good gc10 := ⟨by kernel_rfl,small_of10 (by kernel_rfl)⟩
theorem ga10_cls : clsL ga10.l = [0,0,0,1] := by kernel_rfl
theorem gab10 : simB ga10 gb10 = true := by kernel_rfl
theorem gac10 : simB ga10 gc10 = false := by kernel_rfl
theorem ga10_ap : apO ga10 0 3 = some [] := by
 unfold apO
 rw [if_pos ⟨ga10_good.c,by unfold inL; decide,by unfold inL; decide⟩]
 have : fitP ga10 ga10 (0,3) = false := by kernel_rfl
 unfold apG
 simp [apF,this]
theorem shown10_ok (h : Env10 gp) : Does QP gp 12 [] (vb true) := by
 have ha : ∀ x ∈ ga10.l,x.short := short_of10 (by kernel_rfl)
 have hb : ∀ x ∈ gb10.l,x.short := short_of10 (by kernel_rfl)
 have hc : ∀ x ∈ gc10.l,x.short := short_of10 (by kernel_rfl)
 have c1 := classes10 h ga10 ga10_good.s ha
 rw [cOf_good ga10_good,ga10_cls,chkE_ok ga10_good.c] at c1
 have c2 := bisim10 h ga10 gb10 ga10_good.s gb10_good.s ha hb
 rw [show bisB ga10 gb10 = true from by unfold bisB; rw [if_pos ⟨ga10_good.c,gb10_good.c⟩]; exact gab10,show bisE ga10 gb10 = 0 from by unfold bisE; rw [if_pos (chkE_ok ga10_good.c),chkE_ok gb10_good.c]] at c2
 have c3 := bisim10 h ga10 gc10 ga10_good.s gc10_good.s ha hc
 rw [show bisB ga10 gc10 = false from by unfold bisB; rw [if_pos ⟨ga10_good.c,gc10_good.c⟩]; exact gac10,show bisE ga10 gc10 = 0 from by unfold bisE; rw [if_pos (chkE_ok ga10_good.c),chkE_ok gc10_good.c]] at c3
 have c4 := apart10 h ga10 0 3 ga10_good.s ha
 rw [ga10_ap] at c4
 simp only [Option.getD_some,Option.isSome_some] at c4
 have c5 := classes10 h ⟨0,[]⟩ (by intro x hx; cases hx) (by intro x hx; cases hx)
 rw [show chkE ⟨0,[]⟩ = 70 from by unfold chkE; rw [not_chk_nil]; rfl,show cOf ⟨0,[]⟩ = [] from by unfold cOf; rw [not_chk_nil]; rfl] at c5
 have c6 := ints_eq (gp := gp) [0,0,0,1] [0,0,0,1]
 simp only [decide_true] at c6
 refine f12_in ?_
 simp only [go_sem]
 repeat' (first | refine Kn rfl ?_ | ((first | refine Ka ?_ | refine Kb ?_ | refine Kc ?_ | refine Kd ?_ | refine Ke ?_); simp only [go_sem]) | refine Kf ?_ | refine Kg ?_ | refine ⟨_,c1,Sh.intro ?_⟩ | refine ⟨_,⟨c1,rfl⟩,Sh.intro ?_⟩ | refine ⟨_,c2,Sh.intro ?_⟩ | refine ⟨_,⟨c2,rfl⟩,Sh.intro ?_⟩ | refine ⟨_,c3,Sh.intro ?_⟩ | refine ⟨_,⟨c3,rfl⟩,Sh.intro ?_⟩ | refine ⟨_,c4,Sh.intro ?_⟩ | refine ⟨_,⟨c4,rfl⟩,Sh.intro ?_⟩ | refine ⟨_,c5,Sh.intro ?_⟩ | refine ⟨_,⟨c5,rfl⟩,Sh.intro ?_⟩ | refine ⟨_,c6,Sh.intro ?_⟩ | refine ⟨_,⟨c6,rfl⟩,Sh.intro ?_⟩ | refine And.intro (fun _ => ?_) (fun _ => ?_) | ((first | refine Kh ?_ | refine Ki rfl ?_); simp only [or_self,Qs,Qt,Qu,Qv,Qw,Qx,Qy,Qz,Za,go_sem]))
 all_goals trace_state
end Go.Fw.L07
