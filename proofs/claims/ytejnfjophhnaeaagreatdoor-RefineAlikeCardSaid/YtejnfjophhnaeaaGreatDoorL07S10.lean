/- Chapter 10,part 17: what is known. -/
import Derived.Test.YtejnfjophhnaeaaGreatDoorJe
import Derived.Test.YtejnfjophhnaeaaGreatDoorL07BS10
import Derived.Test.YtejnfjophhnaeaaGreatDoorVy
import Derived.Test.YtejnfjophhnaeaaGreatDoorIb
set_option linter.all false
namespace Go.Fw.L07
open Go Go.Fw
open Go.Fw.Sh renaming intro -> Kg
open Go.Fw renaming Xii -> Ka,Xej -> Ka,Xek -> Ka,Xeh -> Kb,Xio -> Kc,Xip -> Kd,Xei -> Ke,Xel -> Kf,Xik -> Kh,Xij -> Ki,Gx -> Kn
open Go.Proofs.Tryz renaming prog -> QP
open Go.Fw.V.one renaming injEq -> Qs
open Go.Fw.V.agg renaming injEq -> Qt
open Go.Fw.V.tup renaming injEq -> Qu
open Go.Fw.A.d renaming injEq -> Qv
open Go.Fw.D.bool renaming injEq -> Qw
open Go.Fw.D.int renaming injEq -> Qx
open Go.Fw.D.str renaming injEq -> Qy
open Go.Fw.D.sl renaming injEq -> Qz
open List.cons renaming injEq -> Za
set_option maxRecDepth 4000
variable {gp : Heap}
theorem Xec (g : Gr) (n : Int) : Xbt (Xe5 g n) := by
 unfold Xe5
 split
 ·intro x hx; cases hx
 ·exact g.cut_small
theorem Xed (g : Gr) (n : Int) : ∀ x ∈ (Xe5 g n).l,x.short := by
 unfold Xe5
 split
 ·intro x hx; cases hx
 ·exact Ybt g
abbrev sq10 (l : List Int) : Nd := ⟨1,⟨0,0,⟨#[]⟩⟩,[],l⟩
def ga10 : Gr := ⟨0,[sq10 [1],sq10 [0],sq10 [2],sq10 []]⟩
def gb10 : Gr := ⟨0,[sq10 [0]]⟩
def gc10 : Gr := ⟨0,[sq10 []]⟩
theorem Xi0 {g : Gr} (h : (g.l.all fun x => decide (x.keys.length <= 12 /\ x.kids.length <= 12)) = true) : Xbt g := by
 intro x hx
 have := List.all_eq_true.1 h x hx
 simpa using this
theorem Xi1 {g : Gr} (h : (g.l.all fun x => decide (x.keys.length <= 12 /\ x.kids.length <= 12 /\ x.x.s.size <= 100000) && x.keys.all fun y => decide (y.s.size <= 100000)) = true) : ∀ x ∈ g.l,x.short := by
 intro x hx
 have := List.all_eq_true.1 h x hx
 simp only [Bool.and_eq_true,decide_eq_true_eq,List.all_eq_true] at this
 exact ⟨this.1.1,this.1.2.1,this.1.2.2,this.2⟩
theorem Xca : Good ga10 := ⟨by kernel_rfl,Xi0 (by kernel_rfl)⟩
theorem Xll : Good gb10 := ⟨by kernel_rfl,Xi0 (by kernel_rfl)⟩
theorem Xlm : Good gc10 := ⟨by kernel_rfl,Xi0 (by kernel_rfl)⟩
theorem Yis : clsL ga10.l = [0,0,0,1] := by kernel_rfl
theorem Why : simB ga10 gb10 = true := by kernel_rfl
theorem Whz : simB ga10 gc10 = false := by kernel_rfl
theorem Y48 : apO ga10 0 3 = some [] := by
 unfold apO
 rw [if_pos ⟨Xca.c,by unfold inL; decide,by unfold inL; decide⟩]
 have : fitP ga10 ga10 (0,3) = false := by kernel_rfl
 unfold apG
 simp [apF,this]
theorem Xx3 (h : Env10 gp) : Does QP gp 12 [] (vb true) := by
 have ha : ∀ x ∈ ga10.l,x.short := Xi1 (by kernel_rfl)
 have hb : ∀ x ∈ gb10.l,x.short := Xi1 (by kernel_rfl)
 have hc : ∀ x ∈ gc10.l,x.short := Xi1 (by kernel_rfl)
 have c1 := Xp6 h ga10 Xca.s ha
 rw [Xwo Xca,Yis,Xbp Xca.c] at c1
 have c2 := Xgz h ga10 gb10 Xca.s Xll.s ha hb
 rw [show bisB ga10 gb10 = true from by unfold bisB; rw [if_pos ⟨Xca.c,Xll.c⟩]; exact Why,show bisE ga10 gb10 = 0 from by unfold bisE; rw [if_pos (Xbp Xca.c),Xbp Xll.c]] at c2
 have c3 := Xgz h ga10 gc10 Xca.s Xlm.s ha hc
 rw [show bisB ga10 gc10 = false from by unfold bisB; rw [if_pos ⟨Xca.c,Xlm.c⟩]; exact Whz,show bisE ga10 gc10 = 0 from by unfold bisE; rw [if_pos (Xbp Xca.c),Xbp Xlm.c]] at c3
 have c4 := Y45 h ga10 0 3 Xca.s ha
 rw [Y48] at c4
 simp only [Option.getD_some,Option.isSome_some] at c4
 have c5 := Xp6 h ⟨0,[]⟩ (by intro x hx; cases hx) (by intro x hx; cases hx)
 rw [show chkE ⟨0,[]⟩ = 70 from by unfold chkE; rw [Xk7]; rfl,show cOf ⟨0,[]⟩ = [] from by unfold cOf; rw [Xk7]; rfl] at c5
 have c6 := Yv1 (gp := gp) [0,0,0,1] [0,0,0,1]
 simp only [decide_true] at c6
 refine Wc9 ?_
 simp only [go_sem]
 repeat' (first | refine Kn rfl ?_ | ((first | refine Ka ?_ | refine Kb ?_ | refine Kc ?_ | refine Kd ?_ | refine Ke ?_); simp only [go_sem]) | refine Kf ?_ | refine Kg ?_ | refine ⟨_,c1,Sh.intro ?_⟩ | refine ⟨_,⟨c1,rfl⟩,Sh.intro ?_⟩ | refine ⟨_,c2,Sh.intro ?_⟩ | refine ⟨_,⟨c2,rfl⟩,Sh.intro ?_⟩ | refine ⟨_,c3,Sh.intro ?_⟩ | refine ⟨_,⟨c3,rfl⟩,Sh.intro ?_⟩ | refine ⟨_,c4,Sh.intro ?_⟩ | refine ⟨_,⟨c4,rfl⟩,Sh.intro ?_⟩ | refine ⟨_,c5,Sh.intro ?_⟩ | refine ⟨_,⟨c5,rfl⟩,Sh.intro ?_⟩ | refine ⟨_,c6,Sh.intro ?_⟩ | refine ⟨_,⟨c6,rfl⟩,Sh.intro ?_⟩ | refine And.intro (fun _ => ?_) (fun _ => ?_) | ((first | refine Kh ?_ | refine Ki rfl ?_); simp only [or_self,Qs,Qt,Qu,Qv,Qw,Qx,Qy,Qz,Za,go_sem]))
 all_goals trace_state
end Go.Fw.L07
