/- Chapter 10: the law RefineApart. -/
import Derived.Test.YtejnfjophhnaeaaGreatDoorL07S10
import Derived.Test.YtejnfjophhnaeaaGreatDoorEa
set_option linter.all false
namespace Go.Fw.L07
open Go Go.Fw
open Go.Fw.Sh renaming intro -> Kg
open Go.Fw renaming G_reg -> Ka,G_regw -> Ka,VO_chk -> Kb,VO_go -> Kc,VO_gx -> Kd,G_cond -> Ke,VO_end -> Kf,G_fin -> Kh,G_ret -> Ki,Gx -> Kn
open And renaming intro -> Kp
open Go.Proofs.Tryz renaming prog -> QP
open Go.Fw.V.one renaming injEq -> Qs
open Go.Fw.V.agg renaming injEq -> Qt
open Go.Fw.V.tup renaming injEq -> Qu
open Go.Fw.A.d renaming injEq -> Qv
open Go.Fw.D.bool renaming injEq -> Qw
open Go.Fw.D.int renaming injEq -> Qx
open Go.Fw.D.str renaming injEq -> Qy
open Go.Fw.D.sl renaming injEq -> Qz
open List.cons renaming injEq -> Za
set_option maxRecDepth 4000
variable {gp : Heap}
set_option maxHeartbeats 2000000 in
theorem refine_apart (h : Env10 gp) (g : Gr) (i j : Int) : Does QP gp 6 [g.v,vi i,vi j] (vb true) := by
 refine f6_in ?_
 simp only [go_sem]
 have cs := shown10_ok h
 have cg := small9 (gp := gp) g 60
 have hs := smallG_small10 g 60
 have hst := smallG_short10 g 60
 generalize smallG g 60 = q at *
 have c1 := classes10 h q hs hst
 have c2 := apart10 h q i j hs hst
 by_cases hc : chk q = none
 ·have hg : Good q := ⟨hc,hs⟩
  rw [cOf_good hg,chkE_ok hc] at c1
  have hCl := clsL_len hg.fine
  by_cases hij : inL q.l i /\ inL q.l j
  ·have ea : apO q i j = apG q i j := by unfold apO; rw [if_pos ⟨hc,hij⟩]
   rw [ea] at c2
   obtain ⟨hi,hj⟩ := hij
   have hi' := hi
   have hj' := hj
   unfold inL at hi' hj'
   have d1 : decide (i < 0) = false := decide_eq_false (by omega)
   have d2 : decide (j < 0) = false := decide_eq_false (by omega)
   have d3 : decide (i >= (q.l.length : Int)) = false := decide_eq_false (by omega)
   have d4 : decide (j >= (q.l.length : Int)) = false := decide_eq_false (by omega)
   obtain ⟨ci,hci⟩ := cls_ex hg.fine hi
   obtain ⟨cj,hcj⟩ := cls_ex hg.fine hj
   have hnone := apG_none hg hi hj
   rw [<- cls_iff hg.fine hi hj,hci,hcj,Option.some.injEq] at hnone
   have hok := apG_ok hg hi hj
   have hlen := fun p (e : apG q i j = some p) => apF_len hg _ (ApI.first hi hj) e
   cases e : apG q i j with
   | none =>
    rw [e] at c2 hnone
    have hcc : (ci == cj) = true := by simpa using hnone.1 rfl
    generalize clsL q.l = C at *
    simp only [Option.getD_none,Option.isSome_none] at c2
    repeat' (first | refine Kn rfl ?_ | ((first | refine Ka ?_ | refine Kb ?_ | refine Kc ?_ | refine Kd ?_ | refine Ke ?_); simp only [d1,d2,d3,d4,hCl,hcc,go_sem]) | refine Kf ?_ | refine Kg ?_ | refine ⟨_,cs,Sh.intro ?_⟩ | refine ⟨_,⟨cs,rfl⟩,Sh.intro ?_⟩ | refine ⟨_,cg,Sh.intro ?_⟩ | refine ⟨_,⟨cg,rfl⟩,Sh.intro ?_⟩ | refine ⟨_,c1,Sh.intro ?_⟩ | refine ⟨_,⟨c1,rfl⟩,Sh.intro ?_⟩ | refine ⟨_,c2,Sh.intro ?_⟩ | refine ⟨_,⟨c2,rfl⟩,Sh.intro ?_⟩ | refine ⟨_,⟨hi'.1,ints_get hci,rfl⟩,Sh.intro ?_⟩ | refine ⟨_,⟨hj'.1,ints_get hcj,rfl⟩,Sh.intro ?_⟩ | (refine Kp (fun _ => ?_) (fun _ => ?_) <;> try (exfalso; omega)) | ((first | refine Kh ?_ | refine Ki rfl ?_); simp only [d1,d2,d3,d4,hCl,hcc,or_self,Qs,Qt,Qu,Qv,Qw,Qx,Qy,Qz,Za,go_sem]))
    all_goals first | (exfalso; simp_all; done) | trace_state
   | some p =>
    rw [e] at c2 hnone hok
    obtain ⟨a,b,ha,hb,hf⟩ := hok
    have hpl := hlen p e
    have hcc : (ci == cj) = false := by
     cases e' : ci == cj with
     | false => rfl
     | true => have := hnone.2 (by simpa using e'); cases this
    have g1 : Good ⟨i,q.l⟩ := hg.reroot hi
    have g2 : Good ⟨j,q.l⟩ := hg.reroot hj
    have c3 := at_gr h.e ⟨i,q.l⟩ hs p (by omega)
    have c4 := at_gr h.e ⟨j,q.l⟩ hs p (by omega)
    have ha' : atG ⟨i,q.l⟩ p = some a := ha
    have hb' : atG ⟨j,q.l⟩ p = some b := hb
    rw [aOf_good g1,ha'] at c3
    rw [aOf_good g2,hb'] at c4
    have ia : 0 <= a /\ a < q.l.length := g1.wIn a (atF_mem g1 g1.wroot ha)
    have ib : 0 <= b /\ b < q.l.length := g2.wIn b (atF_mem g2 g2.wroot hb)
    obtain ⟨a,rfl⟩ := Int.eq_ofNat_of_zero_le ia.1
    obtain ⟨b,rfl⟩ := Int.eq_ofNat_of_zero_le ib.1
    have c5 := fit9 (gp := gp) q q a b hs hs (by omega) (by omega)
    rw [hf] at c5
    generalize clsL q.l = C at *
    simp only [Option.getD_some,Option.isSome_some] at c2 c3 c4
    repeat' (first | refine Kn rfl ?_ | ((first | refine Ka ?_ | refine Kb ?_ | refine Kc ?_ | refine Kd ?_ | refine Ke ?_); simp only [d1,d2,d3,d4,hCl,hcc,go_sem]) | refine Kf ?_ | refine Kg ?_ | refine ⟨_,cs,Sh.intro ?_⟩ | refine ⟨_,⟨cs,rfl⟩,Sh.intro ?_⟩ | refine ⟨_,cg,Sh.intro ?_⟩ | refine ⟨_,⟨cg,rfl⟩,Sh.intro ?_⟩ | refine ⟨_,c1,Sh.intro ?_⟩ | refine ⟨_,⟨c1,rfl⟩,Sh.intro ?_⟩ | refine ⟨_,c2,Sh.intro ?_⟩ | refine ⟨_,⟨c2,rfl⟩,Sh.intro ?_⟩ | refine ⟨_,c3,Sh.intro ?_⟩ | refine ⟨_,⟨c3,rfl⟩,Sh.intro ?_⟩ | refine ⟨_,c4,Sh.intro ?_⟩ | refine ⟨_,⟨c4,rfl⟩,Sh.intro ?_⟩ | refine ⟨_,c5,Sh.intro ?_⟩ | refine ⟨_,⟨c5,rfl⟩,Sh.intro ?_⟩ | refine ⟨_,⟨hi'.1,ints_get hci,rfl⟩,Sh.intro ?_⟩ | refine ⟨_,⟨hj'.1,ints_get hcj,rfl⟩,Sh.intro ?_⟩ | (refine Kp (fun _ => ?_) (fun _ => ?_) <;> try (exfalso; omega)) | ((first | refine Kh ?_ | refine Ki rfl ?_); simp only [d1,d2,d3,d4,hCl,hcc,or_self,Qs,Qt,Qu,Qv,Qw,Qx,Qy,Qz,Za,go_sem]))
    all_goals first | (exfalso; omega) | rfl | (exfalso; simp_all; done) | trace_state
  ·have ea : apO q i j = none := by unfold apO; rw [if_neg (fun hh => hij hh.2)]
   rw [ea] at c2
   unfold inL at hij
   generalize clsL q.l = C at *
   simp only [Option.getD_none,Option.isSome_none] at c2
   repeat' (first | refine Kn rfl ?_ | ((first | refine Ka ?_ | refine Kb ?_ | refine Kc ?_ | refine Kd ?_ | refine Ke ?_); simp only [hCl,go_sem]) | refine Kf ?_ | refine Kg ?_ | refine ⟨_,cs,Sh.intro ?_⟩ | refine ⟨_,⟨cs,rfl⟩,Sh.intro ?_⟩ | refine ⟨_,cg,Sh.intro ?_⟩ | refine ⟨_,⟨cg,rfl⟩,Sh.intro ?_⟩ | refine ⟨_,c1,Sh.intro ?_⟩ | refine ⟨_,⟨c1,rfl⟩,Sh.intro ?_⟩ | refine ⟨_,c2,Sh.intro ?_⟩ | refine ⟨_,⟨c2,rfl⟩,Sh.intro ?_⟩ | (refine Kp (fun _ => ?_) (fun _ => ?_) <;> try (exfalso; omega)) | ((first | refine Kh ?_ | refine Ki rfl ?_); simp only [hCl,or_self,Qs,Qt,Qu,Qv,Qw,Qx,Qy,Qz,Za,go_sem]))
   all_goals first | (exfalso; omega) | rfl | (exfalso; simp_all; done) | trace_state
 ·have he := chkE_bad hc
  have e0 : cOf q = [] := by unfold cOf; rw [if_neg hc]
  have ea : apO q i j = none := by unfold apO; rw [if_neg (fun hh => hc hh.1)]
  rw [e0] at c1
  rw [ea] at c2
  generalize chkE q = e at *
  have hne : (e != 0) = true := by simpa using he
  simp only [Option.getD_none,Option.isSome_none] at c2
  repeat' (first | refine Kn rfl ?_ | ((first | refine Ka ?_ | refine Kb ?_ | refine Kc ?_ | refine Kd ?_ | refine Ke ?_); simp only [hne,go_sem]) | refine Kf ?_ | refine Kg ?_ | refine ⟨_,cs,Sh.intro ?_⟩ | refine ⟨_,⟨cs,rfl⟩,Sh.intro ?_⟩ | refine ⟨_,cg,Sh.intro ?_⟩ | refine ⟨_,⟨cg,rfl⟩,Sh.intro ?_⟩ | refine ⟨_,c1,Sh.intro ?_⟩ | refine ⟨_,⟨c1,rfl⟩,Sh.intro ?_⟩ | refine ⟨_,c2,Sh.intro ?_⟩ | refine ⟨_,⟨c2,rfl⟩,Sh.intro ?_⟩ | (refine Kp (fun _ => ?_) (fun _ => ?_) <;> try (exfalso; omega)) | ((first | refine Kh ?_ | refine Ki rfl ?_); simp only [hne,or_self,Qs,Qt,Qu,Qv,Qw,Qx,Qy,Qz,Za,go_sem]))
  all_goals first | (exfalso; simp_all; done) | simp_all | trace_state
end Go.Fw.L07
