/- Chapter 11: the law QuotSame. -/
import Derived.Test.YtbicdabccidliaaGreatDoorL07T11
set_option linter.all false
namespace Go.Fw.L07
open Go Go.Fw
open Go.Fw.Sh renaming intro -> Kg
open Go.Fw renaming G_reg -> Ka,G_regw -> Ka,VO_chk -> Kb,VO_go -> Kc,VO_gx -> Kd,G_cond -> Ke,VO_end -> Kf,G_fin -> Kh,G_ret -> Ki,Gx -> Kn
open Go.Proofs.Tryz renaming prog -> QP
open Nat renaming reduceAdd -> Qa,reduceSub -> Qb,reduceMul -> Qc,reduceLeDiff -> Qd,reduceLT -> Qe,reduceEqDiff -> Qf
open Int renaming reduceToNat -> Qg,reduceLT -> Qh,reduceLE -> Qi,reduceGT -> Qj,reduceGE -> Qk,reduceEq -> Ql,reduceNe -> Qm,reduceBEq -> Qn,reduceBNe -> Qo,reduceAdd -> Qp,reduceSub -> Qq,reduceNeg -> Qr
open Go.Fw.V.one renaming injEq -> Qs
open Go.Fw.V.agg renaming injEq -> Qt
open Go.Fw.V.tup renaming injEq -> Qu
open Go.Fw.A.d renaming injEq -> Qv
open Go.Fw.D.bool renaming injEq -> Qw
open Go.Fw.D.int renaming injEq -> Qx
open Go.Fw.D.str renaming injEq -> Qy
open Go.Fw.D.sl renaming injEq -> Qz
open List.cons renaming injEq -> Za
set_option maxRecDepth 4000
variable {gp : Heap}
set_option maxHeartbeats 1000000 in
theorem quot_same_law (h : Env10 gp) (g k : Gr) : Does QP gp 13 [g.v,k.v] (vb true) := by
 refine f13_in ?_
 simp only [go_sem]
 have cs := shown11_ok h
 have cg := small9 (gp := gp) g 30
 have ch := small9 (gp := gp) k 30
 have hs := smallG_small11 g 30
 have hst := smallG_short11 g 30
 have hs' := smallG_small11 k 30
 have hst' := smallG_short11 k 30
 generalize smallG g 30 = q at *
 generalize smallG k 30 = r at *
 have c1 := quot11 h q hs hst
 have c2 := quot11 h r hs' hst'
 have c3 := bisim10 h q r hs hs' hst hst'
 have c4 := same_gr (gp := gp) (qOf q) (qOf r)
 by_cases hc : chk q = none /\ chk r = none
 ·have hg : Good q := ⟨hc.1,hs⟩
  have hr : Good r := ⟨hc.2,hs'⟩
  have hb : bisB q r = decide (qOf q = qOf r) := by
   unfold bisB
   rw [if_pos hc,qOf_good hg,qOf_good hr]
   have := (simB_good hg hr).trans (quot_same hg hr)
   rw [Bool.eq_iff_iff,this,decide_eq_true_iff]
  have he : bisE q r = 0 := by unfold bisE; rw [if_pos (chkE_ok hc.1),chkE_ok hc.2]
  rw [chkE_ok hc.1] at c1
  rw [chkE_ok hc.2] at c2
  rw [hb,he] at c3
  generalize decide (qOf q = qOf r) = b at *
  generalize qOf q = A at *
  generalize qOf r = C at *
  repeat' (first | refine Kn rfl ?_ | ((first | refine Ka ?_ | refine Kb ?_ | refine Kc ?_ | refine Kd ?_ | refine Ke ?_); simp only [go_sem]) | refine Kf ?_ | refine Kg ?_ | refine ⟨_,cs,Sh.intro ?_⟩ | refine ⟨_,⟨cs,rfl⟩,Sh.intro ?_⟩ | refine ⟨_,cg,Sh.intro ?_⟩ | refine ⟨_,⟨cg,rfl⟩,Sh.intro ?_⟩ | refine ⟨_,ch,Sh.intro ?_⟩ | refine ⟨_,⟨ch,rfl⟩,Sh.intro ?_⟩ | refine ⟨_,c1,Sh.intro ?_⟩ | refine ⟨_,⟨c1,rfl⟩,Sh.intro ?_⟩ | refine ⟨_,c2,Sh.intro ?_⟩ | refine ⟨_,⟨c2,rfl⟩,Sh.intro ?_⟩ | refine ⟨_,c3,Sh.intro ?_⟩ | refine ⟨_,⟨c3,rfl⟩,Sh.intro ?_⟩ | refine ⟨_,c4,Sh.intro ?_⟩ | refine ⟨_,⟨c4,rfl⟩,Sh.intro ?_⟩ | (refine And.intro (fun _ => ?_) (fun _ => ?_) <;> try (exfalso; omega)) | ((first | refine Kh ?_ | refine Ki rfl ?_); simp only [or_self,Qs,Qt,Qu,Qv,Qw,Qx,Qy,Qz,Za,go_sem]))
  all_goals first | (exfalso; simp_all; done) | simp_all | trace_state
 ·have hb : bisB q r = false := by unfold bisB; rw [if_neg hc]
  have he : bisE q r ≠ 0 := by
   intro e
   unfold bisE at e
   split at e
   ·exact hc ⟨chkE_iff.1 ‹_›,chkE_iff.1 e⟩
   ·contradiction
  have he2 : (chkE q != 0 || chkE r != 0) = true := by
   by_cases e : chkE q = 0
   ·by_cases e' : chkE r = 0
    ·exact absurd ⟨chkE_iff.1 e,chkE_iff.1 e'⟩ hc
    ·simp [e']
   ·simp [e]
  rw [hb] at c3
  have he3 : (bisE q r != 0) = true := by simpa using he
  generalize bisE q r = e at *
  generalize chkE q = e1 at *
  generalize chkE r = e2 at *
  generalize qOf q = A at *
  generalize qOf r = C at *
  repeat' (first | refine Kn rfl ?_ | ((first | refine Ka ?_ | refine Kb ?_ | refine Kc ?_ | refine Kd ?_ | refine Ke ?_); simp only [he3,go_sem]) | refine Kf ?_ | refine Kg ?_ | refine ⟨_,cs,Sh.intro ?_⟩ | refine ⟨_,⟨cs,rfl⟩,Sh.intro ?_⟩ | refine ⟨_,cg,Sh.intro ?_⟩ | refine ⟨_,⟨cg,rfl⟩,Sh.intro ?_⟩ | refine ⟨_,ch,Sh.intro ?_⟩ | refine ⟨_,⟨ch,rfl⟩,Sh.intro ?_⟩ | refine ⟨_,c1,Sh.intro ?_⟩ | refine ⟨_,⟨c1,rfl⟩,Sh.intro ?_⟩ | refine ⟨_,c2,Sh.intro ?_⟩ | refine ⟨_,⟨c2,rfl⟩,Sh.intro ?_⟩ | refine ⟨_,c3,Sh.intro ?_⟩ | refine ⟨_,⟨c3,rfl⟩,Sh.intro ?_⟩ | refine ⟨_,c4,Sh.intro ?_⟩ | refine ⟨_,⟨c4,rfl⟩,Sh.intro ?_⟩ | (refine And.intro (fun _ => ?_) (fun _ => ?_) <;> try (exfalso; omega)) | ((first | refine Kh ?_ | refine Ki rfl ?_); simp only [he3,or_self,Qs,Qt,Qu,Qv,Qw,Qx,Qy,Qz,Za,go_sem]))
  all_goals first | (exfalso; simp_all; done) | simp_all | trace_state
end Go.Fw.L07
