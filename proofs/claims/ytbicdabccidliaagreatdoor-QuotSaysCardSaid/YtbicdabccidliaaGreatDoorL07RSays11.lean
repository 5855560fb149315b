/- Chapter 11: the law QuotSays. -/
import Derived.Test.YtbicdabccidliaaGreatDoorL07T11
set_option linter.all false
namespace Go.Fw.L07
open Go Go.Fw
open Go.Fw.Sh renaming intro -> Kg
open Go.Fw renaming G_reg -> Ka,G_regw -> Ka,VO_chk -> Kb,VO_go -> Kc,VO_gx -> Kd,G_cond -> Ke,VO_end -> Kf,G_fin -> Kh,G_ret -> Ki,Gx -> Kn
open Go.Proofs.Tryz renaming prog -> QP
open Nat renaming reduceAdd -> Qa,reduceSub -> Qb,reduceMul -> Qc,reduceLeDiff -> Qd,reduceLT -> Qe,reduceEqDiff -> Qf
open Int renaming reduceToNat -> Qg,reduceLT -> Qh,reduceLE -> Qi,reduceGT -> Qj,reduceGE -> Qk,reduceEq -> Ql,reduceNe -> Qm,reduceBEq -> Qn,reduceBNe -> Qo,reduceAdd -> Qp,reduceSub -> Qq,reduceNeg -> Qr
open Go.Fw.V.one renaming injEq -> Qs
open Go.Fw.V.agg renaming injEq -> Qt
open Go.Fw.V.tup renaming injEq -> Qu
open Go.Fw.A.d renaming injEq -> Qv
open Go.Fw.D.bool renaming injEq -> Qw
open Go.Fw.D.int renaming injEq -> Qx
open Go.Fw.D.str renaming injEq -> Qy
open Go.Fw.D.sl renaming injEq -> Qz
open List.cons renaming injEq -> Za
set_option maxRecDepth 4000
variable {gp : Heap}
set_option maxHeartbeats 1000000 in
theorem quot_says (h : Env10 gp) (g : Gr) : Does QP gp 12 [g.v] (vb true) := by
 refine f12_in ?_
 simp only [go_sem]
 have cs := shown11_ok h
 have cg := small9 (gp := gp) g 60
 have hs := smallG_small11 g 60
 have hst := smallG_short11 g 60
 generalize smallG g 60 = q at *
 have c1 := quot11 h q hs hst
 have c2 : Does QP gp 37 [q.v] (.tup [vi ((chk q).getD (0,0)).1,vi (chkE q)]) := chk_gr h.e q
 by_cases hc : chk q = none
 ·have hg : Good q := ⟨hc,hs⟩
  have hq := hg.quot
  have hqs := quot_short hg hst
  have c3 := bisim10 h q (quotG q) hs hq.s hst hqs
  have hb : bisB q (quotG q) = true := by
   unfold bisB
   rw [if_pos ⟨hc,hq.c⟩]
   exact (simB_good hg hq).2 (quot_root hg)
  have he : bisE q (quotG q) = 0 := by unfold bisE; rw [if_pos (chkE_ok hc),chkE_ok hq.c]
  rw [hb,he] at c3
  have c4 := quot11 h (quotG q) hq.s hqs
  rw [qOf_good hq,quot_quot hg,chkE_ok hq.c] at c4
  have c5 := isred11 h (quotG q) hq.s hqs
  rw [show decide (chk (quotG q) = none /\ quotG q = quotG (quotG q)) = true from decide_eq_true ⟨hq.c,(quot_quot hg).symm⟩] at c5
  have c6 := isred11 h q hs hst
  rw [show decide (chk q = none /\ q = quotG q) = decide (q = quotG q) by simp [hc]] at c6
  have c7 := same_gr (gp := gp) (quotG q) (quotG q)
  rw [decide_eq_true rfl] at c7
  have c8 := same_gr (gp := gp) q (quotG q)
  have hl := quot_len hg
  have e1 : decide (((quotG q).l.length : Int) <= (q.l.length : Int)) = true := decide_eq_true (by omega)
  rw [qOf_good hg,chkE_ok hc] at c1
  generalize decide (q = quotG q) = b at *
  generalize quotG q = A at *
  repeat' (first | refine Kn rfl ?_ | ((first | refine Ka ?_ | refine Kb ?_ | refine Kc ?_ | refine Kd ?_ | refine Ke ?_); simp only [e1,go_sem]) | refine Kf ?_ | refine Kg ?_ | refine ⟨_,cs,Sh.intro ?_⟩ | refine ⟨_,⟨cs,rfl⟩,Sh.intro ?_⟩ | refine ⟨_,cg,Sh.intro ?_⟩ | refine ⟨_,⟨cg,rfl⟩,Sh.intro ?_⟩ | refine ⟨_,c1,Sh.intro ?_⟩ | refine ⟨_,⟨c1,rfl⟩,Sh.intro ?_⟩ | refine ⟨_,c2,Sh.intro ?_⟩ | refine ⟨_,⟨c2,rfl⟩,Sh.intro ?_⟩ | refine ⟨_,c3,Sh.intro ?_⟩ | refine ⟨_,⟨c3,rfl⟩,Sh.intro ?_⟩ | refine ⟨_,c4,Sh.intro ?_⟩ | refine ⟨_,⟨c4,rfl⟩,Sh.intro ?_⟩ | refine ⟨_,c5,Sh.intro ?_⟩ | refine ⟨_,⟨c5,rfl⟩,Sh.intro ?_⟩ | refine ⟨_,c6,Sh.intro ?_⟩ | refine ⟨_,⟨c6,rfl⟩,Sh.intro ?_⟩ | refine ⟨_,c7,Sh.intro ?_⟩ | refine ⟨_,⟨c7,rfl⟩,Sh.intro ?_⟩ | refine ⟨_,c8,Sh.intro ?_⟩ | refine ⟨_,⟨c8,rfl⟩,Sh.intro ?_⟩ | (refine And.intro (fun _ => ?_) (fun _ => ?_) <;> try (exfalso; omega)) | ((first | refine Kh ?_ | refine Ki rfl ?_); simp only [e1,or_self,Qs,Qt,Qu,Qv,Qw,Qx,Qy,Qz,Za,go_sem]))
  all_goals first | (exfalso; simp_all; done) | simp_all | trace_state
 ·have he := chkE_bad hc
  have e0 : qOf q = ⟨0,[]⟩ := by unfold qOf; rw [if_neg hc]
  rw [e0] at c1
  generalize chkE q = e at *
  have hne : (e != 0) = true := by simpa using he
  repeat' (first | refine Kn rfl ?_ | ((first | refine Ka ?_ | refine Kb ?_ | refine Kc ?_ | refine Kd ?_ | refine Ke ?_); simp only [hne,go_sem]) | refine Kf ?_ | refine Kg ?_ | refine ⟨_,cs,Sh.intro ?_⟩ | refine ⟨_,⟨cs,rfl⟩,Sh.intro ?_⟩ | refine ⟨_,cg,Sh.intro ?_⟩ | refine ⟨_,⟨cg,rfl⟩,Sh.intro ?_⟩ | refine ⟨_,c1,Sh.intro ?_⟩ | refine ⟨_,⟨c1,rfl⟩,Sh.intro ?_⟩ | refine ⟨_,c2,Sh.intro ?_⟩ | refine ⟨_,⟨c2,rfl⟩,Sh.intro ?_⟩ | (refine And.intro (fun _ => ?_) (fun _ => ?_) <;> try (exfalso; omega)) | ((first | refine Kh ?_ | refine Ki rfl ?_); simp only [hne,or_self,Qs,Qt,Qu,Qv,Qw,Qx,Qy,Qz,Za,go_sem]))
  all_goals first | (exfalso; simp_all; done) | simp_all | trace_state
end Go.Fw.L07
