/- Chapter 11: the law QuotPaths. -/
import Derived.Test.YtbicdabccidliaaGreatDoorL07S11
set_option linter.all false
namespace Go.Fw.L07
open Go Go.Fw
open Go.Fw.Sh renaming intro -> Kg
open Go.Fw renaming G_reg -> Ka,G_regv -> Ka,VO_chk -> Kb,VO_go -> Kc,VO_gx -> Kd,G_cond -> Ke,VO_end -> Kf,G_fin -> Kh,G_ret -> Ki,Gx -> Kn
open Go.Proofs.Tryz renaming prog -> QP
open Nat renaming reduceAdd -> Qa,reduceSub -> Qb,reduceMul -> Qc,reduceLeDiff -> Qd,reduceLT -> Qe,reduceEqDiff -> Qf
open Int renaming reduceToNat -> Qg,reduceLT -> Qh,reduceLE -> Qi,reduceGT -> Qj,reduceGE -> Qk,reduceEq -> Ql,reduceNe -> Qm,reduceBEq -> Qn,reduceBNe -> Qo,reduceAdd -> Qp,reduceSub -> Qq,reduceNeg -> Qr
open Go.Fw.V.one renaming injEq -> Qs
open Go.Fw.V.agg renaming injEq -> Qt
open Go.Fw.V.tup renaming injEq -> Qu
open Go.Fw.A.d renaming injEq -> Qv
open Go.Fw.D.bool renaming injEq -> Qw
open Go.Fw.D.int renaming injEq -> Qx
open Go.Fw.D.str renaming injEq -> Qy
open Go.Fw.D.sl renaming injEq -> Qz
open List.cons renaming injEq -> Za
set_option maxRecDepth 4000
variable {gp : Heap}
theorem ints_cut (l : List Int) (n : Nat) : List.take n (ints l) = ints (l.take n) := by simp [ints,List.map_take]
set_option maxHeartbeats 1000000 in
theorem quot_paths (h : Env10 gp) (g : Gr) (l : List Int) : Does QP gp 11 [g.v,.one (.d (.sl (ints l)))] (vb true) := by
 refine f11_in ?_
 simp only [go_sem]
 have cs := shown11_ok h
 have cg := small9 (gp := gp) g 30
 have hs := smallG_small11 g 30
 have hst := smallG_short11 g 30
 generalize smallG g 30 = q at *
 have hpl : (l.take (min l.length 30)).length <= 30 := by simp; omega
 have hcut := ints_cut l (min l.length 30)
 have hm : (if (30 : Int) < (l.length : Int) then 30 else (l.length : Int)) = ((min l.length 30 : Nat) : Int) := by split <;> omega
 generalize l.take (min l.length 30) = ps at *
 have c1 := quot11 h q hs hst
 have c2 := places11 h q hs hst
 have c3 := at_gr h.e q hs ps (by omega)
 have c4 := at_gr h.e (qOf q) (qOf_small hs) ps (by omega)
 by_cases hc : chk q = none
 ·have hg : Good q := ⟨hc,hs⟩
  have e0 : pOf q = plcG q := by unfold pOf; rw [if_pos hc]
  rw [qOf_good hg,aOf_good hg.quot,quot_path hg] at c4
  rw [qOf_good hg,chkE_ok hc] at c1
  rw [aOf_good hg] at c3
  rw [e0,chkE_ok hc] at c2
  have hpl := plc_len hg
  cases ha : atG q ps with
  | none =>
   rw [ha] at c3 c4
   simp only [Option.getD_none,Option.isSome_none,Option.map_none] at c3 c4
   repeat' (first | refine Kn rfl ?_ | ((first | refine Ka ?_ | refine Kb ?_ | refine Kc ?_ | refine Kd ?_ | refine Ke ?_); simp only [hcut,go_sem]) | refine Kf ?_ | refine Kg ?_ | refine ⟨_,cs,Sh.intro ?_⟩ | refine ⟨_,⟨cs,rfl⟩,Sh.intro ?_⟩ | refine ⟨_,cg,Sh.intro ?_⟩ | refine ⟨_,⟨cg,rfl⟩,Sh.intro ?_⟩ | refine ⟨_,c1,Sh.intro ?_⟩ | refine ⟨_,⟨c1,rfl⟩,Sh.intro ?_⟩ | refine ⟨_,c2,Sh.intro ?_⟩ | refine ⟨_,⟨c2,rfl⟩,Sh.intro ?_⟩ | refine ⟨_,c3,Sh.intro ?_⟩ | refine ⟨_,⟨c3,rfl⟩,Sh.intro ?_⟩ | refine ⟨_,c4,Sh.intro ?_⟩ | refine ⟨_,⟨c4,rfl⟩,Sh.intro ?_⟩ | refine ⟨0,min l.length 30,⟨rfl,hm,Nat.zero_le _,Nat.min_le_left _ _,ints_one l⟩,Sh.intro ?_⟩ | (refine And.intro (fun _ => ?_) (fun _ => ?_) <;> try (exfalso; omega)) | ((first | refine Kh ?_ | refine Ki rfl ?_); simp only [hcut,or_self,Qs,Qt,Qu,Qv,Qw,Qx,Qy,Qz,Za,go_sem]))
   all_goals first | (exfalso; omega) | rfl | (exfalso; simp_all; done) | trace_state
  | some a =>
   have haw := atF_mem hg hg.wroot ha
   have hai := hg.wIn a haw
   have hpa := plc_at hg hai
   rw [ha] at c3 c4
   simp only [Option.getD_some,Option.isSome_some,Option.map_some] at c3 c4
   generalize plcG q = P at *
   generalize plcA q a = b at *
   repeat' (first | refine Kn rfl ?_ | ((first | refine Ka ?_ | refine Kb ?_ | refine Kc ?_ | refine Kd ?_ | refine Ke ?_); simp only [hcut,go_sem]) | refine Kf ?_ | refine Kg ?_ | refine ⟨_,cs,Sh.intro ?_⟩ | refine ⟨_,⟨cs,rfl⟩,Sh.intro ?_⟩ | refine ⟨_,cg,Sh.intro ?_⟩ | refine ⟨_,⟨cg,rfl⟩,Sh.intro ?_⟩ | refine ⟨_,c1,Sh.intro ?_⟩ | refine ⟨_,⟨c1,rfl⟩,Sh.intro ?_⟩ | refine ⟨_,c2,Sh.intro ?_⟩ | refine ⟨_,⟨c2,rfl⟩,Sh.intro ?_⟩ | refine ⟨_,c3,Sh.intro ?_⟩ | refine ⟨_,⟨c3,rfl⟩,Sh.intro ?_⟩ | refine ⟨_,c4,Sh.intro ?_⟩ | refine ⟨_,⟨c4,rfl⟩,Sh.intro ?_⟩ | refine ⟨0,min l.length 30,⟨rfl,hm,Nat.zero_le _,Nat.min_le_left _ _,ints_one l⟩,Sh.intro ?_⟩ | refine ⟨_,⟨hai.1,ints_get hpa,rfl⟩,Sh.intro ?_⟩ | (refine And.intro (fun _ => ?_) (fun _ => ?_) <;> try (exfalso; omega)) | ((first | refine Kh ?_ | refine Ki rfl ?_); simp only [hcut,or_self,Qs,Qt,Qu,Qv,Qw,Qx,Qy,Qz,Za,go_sem]))
   all_goals first | (exfalso; omega) | rfl | (exfalso; simp_all; done) | trace_state
 ·have he := chkE_bad hc
  have e1 : qOf q = ⟨0,[]⟩ := by unfold qOf; rw [if_neg hc]
  have e2 : aOf q ps = none := by unfold aOf; rw [if_neg hc]
  have e3 : aOf ⟨0,[]⟩ ps = none := by unfold aOf; rw [if_neg (by rw [not_chk_nil]; simp)]
  rw [e1,e3] at c4
  rw [e1] at c1
  rw [e2] at c3
  generalize chkE q = e at *
  generalize pOf q = P at *
  simp only [Option.getD_none,Option.isSome_none] at c3 c4
  have hne : (e != 0) = true := by simpa using he
  repeat' (first | refine Kn rfl ?_ | ((first | refine Ka ?_ | refine Kb ?_ | refine Kc ?_ | refine Kd ?_ | refine Ke ?_); simp only [hcut,hne,go_sem]) | refine Kf ?_ | refine Kg ?_ | refine ⟨_,cs,Sh.intro ?_⟩ | refine ⟨_,⟨cs,rfl⟩,Sh.intro ?_⟩ | refine ⟨_,cg,Sh.intro ?_⟩ | refine ⟨_,⟨cg,rfl⟩,Sh.intro ?_⟩ | refine ⟨_,c1,Sh.intro ?_⟩ | refine ⟨_,⟨c1,rfl⟩,Sh.intro ?_⟩ | refine ⟨_,c2,Sh.intro ?_⟩ | refine ⟨_,⟨c2,rfl⟩,Sh.intro ?_⟩ | refine ⟨_,c3,Sh.intro ?_⟩ | refine ⟨_,⟨c3,rfl⟩,Sh.intro ?_⟩ | refine ⟨_,c4,Sh.intro ?_⟩ | refine ⟨_,⟨c4,rfl⟩,Sh.intro ?_⟩ | refine ⟨0,min l.length 30,⟨rfl,hm,Nat.zero_le _,Nat.min_le_left _ _,ints_one l⟩,Sh.intro ?_⟩ | (refine And.intro (fun _ => ?_) (fun _ => ?_) <;> try (exfalso; omega)) | ((first | refine Kh ?_ | refine Ki rfl ?_); simp only [hcut,hne,or_self,Qs,Qt,Qu,Qv,Qw,Qx,Qy,Qz,Za,go_sem]))
  all_goals first | (exfalso; omega) | rfl | (exfalso; simp_all; done) | trace_state
end Go.Fw.L07
