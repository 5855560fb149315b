/- Chapter 8: the law ReachTidy. -/
import Derived.Test.YtphdiiaiclfjgaaDoorEa
set_option linter.all false
namespace Go.Fw.L07
open Go Go.Fw
open Nat renaming reduceAdd → Qa, reduceSub → Qb, reduceMul → Qc, reduceLeDiff → Qd, reduceLT → Qe, reduceEqDiff → Qf
open Int renaming reduceToNat → Qg, reduceLT → Qh, reduceLE → Qi, reduceGT → Qj, reduceGE → Qk, reduceEq → Ql, reduceNe → Qm, reduceBEq → Qn, reduceBNe → Qo, reduceAdd → Qp, reduceSub → Qq, reduceNeg → Qr
open Go.Fw.V.one renaming injEq → Qs
open Go.Fw.V.agg renaming injEq → Qt
open Go.Fw.V.tup renaming injEq → Qu
open Go.Fw.A.d renaming injEq → Qv
open Go.Fw.D.bool renaming injEq → Qw
open Go.Fw.D.int renaming injEq → Qx
open Go.Fw.D.str renaming injEq → Qy
open Go.Fw.D.sl renaming injEq → Qz
open List.cons renaming injEq → Za
set_option maxRecDepth 4000
variable {gp : Heap}

set_option maxHeartbeats 1000000 in
theorem reach_tidy (h : Env gp) (g : Gr) : Does Go.Proofs.Tryd.prog gp 3 [g.v] (vb true) := by
  refine f3_in ?_
  simp only [go_sem,reduceCtorEq,↓reduceIte,Qa,Qb,Qc,Qd,Qe,Qf,Qg,Qh,Qi,Qj,Qk,Ql,Qm,Qn,Qo,Qp,Qq,Qr]
  have cs := shown8_ok h
  have cg := cut_gr (gp := gp) g
  have hsm := g.cut_small
  generalize g.cut = q at *
  have c1 := tidy_gr h q hsm
  have c2 := walk_gr h q hsm
  have c4 := tidy_is h q hsm
  have c3 : Does Go.Proofs.Tryd.prog gp 13 [q.v] (.tup [vi ((chk q).getD (0, 0)).1, vi (chkE q)]) := chk_gr h q
  by_cases hc : chk q = none
  · have hg : Good q := ⟨hc, hsm⟩
    have hgt := hg.tidy
    rw [chkE_ok hc, tOf_good hg] at c1
    rw [chkE_ok hc, wOf_good hg] at c2
    rw [chkE_ok hc] at c3
    simp only [hc, true_and] at c4
    have c5 := tidy_gr h (tidyG q) hgt.s
    rw [chkE_ok hgt.c, tOf_good hgt, tidy_tidy hg] at c5
    have c6 := tidy_is h (tidyG q) hgt.s
    rw [show decide (chk (tidyG q) = none ∧ tidyG q = tidyG (tidyG q)) = true from decide_eq_true ⟨hgt.c, (tidy_tidy hg).symm⟩] at c6
    have c7 := same_gr (gp := gp) (tidyG q) (tidyG q)
    simp only [decide_true] at c7
    have c8 := same_gr (gp := gp) q (tidyG q)
    have htl := tidyG_len q
    repeat' (first | refine Gx rfl ?_ | ((first | refine G_reg ?_ | refine VO_chk ?_ | refine VO_go ?_); simp only [f3_r0,f3_r1,f3_r2,f3_r3,f3_r4,f3_r5,f3_r6,f3_r7,f3_r13,f3_r14,htl,go_sem,reduceCtorEq,↓reduceIte,Qa,Qb,Qc,Qd,Qe,Qf,Qg,Qh,Qi,Qj,Qk,Ql,Qm,Qn,Qo,Qp,Qq,Qr]) | refine VO_end ?_ | refine Sh.intro ?_ | refine ⟨_, cs, Sh.intro ?_⟩ | refine ⟨_, ⟨cs, rfl⟩, Sh.intro ?_⟩ | refine ⟨_, cg, Sh.intro ?_⟩ | refine ⟨_, ⟨cg, rfl⟩, Sh.intro ?_⟩ | refine ⟨_, c1, Sh.intro ?_⟩ | refine ⟨_, ⟨c1, rfl⟩, Sh.intro ?_⟩ | refine ⟨_, c2, Sh.intro ?_⟩ | refine ⟨_, ⟨c2, rfl⟩, Sh.intro ?_⟩ | refine ⟨_, c3, Sh.intro ?_⟩ | refine ⟨_, ⟨c3, rfl⟩, Sh.intro ?_⟩ | refine ⟨_, c5, Sh.intro ?_⟩ | refine ⟨_, ⟨c5, rfl⟩, Sh.intro ?_⟩ | refine ⟨_, c6, Sh.intro ?_⟩ | refine ⟨_, ⟨c6, rfl⟩, Sh.intro ?_⟩ | refine ⟨_, c7, Sh.intro ?_⟩ | refine ⟨_, ⟨c7, rfl⟩, Sh.intro ?_⟩ | refine ⟨_, c4, Sh.intro ?_⟩ | refine ⟨_, ⟨c4, rfl⟩, Sh.intro ?_⟩ | refine ⟨_, c8, Sh.intro ?_⟩ | refine ⟨_, ⟨c8, rfl⟩, Sh.intro ?_⟩ | (refine G_cond ?_; simp only [f3_r0,f3_r1,f3_r2,f3_r3,f3_r4,f3_r5,f3_r6,f3_r7,f3_r13,f3_r14,htl,go_sem,reduceCtorEq,↓reduceIte,Qa,Qb,Qc,Qd,Qe,Qf,Qg,Qh,Qi,Qj,Qk,Ql,Qm,Qn,Qo,Qp,Qq,Qr]; first | refine ⟨fun _ => ?_, fun _ => ?_⟩ | skip) | refine And.intro (fun _ => ?_) (fun _ => ?_) | ((first | refine G_fin ?_ | refine G_ret rfl ?_); simp only [f3_r0,f3_r1,f3_r2,f3_r3,f3_r4,f3_r5,f3_r6,f3_r7,f3_r13,f3_r14,htl,or_self,Qs,Qt,Qu,Qv,Qw,Qx,Qy,Qz,Za,go_sem,reduceCtorEq,↓reduceIte,Qa,Qb,Qc,Qd,Qe,Qf,Qg,Qh,Qi,Qj,Qk,Ql,Qm,Qn,Qo,Qp,Qq,Qr]))
    all_goals trace_state
  · have he := chkE_bad hc
    have hw : wOf q = [] := by unfold wOf; rw [if_neg hc]
    have ht : tOf q = ⟨0, []⟩ := by unfold tOf; rw [if_neg hc]
    rw [hw] at c2
    rw [ht] at c1
    generalize chkE q = e at *
    repeat' (first | refine Gx rfl ?_ | ((first | refine G_reg ?_ | refine VO_chk ?_ | refine VO_go ?_); simp only [f3_r0,f3_r1,f3_r2,f3_r3,f3_r4,f3_r5,f3_r6,f3_r7,f3_r13,f3_r14,go_sem,reduceCtorEq,↓reduceIte,Qa,Qb,Qc,Qd,Qe,Qf,Qg,Qh,Qi,Qj,Qk,Ql,Qm,Qn,Qo,Qp,Qq,Qr]) | refine VO_end ?_ | refine Sh.intro ?_ | refine ⟨_, cs, Sh.intro ?_⟩ | refine ⟨_, ⟨cs, rfl⟩, Sh.intro ?_⟩ | refine ⟨_, cg, Sh.intro ?_⟩ | refine ⟨_, ⟨cg, rfl⟩, Sh.intro ?_⟩ | refine ⟨_, c1, Sh.intro ?_⟩ | refine ⟨_, ⟨c1, rfl⟩, Sh.intro ?_⟩ | refine ⟨_, c2, Sh.intro ?_⟩ | refine ⟨_, ⟨c2, rfl⟩, Sh.intro ?_⟩ | refine ⟨_, c3, Sh.intro ?_⟩ | refine ⟨_, ⟨c3, rfl⟩, Sh.intro ?_⟩ | (refine G_cond ?_; simp only [f3_r0,f3_r1,f3_r2,f3_r3,f3_r4,f3_r5,f3_r6,f3_r7,f3_r13,f3_r14,go_sem,reduceCtorEq,↓reduceIte,Qa,Qb,Qc,Qd,Qe,Qf,Qg,Qh,Qi,Qj,Qk,Ql,Qm,Qn,Qo,Qp,Qq,Qr]; first | refine ⟨fun _ => ?_, fun _ => ?_⟩ | skip) | refine And.intro (fun _ => ?_) (fun _ => ?_) | ((first | refine G_fin ?_ | refine G_ret rfl ?_); simp only [f3_r0,f3_r1,f3_r2,f3_r3,f3_r4,f3_r5,f3_r6,f3_r7,f3_r13,f3_r14,or_self,Qs,Qt,Qu,Qv,Qw,Qx,Qy,Qz,Za,go_sem,reduceCtorEq,↓reduceIte,Qa,Qb,Qc,Qd,Qe,Qf,Qg,Qh,Qi,Qj,Qk,Ql,Qm,Qn,Qo,Qp,Qq,Qr]))
    all_goals simp_all
end Go.Fw.L07
