/- Chapter 8: the law ReachTells. -/
import Derived.Test.YtldjkoidjigjpaaGreatDoorEa
import Derived.Test.YtldjkoidjigjpaaGreatDoorVb
set_option linter.all false
namespace Go.Fw.L07
open Go Go.Fw
open Go.Proofs.Tryz renaming prog → QP
open Nat renaming reduceAdd → Qa, reduceSub → Qb, reduceMul → Qc, reduceLeDiff → Qd, reduceLT → Qe, reduceEqDiff → Qf
open Int renaming reduceToNat → Qg, reduceLT → Qh, reduceLE → Qi, reduceGT → Qj, reduceGE → Qk, reduceEq → Ql, reduceNe → Qm, reduceBEq → Qn, reduceBNe → Qo, reduceAdd → Qp, reduceSub → Qq, reduceNeg → Qr
open Go.Fw.V.one renaming injEq → Qs
open Go.Fw.V.agg renaming injEq → Qt
open Go.Fw.V.tup renaming injEq → Qu
open Go.Fw.A.d renaming injEq → Qv
open Go.Fw.D.bool renaming injEq → Qw
open Go.Fw.D.int renaming injEq → Qx
open Go.Fw.D.str renaming injEq → Qy
open Go.Fw.D.sl renaming injEq → Qz
open List.cons renaming injEq → Za
set_option maxRecDepth 4000
variable {gp : Heap}
set_option maxHeartbeats 2000000 in
theorem reach_tells (h : Env gp) (g0' : Gr) (l : List Int) : Does QP gp 4 [g0'.v, .one (.d (.sl (ints l)))] (vb true) := by
 refine f4_in ?_
 simp only [go_sem]
 have cs := shown8_ok h
 have cg := cut_gr (gp := gp) g0'
 have hsm := g0'.cut_small
 have hst := cut_short g0'
 have hlen : g0'.cut.l.length ≤ 1000 := by simp [Gr.cut]; omega
 generalize g0'.cut = g at *
 have cp := path_l (gp := gp) l
 have hpl : (l.take 30).length ≤ 30 := by simp; omega
 generalize l.take 30 = ps at *
 have c1 := walk_gr h g hsm
 have c2 := walk8 (gp := gp) g hsm hst
 have c3 := tidy_gr h g hsm
 have c4 := tidy8 (gp := gp) g hsm hst
 have c5 := at_gr h g hsm ps (by omega)
 have c6 := at8 (gp := gp) g hsm hst ps (by omega)
 have c7 := tidy_is h g hsm
 have c8 := istidy8 (gp := gp) g hsm hst hlen
 have c9 := ints_eq (gp := gp) (wOf g) (wOf g)
 have htl : (tOf g).l.length ≤ 1000 := by
  by_cases hc : chk g = none
  ·have hg : Good g := ⟨hc, hsm⟩
   rw [tOf_good hg, tidyG_len]
   have := hg.wlen
   omega
  ·unfold tOf; rw [if_neg hc]; simp
 have c10 := same7 (gp := gp) (tOf g) (tOf g) htl
 rw [decide_eq_true rfl] at c9 c10
 generalize chkE g = e at *
 generalize wOf g = w at *
 generalize tOf g = t at *
 generalize aOf g ps = a at *
 generalize decide (chk g = none ∧ g = tidyG g) = b at *
 repeat' (first | refine Gx rfl ?_ | ((first | refine G_reg ?_ | refine G_regv ?_ | refine VO_chk ?_ | refine VO_go ?_ | refine VO_gx ?_); simp only [f4_r0,f4_r1,f4_r2,f4_r3,f4_r4,f4_r5,f4_r6,f4_r7,f4_r8,f4_r9,f4_r10,go_sem]) | refine VO_end ?_ | refine Sh.intro ?_ | refine ⟨_, cs, Sh.intro ?_⟩ | refine ⟨_, ⟨cs, rfl⟩, Sh.intro ?_⟩ | refine ⟨_, cg, Sh.intro ?_⟩ | refine ⟨_, ⟨cg, rfl⟩, Sh.intro ?_⟩ | refine ⟨_, cp, Sh.intro ?_⟩ | refine ⟨_, ⟨cp, rfl⟩, Sh.intro ?_⟩ | refine ⟨_, c1, Sh.intro ?_⟩ | refine ⟨_, ⟨c1, rfl⟩, Sh.intro ?_⟩ | refine ⟨_, c2, Sh.intro ?_⟩ | refine ⟨_, ⟨c2, rfl⟩, Sh.intro ?_⟩ | refine ⟨_, c3, Sh.intro ?_⟩ | refine ⟨_, ⟨c3, rfl⟩, Sh.intro ?_⟩ | refine ⟨_, c4, Sh.intro ?_⟩ | refine ⟨_, ⟨c4, rfl⟩, Sh.intro ?_⟩ | refine ⟨_, c5, Sh.intro ?_⟩ | refine ⟨_, ⟨c5, rfl⟩, Sh.intro ?_⟩ | refine ⟨_, c6, Sh.intro ?_⟩ | refine ⟨_, ⟨c6, rfl⟩, Sh.intro ?_⟩ | refine ⟨_, c7, Sh.intro ?_⟩ | refine ⟨_, ⟨c7, rfl⟩, Sh.intro ?_⟩ | refine ⟨_, c8, Sh.intro ?_⟩ | refine ⟨_, ⟨c8, rfl⟩, Sh.intro ?_⟩ | refine ⟨_, c9, Sh.intro ?_⟩ | refine ⟨_, ⟨c9, rfl⟩, Sh.intro ?_⟩ | refine ⟨_, c10, Sh.intro ?_⟩ | refine ⟨_, ⟨c10, rfl⟩, Sh.intro ?_⟩ | (refine G_cond ?_; simp only [f4_r0,f4_r1,f4_r2,f4_r3,f4_r4,f4_r5,f4_r6,f4_r7,f4_r8,f4_r9,f4_r10,go_sem]; first | (refine ⟨fun _ => ?_, fun _ => ?_⟩ <;> try (exfalso; omega)) | skip) | (refine And.intro (fun _ => ?_) (fun _ => ?_) <;> try (exfalso; omega)) | ((first | refine G_fin ?_ | refine G_ret rfl ?_); simp only [f4_r0,f4_r1,f4_r2,f4_r3,f4_r4,f4_r5,f4_r6,f4_r7,f4_r8,f4_r9,f4_r10,or_self,Qs,Qt,Qu,Qv,Qw,Qx,Qy,Qz,Za,go_sem]))
 all_goals first | (exfalso; simp_all; done) | simp_all | trace_state
end Go.Fw.L07
