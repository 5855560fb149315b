/- Chapter 9: the law IsoCounts. -/
import Derived.Test.YtfonfncokpdaaaaDoorIb
set_option linter.all false
namespace Go.Fw.L07
open Go Go.Fw
open Nat renaming reduceAdd → Qa, reduceSub → Qb, reduceMul → Qc, reduceLeDiff → Qd, reduceLT → Qe, reduceEqDiff → Qf
open Int renaming reduceToNat → Qg, reduceLT → Qh, reduceLE → Qi, reduceGT → Qj, reduceGE → Qk, reduceEq → Ql, reduceNe → Qm, reduceBEq → Qn, reduceBNe → Qo, reduceAdd → Qp, reduceSub → Qq, reduceNeg → Qr
open Go.Fw.V.one renaming injEq → Qs
open Go.Fw.V.agg renaming injEq → Qt
open Go.Fw.V.tup renaming injEq → Qu
open Go.Fw.A.d renaming injEq → Qv
open Go.Fw.D.bool renaming injEq → Qw
open Go.Fw.D.int renaming injEq → Qx
open Go.Fw.D.str renaming injEq → Qy
open Go.Fw.D.sl renaming injEq → Qz
open List.cons renaming injEq → Za
set_option maxRecDepth 4000
variable {gp : Heap} {ua : Addr}

set_option maxHeartbeats 1000000 in
theorem iso_counts (h9 : Env9 gp ua) (g h : Gr) : Does Go.Proofs.Tryd.prog gp 7 [g.v, h.v] (vb true) := by
  refine f7_in ?_
  simp only [go_sem,reduceCtorEq,↓reduceIte,Qa,Qb,Qc,Qd,Qe,Qf,Qg,Qh,Qi,Qj,Qk,Ql,Qm,Qn,Qo,Qp,Qq,Qr]
  have cs := shown9_ok h9
  have cg := small9 (gp := gp) g 30
  have ch := small9 (gp := gp) h 30
  have hs := smallG_small g 30
  have hs' := smallG_small h 30
  generalize smallG g 30 = q at *
  generalize smallG h 30 = r at *
  have c1 := alike_gr h9 q r hs hs'
  have c2 := pairs_gr h9 q r hs hs'
  have c3 := walk_gr h9.e q hs
  have c4 := walk_gr h9.e r hs'
  by_cases hc : chk q = none ∧ chk r = none
  · have gq : Good q := ⟨hc.1, hs⟩
    have gr : Good r := ⟨hc.2, hs'⟩
    rw [alG_good gq gr, checkE_good gq gr] at c1
    rw [prG_good gq gr, checkE_good gq gr] at c2
    cases ha : alikeG q r with
    | false =>
      rw [ha] at c1
      repeat' (first | refine Gx rfl ?_ | ((first | refine G_reg ?_ | refine G_regv ?_ | refine VO_chk ?_ | refine VO_go ?_ | refine VO_gx ?_); simp only [f7_r0,f7_r1,f7_r2,f7_r3,f7_r4,f7_r5,f7_r6,f7_r7,f7_r8,f7_r9,f7_r15,go_sem,reduceCtorEq,↓reduceIte,Qa,Qb,Qc,Qd,Qe,Qf,Qg,Qh,Qi,Qj,Qk,Ql,Qm,Qn,Qo,Qp,Qq,Qr]) | refine VO_end ?_ | refine Sh.intro ?_ | refine ⟨_, cs, Sh.intro ?_⟩ | refine ⟨_, ⟨cs, rfl⟩, Sh.intro ?_⟩ | refine ⟨_, cg, Sh.intro ?_⟩ | refine ⟨_, ⟨cg, rfl⟩, Sh.intro ?_⟩ | refine ⟨_, ch, Sh.intro ?_⟩ | refine ⟨_, ⟨ch, rfl⟩, Sh.intro ?_⟩ | refine ⟨_, c1, Sh.intro ?_⟩ | refine ⟨_, ⟨c1, rfl⟩, Sh.intro ?_⟩ | refine ⟨_, c2, Sh.intro ?_⟩ | refine ⟨_, ⟨c2, rfl⟩, Sh.intro ?_⟩ | refine ⟨_, c3, Sh.intro ?_⟩ | refine ⟨_, ⟨c3, rfl⟩, Sh.intro ?_⟩ | refine ⟨_, c4, Sh.intro ?_⟩ | refine ⟨_, ⟨c4, rfl⟩, Sh.intro ?_⟩ | (refine G_cond ?_; simp only [f7_r0,f7_r1,f7_r2,f7_r3,f7_r4,f7_r5,f7_r6,f7_r7,f7_r8,f7_r9,f7_r15,go_sem,reduceCtorEq,↓reduceIte,Qa,Qb,Qc,Qd,Qe,Qf,Qg,Qh,Qi,Qj,Qk,Ql,Qm,Qn,Qo,Qp,Qq,Qr]; first | (refine ⟨fun _ => ?_, fun _ => ?_⟩ <;> try (exfalso; omega)) | skip) | (refine And.intro (fun _ => ?_) (fun _ => ?_) <;> try (exfalso; omega)) | ((first | refine G_fin ?_ | refine G_ret rfl ?_); simp only [f7_r0,f7_r1,f7_r2,f7_r3,f7_r4,f7_r5,f7_r6,f7_r7,f7_r8,f7_r9,f7_r15,or_self,Qs,Qt,Qu,Qv,Qw,Qx,Qy,Qz,Za,go_sem,reduceCtorEq,↓reduceIte,Qa,Qb,Qc,Qd,Qe,Qf,Qg,Qh,Qi,Qj,Qk,Ql,Qm,Qn,Qo,Qp,Qq,Qr]))
      all_goals first | (exfalso; omega) | rfl | trace_state
    | true =>
      rw [ha] at c1
      obtain ⟨e1, e2⟩ := alike_walks gq gr ha
      have e3 := (alike_iff.1 ha).1
      have l1 : ((walkL q).length : Int) = (pairsG q r).1.length := by rw [e1, List.length_map]
      have l2 : ((walkL r).length : Int) = (pairsG q r).1.length := by rw [e2, List.length_map]
      rw [wOf_good gq, chkE_ok gq.c] at c3
      rw [wOf_good gr, chkE_ok gr.c] at c4
      rw [e3] at c2
      repeat' (first | refine Gx rfl ?_ | ((first | refine G_reg ?_ | refine G_regv ?_ | refine VO_chk ?_ | refine VO_go ?_ | refine VO_gx ?_); simp only [f7_r0,f7_r1,f7_r2,f7_r3,f7_r4,f7_r5,f7_r6,f7_r7,f7_r8,f7_r9,f7_r15,l1,l2,go_sem,reduceCtorEq,↓reduceIte,Qa,Qb,Qc,Qd,Qe,Qf,Qg,Qh,Qi,Qj,Qk,Ql,Qm,Qn,Qo,Qp,Qq,Qr]) | refine VO_end ?_ | refine Sh.intro ?_ | refine ⟨_, cs, Sh.intro ?_⟩ | refine ⟨_, ⟨cs, rfl⟩, Sh.intro ?_⟩ | refine ⟨_, cg, Sh.intro ?_⟩ | refine ⟨_, ⟨cg, rfl⟩, Sh.intro ?_⟩ | refine ⟨_, ch, Sh.intro ?_⟩ | refine ⟨_, ⟨ch, rfl⟩, Sh.intro ?_⟩ | refine ⟨_, c1, Sh.intro ?_⟩ | refine ⟨_, ⟨c1, rfl⟩, Sh.intro ?_⟩ | refine ⟨_, c2, Sh.intro ?_⟩ | refine ⟨_, ⟨c2, rfl⟩, Sh.intro ?_⟩ | refine ⟨_, c3, Sh.intro ?_⟩ | refine ⟨_, ⟨c3, rfl⟩, Sh.intro ?_⟩ | refine ⟨_, c4, Sh.intro ?_⟩ | refine ⟨_, ⟨c4, rfl⟩, Sh.intro ?_⟩ | (refine G_cond ?_; simp only [f7_r0,f7_r1,f7_r2,f7_r3,f7_r4,f7_r5,f7_r6,f7_r7,f7_r8,f7_r9,f7_r15,l1,l2,go_sem,reduceCtorEq,↓reduceIte,Qa,Qb,Qc,Qd,Qe,Qf,Qg,Qh,Qi,Qj,Qk,Ql,Qm,Qn,Qo,Qp,Qq,Qr]; first | (refine ⟨fun _ => ?_, fun _ => ?_⟩ <;> try (exfalso; omega)) | skip) | (refine And.intro (fun _ => ?_) (fun _ => ?_) <;> try (exfalso; omega)) | ((first | refine G_fin ?_ | refine G_ret rfl ?_); simp only [f7_r0,f7_r1,f7_r2,f7_r3,f7_r4,f7_r5,f7_r6,f7_r7,f7_r8,f7_r9,f7_r15,l1,l2,or_self,Qs,Qt,Qu,Qv,Qw,Qx,Qy,Qz,Za,go_sem,reduceCtorEq,↓reduceIte,Qa,Qb,Qc,Qd,Qe,Qf,Qg,Qh,Qi,Qj,Qk,Ql,Qm,Qn,Qo,Qp,Qq,Qr]))
      all_goals first | (exfalso; omega) | rfl | simp_all | trace_state
  · have he : checkE [q, r] ≠ 0 := fun e => hc ((checkE_two q r).1 e)
    generalize checkE [q, r] = e at *
    have hne : (e != 0) = true := by simpa using he
    repeat' (first | refine Gx rfl ?_ | ((first | refine G_reg ?_ | refine G_regv ?_ | refine VO_chk ?_ | refine VO_go ?_ | refine VO_gx ?_); simp only [f7_r0,f7_r1,f7_r2,f7_r3,f7_r4,f7_r5,f7_r6,f7_r7,f7_r8,f7_r9,f7_r15,hne,go_sem,reduceCtorEq,↓reduceIte,Qa,Qb,Qc,Qd,Qe,Qf,Qg,Qh,Qi,Qj,Qk,Ql,Qm,Qn,Qo,Qp,Qq,Qr]) | refine VO_end ?_ | refine Sh.intro ?_ | refine ⟨_, cs, Sh.intro ?_⟩ | refine ⟨_, ⟨cs, rfl⟩, Sh.intro ?_⟩ | refine ⟨_, cg, Sh.intro ?_⟩ | refine ⟨_, ⟨cg, rfl⟩, Sh.intro ?_⟩ | refine ⟨_, ch, Sh.intro ?_⟩ | refine ⟨_, ⟨ch, rfl⟩, Sh.intro ?_⟩ | refine ⟨_, c1, Sh.intro ?_⟩ | refine ⟨_, ⟨c1, rfl⟩, Sh.intro ?_⟩ | refine ⟨_, c2, Sh.intro ?_⟩ | refine ⟨_, ⟨c2, rfl⟩, Sh.intro ?_⟩ | refine ⟨_, c3, Sh.intro ?_⟩ | refine ⟨_, ⟨c3, rfl⟩, Sh.intro ?_⟩ | refine ⟨_, c4, Sh.intro ?_⟩ | refine ⟨_, ⟨c4, rfl⟩, Sh.intro ?_⟩ | (refine G_cond ?_; simp only [f7_r0,f7_r1,f7_r2,f7_r3,f7_r4,f7_r5,f7_r6,f7_r7,f7_r8,f7_r9,f7_r15,hne,go_sem,reduceCtorEq,↓reduceIte,Qa,Qb,Qc,Qd,Qe,Qf,Qg,Qh,Qi,Qj,Qk,Ql,Qm,Qn,Qo,Qp,Qq,Qr]; first | (refine ⟨fun _ => ?_, fun _ => ?_⟩ <;> try (exfalso; omega)) | skip) | (refine And.intro (fun _ => ?_) (fun _ => ?_) <;> try (exfalso; omega)) | ((first | refine G_fin ?_ | refine G_ret rfl ?_); simp only [f7_r0,f7_r1,f7_r2,f7_r3,f7_r4,f7_r5,f7_r6,f7_r7,f7_r8,f7_r9,f7_r15,hne,or_self,Qs,Qt,Qu,Qv,Qw,Qx,Qy,Qz,Za,go_sem,reduceCtorEq,↓reduceIte,Qa,Qb,Qc,Qd,Qe,Qf,Qg,Qh,Qi,Qj,Qk,Ql,Qm,Qn,Qo,Qp,Qq,Qr]))
    all_goals first | (exfalso; omega) | rfl | simp_all | trace_state
end Go.Fw.L07
