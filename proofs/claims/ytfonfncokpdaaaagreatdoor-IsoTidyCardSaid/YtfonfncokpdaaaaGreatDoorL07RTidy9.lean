/- Chapter 9: the law IsoTidy. -/
import Derived.Test.YtfonfncokpdaaaaGreatDoorIb
set_option linter.all false
namespace Go.Fw.L07
open Go Go.Fw
open Nat renaming reduceAdd → Qa, reduceSub → Qb, reduceMul → Qc, reduceLeDiff → Qd, reduceLT → Qe, reduceEqDiff → Qf
open Int renaming reduceToNat → Qg, reduceLT → Qh, reduceLE → Qi, reduceGT → Qj, reduceGE → Qk, reduceEq → Ql, reduceNe → Qm, reduceBEq → Qn, reduceBNe → Qo, reduceAdd → Qp, reduceSub → Qq, reduceNeg → Qr
open Go.Fw.V.one renaming injEq → Qs
open Go.Fw.V.agg renaming injEq → Qt
open Go.Fw.V.tup renaming injEq → Qu
open Go.Fw.A.d renaming injEq → Qv
open Go.Fw.D.bool renaming injEq → Qw
open Go.Fw.D.int renaming injEq → Qx
open Go.Fw.D.str renaming injEq → Qy
open Go.Fw.D.sl renaming injEq → Qz
open List.cons renaming injEq → Za
set_option maxRecDepth 4000
variable {gp : Heap} {ua : Addr}
theorem alike_same {g h : Gr} (hg : Good g) (hh : Good h) : alikeG g h = decide (tidyG g = tidyG h) := by
  rw [Bool.eq_iff_iff, decide_eq_true_eq]
  exact ⟨alike_tidy hg hh, tidy_alike hg hh⟩
set_option maxHeartbeats 1000000 in
theorem iso_tidy_law (h9 : Env9 gp ua) (g h : Gr) : Does Go.Proofs.Tryz.prog gp 9 [g.v, h.v] (vb true) := by
  refine f9_in ?_
  simp only [go_sem,reduceCtorEq,↓reduceIte,Qa,Qb,Qc,Qd,Qe,Qf,Qg,Qh,Qi,Qj,Qk,Ql,Qm,Qn,Qo,Qp,Qq,Qr]
  have cs := shown9_ok h9
  have cg := small9 (gp := gp) g 30
  have ch := small9 (gp := gp) h 30
  have hs := smallG_small g 30
  have hs' := smallG_small h 30
  generalize smallG g 30 = q at *
  generalize smallG h 30 = r at *
  have c1 := alike_gr h9 q r hs hs'
  have c2 := tidy_gr h9.e q hs
  have c3 := tidy_gr h9.e r hs'
  by_cases hc : chk q = none ∧ chk r = none
  · have gq : Good q := ⟨hc.1, hs⟩
    have gr : Good r := ⟨hc.2, hs'⟩
    rw [alG_good gq gr, alike_same gq gr, checkE_good gq gr] at c1
    rw [chkE_ok gq.c, tOf_good gq] at c2
    rw [chkE_ok gr.c, tOf_good gr] at c3
    have c4 := same_gr (gp := gp) (tidyG q) (tidyG r)
    generalize tidyG q = x at *
    generalize tidyG r = y at *
    generalize decide (x = y) = b at *
    cases b
    all_goals
      repeat' (first | refine Gx rfl ?_ | ((first | refine G_reg ?_ | refine G_regv ?_ | refine VO_chk ?_ | refine VO_go ?_ | refine VO_gx ?_); simp only [f9_r0,f9_r1,f9_r2,f9_r3,f9_r4,f9_r5,f9_r6,f9_r7,f9_r8,f9_r14,go_sem,reduceCtorEq,↓reduceIte,Qa,Qb,Qc,Qd,Qe,Qf,Qg,Qh,Qi,Qj,Qk,Ql,Qm,Qn,Qo,Qp,Qq,Qr]) | refine VO_end ?_ | refine Sh.intro ?_ | refine ⟨_, cs, Sh.intro ?_⟩ | refine ⟨_, ⟨cs, rfl⟩, Sh.intro ?_⟩ | refine ⟨_, cg, Sh.intro ?_⟩ | refine ⟨_, ⟨cg, rfl⟩, Sh.intro ?_⟩ | refine ⟨_, ch, Sh.intro ?_⟩ | refine ⟨_, ⟨ch, rfl⟩, Sh.intro ?_⟩ | refine ⟨_, c1, Sh.intro ?_⟩ | refine ⟨_, ⟨c1, rfl⟩, Sh.intro ?_⟩ | refine ⟨_, c2, Sh.intro ?_⟩ | refine ⟨_, ⟨c2, rfl⟩, Sh.intro ?_⟩ | refine ⟨_, c3, Sh.intro ?_⟩ | refine ⟨_, ⟨c3, rfl⟩, Sh.intro ?_⟩ | refine ⟨_, c4, Sh.intro ?_⟩ | refine ⟨_, ⟨c4, rfl⟩, Sh.intro ?_⟩ | (refine G_cond ?_; simp only [f9_r0,f9_r1,f9_r2,f9_r3,f9_r4,f9_r5,f9_r6,f9_r7,f9_r8,f9_r14,go_sem,reduceCtorEq,↓reduceIte,Qa,Qb,Qc,Qd,Qe,Qf,Qg,Qh,Qi,Qj,Qk,Ql,Qm,Qn,Qo,Qp,Qq,Qr]; first | (refine ⟨fun _ => ?_, fun _ => ?_⟩ <;> try (exfalso; omega)) | skip) | (refine And.intro (fun _ => ?_) (fun _ => ?_) <;> try (exfalso; omega)) | ((first | refine G_fin ?_ | refine G_ret rfl ?_); simp only [f9_r0,f9_r1,f9_r2,f9_r3,f9_r4,f9_r5,f9_r6,f9_r7,f9_r8,f9_r14,or_self,Qs,Qt,Qu,Qv,Qw,Qx,Qy,Qz,Za,go_sem,reduceCtorEq,↓reduceIte,Qa,Qb,Qc,Qd,Qe,Qf,Qg,Qh,Qi,Qj,Qk,Ql,Qm,Qn,Qo,Qp,Qq,Qr]))
      all_goals first | (exfalso; omega) | rfl | (exfalso; simp_all; done) | trace_state
  · have e0 : alG q r = false := by unfold alG; rw [if_neg hc]
    have he : checkE [q, r] ≠ 0 := fun e => hc ((checkE_two q r).1 e)
    have hor : chkE q = checkE [q, r] ∨ chkE r = checkE [q, r] := by
      simp only [checkE] at he ⊢
      split
      · rename_i h1
        rw [if_pos h1] at he
        split
        · rename_i h2; rw [if_pos h2] at he; exact absurd rfl he
        · exact .inr rfl
      · exact .inl rfl
    rw [e0] at c1
    generalize checkE [q, r] = e at *
    generalize chkE q = e1 at *
    generalize chkE r = e2 at *
    generalize tOf q = x at *
    generalize tOf r = y at *
    have hne : (e != 0) = true := by simpa using he
    repeat' (first | refine Gx rfl ?_ | ((first | refine G_reg ?_ | refine G_regv ?_ | refine VO_chk ?_ | refine VO_go ?_ | refine VO_gx ?_); simp only [f9_r0,f9_r1,f9_r2,f9_r3,f9_r4,f9_r5,f9_r6,f9_r7,f9_r8,f9_r14,hne,go_sem,reduceCtorEq,↓reduceIte,Qa,Qb,Qc,Qd,Qe,Qf,Qg,Qh,Qi,Qj,Qk,Ql,Qm,Qn,Qo,Qp,Qq,Qr]) | refine VO_end ?_ | refine Sh.intro ?_ | refine ⟨_, cs, Sh.intro ?_⟩ | refine ⟨_, ⟨cs, rfl⟩, Sh.intro ?_⟩ | refine ⟨_, cg, Sh.intro ?_⟩ | refine ⟨_, ⟨cg, rfl⟩, Sh.intro ?_⟩ | refine ⟨_, ch, Sh.intro ?_⟩ | refine ⟨_, ⟨ch, rfl⟩, Sh.intro ?_⟩ | refine ⟨_, c1, Sh.intro ?_⟩ | refine ⟨_, ⟨c1, rfl⟩, Sh.intro ?_⟩ | refine ⟨_, c2, Sh.intro ?_⟩ | refine ⟨_, ⟨c2, rfl⟩, Sh.intro ?_⟩ | refine ⟨_, c3, Sh.intro ?_⟩ | refine ⟨_, ⟨c3, rfl⟩, Sh.intro ?_⟩ | (refine G_cond ?_; simp only [f9_r0,f9_r1,f9_r2,f9_r3,f9_r4,f9_r5,f9_r6,f9_r7,f9_r8,f9_r14,hne,go_sem,reduceCtorEq,↓reduceIte,Qa,Qb,Qc,Qd,Qe,Qf,Qg,Qh,Qi,Qj,Qk,Ql,Qm,Qn,Qo,Qp,Qq,Qr]; first | (refine ⟨fun _ => ?_, fun _ => ?_⟩ <;> try (exfalso; omega)) | skip) | (refine And.intro (fun _ => ?_) (fun _ => ?_) <;> try (exfalso; omega)) | ((first | refine G_fin ?_ | refine G_ret rfl ?_); simp only [f9_r0,f9_r1,f9_r2,f9_r3,f9_r4,f9_r5,f9_r6,f9_r7,f9_r8,f9_r14,hne,or_self,Qs,Qt,Qu,Qv,Qw,Qx,Qy,Qz,Za,go_sem,reduceCtorEq,↓reduceIte,Qa,Qb,Qc,Qd,Qe,Qf,Qg,Qh,Qi,Qj,Qk,Ql,Qm,Qn,Qo,Qp,Qq,Qr]))
    all_goals first | (exfalso; omega) | rfl | (simp_all; done) | trace_state
end Go.Fw.L07
