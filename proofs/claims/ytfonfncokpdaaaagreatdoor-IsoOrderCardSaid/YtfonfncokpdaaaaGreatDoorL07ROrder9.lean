/- Chapter 9: the law IsoOrder. -/
import Derived.Test.YtfonfncokpdaaaaGreatDoorIb
set_option linter.all false
namespace Go.Fw.L07
open Go Go.Fw
open Nat renaming reduceAdd → Qa, reduceSub → Qb, reduceMul → Qc, reduceLeDiff → Qd, reduceLT → Qe, reduceEqDiff → Qf
open Int renaming reduceToNat → Qg, reduceLT → Qh, reduceLE → Qi, reduceGT → Qj, reduceGE → Qk, reduceEq → Ql, reduceNe → Qm, reduceBEq → Qn, reduceBNe → Qo, reduceAdd → Qp, reduceSub → Qq, reduceNeg → Qr
open Go.Fw.V.one renaming injEq → Qs
open Go.Fw.V.agg renaming injEq → Qt
open Go.Fw.V.tup renaming injEq → Qu
open Go.Fw.A.d renaming injEq → Qv
open Go.Fw.D.bool renaming injEq → Qw
open Go.Fw.D.int renaming injEq → Qx
open Go.Fw.D.str renaming injEq → Qy
open Go.Fw.D.sl renaming injEq → Qz
open List.cons renaming injEq → Za
set_option maxRecDepth 4000
variable {gp : Heap} {ua : Addr}
theorem alG_iff {g h : Gr} (hs : Small g) (hs' : Small h) : alG g h = true ↔ Good g ∧ Good h ∧ alikeG g h = true := by
  unfold alG
  constructor
  · intro e
    split at e
    · rename_i hc; exact ⟨⟨hc.1, hs⟩, ⟨hc.2, hs'⟩, e⟩
    · cases e
  · rintro ⟨h1, h2, h3⟩
    rw [if_pos ⟨h1.c, h2.c⟩]; exact h3
theorem alG_refl {g : Gr} (hg : Good g) : alG g g = true := (alG_iff hg.s hg.s).2 ⟨hg, hg, alike_of hg hg (iso_refl g)⟩
theorem alG_tidy {g : Gr} (hg : Good g) : alG g (tidyG g) = true := (alG_iff hg.s hg.tidy.s).2 ⟨hg, hg.tidy, alike_of hg hg.tidy (iso_tidy hg)⟩
theorem alG_sym {g h : Gr} (hs : Small g) (hs' : Small h) : alG g h = alG h g := by
  rw [Bool.eq_iff_iff, alG_iff hs hs', alG_iff hs' hs]
  constructor
  · rintro ⟨h1, h2, h3⟩; exact ⟨h2, h1, alike_of h2 h1 (iso_of h1 h2 h3).sym⟩
  · rintro ⟨h1, h2, h3⟩; exact ⟨h2, h1, alike_of h2 h1 (iso_of h1 h2 h3).sym⟩
theorem alG_trans {g h k : Gr} (hs : Small g) (hs' : Small h) (hs'' : Small k) (h1 : alG g h = true) (h2 : alG h k = true) : alG g k = true := by
  obtain ⟨a1, a2, a3⟩ := (alG_iff hs hs').1 h1
  obtain ⟨b1, b2, b3⟩ := (alG_iff hs' hs'').1 h2
  exact (alG_iff hs hs'').2 ⟨a1, b2, alike_of a1 b2 ((iso_of a1 a2 a3).trans a1 a2 (iso_of b1 b2 b3))⟩
set_option maxHeartbeats 1000000 in
theorem iso_order (h9 : Env9 gp ua) (g h k : Gr) : Does Go.Proofs.Tryz.prog gp 8 [g.v, h.v, k.v] (vb true) := by
  refine f8_in ?_
  simp only [go_sem,reduceCtorEq,↓reduceIte,Qa,Qb,Qc,Qd,Qe,Qf,Qg,Qh,Qi,Qj,Qk,Ql,Qm,Qn,Qo,Qp,Qq,Qr]
  have cs := shown9_ok h9
  have cg := small9 (gp := gp) g 30
  have ch := small9 (gp := gp) h 30
  have ck := small9 (gp := gp) k 30
  have hs := smallG_small g 30
  have hs' := smallG_small h 30
  have hs'' := smallG_small k 30
  generalize smallG g 30 = q at *
  generalize smallG h 30 = r at *
  generalize smallG k 30 = s at *
  have ct := tidy_gr h9.e q hs
  by_cases hc : chk q = none
  · have gq : Good q := ⟨hc, hs⟩
    rw [chkE_ok hc, tOf_good gq] at ct
    have c1 := alike_gr h9 q q hs hs
    have c2 := alike_gr h9 q (tidyG q) hs gq.tidy.s
    have c3 := alike_gr h9 q r hs hs'
    have c4 := alike_gr h9 r q hs' hs
    have c5 := alike_gr h9 r s hs' hs''
    have c6 := alike_gr h9 q s hs hs''
    rw [alG_refl gq, checkE_good gq gq] at c1
    rw [alG_tidy gq, checkE_good gq gq.tidy] at c2
    rw [alG_sym hs' hs] at c4
    have tr := alG_trans hs hs' hs''
    generalize alG q r = x at *
    generalize alG r s = y at *
    generalize alG q s = z at *
    generalize checkE [q, r] = e1 at *
    generalize checkE [r, q] = e2 at *
    generalize checkE [r, s] = e3 at *
    generalize checkE [q, s] = e4 at *
    generalize tidyG q = t at *
    cases x <;> cases y <;> cases z
    all_goals
      repeat' (first | refine Gx rfl ?_ | ((first | refine G_reg ?_ | refine G_regv ?_ | refine VO_chk ?_ | refine VO_go ?_ | refine VO_gx ?_); simp only [f8_r0,f8_r1,f8_r2,f8_r3,f8_r4,f8_r5,f8_r6,f8_r7,f8_r13,f8_r14,f8_r15,f8_r16,f8_r17,f8_r18,f8_r19,go_sem,reduceCtorEq,↓reduceIte,Qa,Qb,Qc,Qd,Qe,Qf,Qg,Qh,Qi,Qj,Qk,Ql,Qm,Qn,Qo,Qp,Qq,Qr]) | refine VO_end ?_ | refine Sh.intro ?_ | refine ⟨_, cs, Sh.intro ?_⟩ | refine ⟨_, ⟨cs, rfl⟩, Sh.intro ?_⟩ | refine ⟨_, cg, Sh.intro ?_⟩ | refine ⟨_, ⟨cg, rfl⟩, Sh.intro ?_⟩ | refine ⟨_, ch, Sh.intro ?_⟩ | refine ⟨_, ⟨ch, rfl⟩, Sh.intro ?_⟩ | refine ⟨_, ck, Sh.intro ?_⟩ | refine ⟨_, ⟨ck, rfl⟩, Sh.intro ?_⟩ | refine ⟨_, ct, Sh.intro ?_⟩ | refine ⟨_, ⟨ct, rfl⟩, Sh.intro ?_⟩ | refine ⟨_, c1, Sh.intro ?_⟩ | refine ⟨_, ⟨c1, rfl⟩, Sh.intro ?_⟩ | refine ⟨_, c2, Sh.intro ?_⟩ | refine ⟨_, ⟨c2, rfl⟩, Sh.intro ?_⟩ | refine ⟨_, c3, Sh.intro ?_⟩ | refine ⟨_, ⟨c3, rfl⟩, Sh.intro ?_⟩ | refine ⟨_, c4, Sh.intro ?_⟩ | refine ⟨_, ⟨c4, rfl⟩, Sh.intro ?_⟩ | refine ⟨_, c5, Sh.intro ?_⟩ | refine ⟨_, ⟨c5, rfl⟩, Sh.intro ?_⟩ | refine ⟨_, c6, Sh.intro ?_⟩ | refine ⟨_, ⟨c6, rfl⟩, Sh.intro ?_⟩ | (refine G_cond ?_; simp only [f8_r0,f8_r1,f8_r2,f8_r3,f8_r4,f8_r5,f8_r6,f8_r7,f8_r13,f8_r14,f8_r15,f8_r16,f8_r17,f8_r18,f8_r19,go_sem,reduceCtorEq,↓reduceIte,Qa,Qb,Qc,Qd,Qe,Qf,Qg,Qh,Qi,Qj,Qk,Ql,Qm,Qn,Qo,Qp,Qq,Qr]; first | (refine ⟨fun _ => ?_, fun _ => ?_⟩ <;> try (exfalso; omega)) | skip) | (refine And.intro (fun _ => ?_) (fun _ => ?_) <;> try (exfalso; omega)) | ((first | refine G_fin ?_ | refine G_ret rfl ?_); simp only [f8_r0,f8_r1,f8_r2,f8_r3,f8_r4,f8_r5,f8_r6,f8_r7,f8_r13,f8_r14,f8_r15,f8_r16,f8_r17,f8_r18,f8_r19,or_self,Qs,Qt,Qu,Qv,Qw,Qx,Qy,Qz,Za,go_sem,reduceCtorEq,↓reduceIte,Qa,Qb,Qc,Qd,Qe,Qf,Qg,Qh,Qi,Qj,Qk,Ql,Qm,Qn,Qo,Qp,Qq,Qr]))
      all_goals first | (exfalso; omega) | rfl | (exfalso; simp_all; done) | trace_state
  · have he := chkE_bad hc
    generalize chkE q = e at *
    have hne : (e != 0) = true := by simpa using he
    repeat' (first | refine Gx rfl ?_ | ((first | refine G_reg ?_ | refine G_regv ?_ | refine VO_chk ?_ | refine VO_go ?_ | refine VO_gx ?_); simp only [f8_r0,f8_r1,f8_r2,f8_r3,f8_r4,f8_r5,f8_r6,f8_r7,f8_r13,f8_r14,f8_r15,f8_r16,f8_r17,f8_r18,f8_r19,hne,go_sem,reduceCtorEq,↓reduceIte,Qa,Qb,Qc,Qd,Qe,Qf,Qg,Qh,Qi,Qj,Qk,Ql,Qm,Qn,Qo,Qp,Qq,Qr]) | refine VO_end ?_ | refine Sh.intro ?_ | refine ⟨_, cs, Sh.intro ?_⟩ | refine ⟨_, ⟨cs, rfl⟩, Sh.intro ?_⟩ | refine ⟨_, cg, Sh.intro ?_⟩ | refine ⟨_, ⟨cg, rfl⟩, Sh.intro ?_⟩ | refine ⟨_, ch, Sh.intro ?_⟩ | refine ⟨_, ⟨ch, rfl⟩, Sh.intro ?_⟩ | refine ⟨_, ck, Sh.intro ?_⟩ | refine ⟨_, ⟨ck, rfl⟩, Sh.intro ?_⟩ | refine ⟨_, ct, Sh.intro ?_⟩ | refine ⟨_, ⟨ct, rfl⟩, Sh.intro ?_⟩ | (refine G_cond ?_; simp only [f8_r0,f8_r1,f8_r2,f8_r3,f8_r4,f8_r5,f8_r6,f8_r7,f8_r13,f8_r14,f8_r15,f8_r16,f8_r17,f8_r18,f8_r19,hne,go_sem,reduceCtorEq,↓reduceIte,Qa,Qb,Qc,Qd,Qe,Qf,Qg,Qh,Qi,Qj,Qk,Ql,Qm,Qn,Qo,Qp,Qq,Qr]; first | (refine ⟨fun _ => ?_, fun _ => ?_⟩ <;> try (exfalso; omega)) | skip) | (refine And.intro (fun _ => ?_) (fun _ => ?_) <;> try (exfalso; omega)) | ((first | refine G_fin ?_ | refine G_ret rfl ?_); simp only [f8_r0,f8_r1,f8_r2,f8_r3,f8_r4,f8_r5,f8_r6,f8_r7,f8_r13,f8_r14,f8_r15,f8_r16,f8_r17,f8_r18,f8_r19,hne,or_self,Qs,Qt,Qu,Qv,Qw,Qx,Qy,Qz,Za,go_sem,reduceCtorEq,↓reduceIte,Qa,Qb,Qc,Qd,Qe,Qf,Qg,Qh,Qi,Qj,Qk,Ql,Qm,Qn,Qo,Qp,Qq,Qr]))
    all_goals first | (exfalso; omega) | rfl | trace_state
end Go.Fw.L07
