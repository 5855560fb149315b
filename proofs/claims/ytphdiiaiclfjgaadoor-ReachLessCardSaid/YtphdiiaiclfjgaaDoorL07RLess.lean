/- Chapter 8: the law ReachLess. -/
import Derived.Test.YtphdiiaiclfjgaaDoorEa
set_option linter.all false
namespace Go.Fw.L07
open Go Go.Fw
open Nat renaming reduceAdd → Qa, reduceSub → Qb, reduceMul → Qc, reduceLeDiff → Qd, reduceLT → Qe, reduceEqDiff → Qf
open Int renaming reduceToNat → Qg, reduceLT → Qh, reduceLE → Qi, reduceGT → Qj, reduceGE → Qk, reduceEq → Ql, reduceNe → Qm, reduceBEq → Qn, reduceBNe → Qo, reduceAdd → Qp, reduceSub → Qq, reduceNeg → Qr
open Go.Fw.V.one renaming injEq → Qs
open Go.Fw.V.agg renaming injEq → Qt
open Go.Fw.V.tup renaming injEq → Qu
open Go.Fw.A.d renaming injEq → Qv
open Go.Fw.D.bool renaming injEq → Qw
open Go.Fw.D.int renaming injEq → Qx
open Go.Fw.D.str renaming injEq → Qy
open Go.Fw.D.sl renaming injEq → Qz
open List.cons renaming injEq → Za
set_option maxRecDepth 4000
variable {gp : Heap}

set_option maxHeartbeats 1000000 in
theorem reach_less (h : Env gp) (g : Gr) (i0 : Int) : Does Go.Proofs.Tryd.prog gp 8 [g.v, vi i0] (vb true) := by
  refine f8_in ?_
  simp only [go_sem,reduceCtorEq,↓reduceIte,Qa,Qb,Qc,Qd,Qe,Qf,Qg,Qh,Qi,Qj,Qk,Ql,Qm,Qn,Qo,Qp,Qq,Qr]
  have cs := shown8_ok h
  have cg := cut_gr (gp := gp) g
  have hsm := g.cut_small
  generalize g.cut = q at *
  have c1 := walk_gr h q hsm
  by_cases hin : chk q = none ∧ (0 ≤ i0 ∧ i0 < (walkL q).length)
  · obtain ⟨hc, hi0⟩ := hin
    have hg : Good q := ⟨hc, hsm⟩
    have hwl := hg.wlen
    have hgl := hg.len
    rw [chkE_ok hc, wOf_good hg] at c1
    obtain ⟨n, rfl⟩ := Int.eq_ofNat_of_zero_le hi0.1
    obtain ⟨r, hr⟩ := at_lt (l := walkL q) (i := n) (by omega)
    have hrm := List.mem_of_getElem? hr
    have hgr := hg.reroot (hg.wIn r hrm)
    have c2 := walk_gr h ⟨r, q.l⟩ hgr.s
    rw [chkE_ok hgr.c, wOf_good hgr] at c2
    have hsub := hg.sub hrm
    obtain ⟨tl, htl⟩ := hgr.whead
    have hml := hgr.wlen
    have c3 := fun y => in_l (gp := gp) (walkL q) y (by omega)
    have h0 : (walkL ⟨r, q.l⟩)[0]? = some r := by rw [htl]; rfl
    have hpos : 0 < (walkL ⟨r, q.l⟩).length := by rw [htl]; simp
    generalize walkL ⟨r, q.l⟩ = m at *
    generalize walkL q = l at *
    repeat' (first | refine Gx rfl ?_ | ((first | refine G_reg ?_ | refine VO_chk ?_ | refine VO_go ?_); simp only [f8_r0,f8_r1,f8_r2,f8_r3,f8_r4,f8_r5,f8_r11,f8_r12,f8_r13,f8_r18,f8_r19,f8_r26,f8_r32,go_sem,reduceCtorEq,↓reduceIte,Qa,Qb,Qc,Qd,Qe,Qf,Qg,Qh,Qi,Qj,Qk,Ql,Qm,Qn,Qo,Qp,Qq,Qr]) | refine VO_end ?_ | refine Sh.intro ?_ | refine ⟨_, cs, Sh.intro ?_⟩ | refine ⟨_, ⟨cs, rfl⟩, Sh.intro ?_⟩ | refine ⟨_, cg, Sh.intro ?_⟩ | refine ⟨_, ⟨cg, rfl⟩, Sh.intro ?_⟩ | refine ⟨_, c1, Sh.intro ?_⟩ | refine ⟨_, ⟨c1, rfl⟩, Sh.intro ?_⟩ | refine ⟨_, c2, Sh.intro ?_⟩ | refine ⟨_, ⟨c2, rfl⟩, Sh.intro ?_⟩ | refine ⟨_, ⟨Int.natCast_nonneg _, (by first | exact map_at hr | (rw [Int.toNat_natCast]; exact map_at hr)), rfl⟩, Sh.intro ?_⟩ | (refine G_cond ?_; simp only [f8_r0,f8_r1,f8_r2,f8_r3,f8_r4,f8_r5,f8_r11,f8_r12,f8_r13,f8_r18,f8_r19,f8_r26,f8_r32,go_sem,reduceCtorEq,↓reduceIte,Qa,Qb,Qc,Qd,Qe,Qf,Qg,Qh,Qi,Qj,Qk,Ql,Qm,Qn,Qo,Qp,Qq,Qr]; first | (refine ⟨fun _ => ?_, fun _ => ?_⟩ <;> try (exfalso; omega)) | skip) | (refine And.intro (fun _ => ?_) (fun _ => ?_) <;> try (exfalso; omega)) | ((first | refine G_fin ?_ | refine G_ret rfl ?_); simp only [f8_r0,f8_r1,f8_r2,f8_r3,f8_r4,f8_r5,f8_r11,f8_r12,f8_r13,f8_r18,f8_r19,f8_r26,f8_r32,or_self,Qs,Qt,Qu,Qv,Qw,Qx,Qy,Qz,Za,go_sem,reduceCtorEq,↓reduceIte,Qa,Qb,Qc,Qd,Qe,Qf,Qg,Qh,Qi,Qj,Qk,Ql,Qm,Qn,Qo,Qp,Qq,Qr]))
    refine G_weak (fr 76 [(1, vi n), (2, .one (.ptr 0 0)), (5, vb true), (6, .one (.d (.sl (ints l)))), (8, .one (.d (.sl (ints m)))), (9, vi 0), (10, vi (0 : Nat))]) (by (simp only [go_sem,reduceCtorEq,↓reduceIte,Qa,Qb,Qc,Qd,Qe,Qf,Qg,Qh,Qi,Qj,Qk,Ql,Qm,Qn,Qo,Qp,Qq,Qr]; repeat' (first | refine And.intro ?_ ?_ | exact Or.inl rfl | exact Or.inr rfl | rfl))) ?_
    refine G_loop (fun mz sz => ∃ i : Nat, i ≤ m.length ∧ mz = m.length - i ∧ (0 ≤ i) ∧ sz = ⟨fr 76 [(1, vi n), (2, .one (.ptr 0 0)), (5, vb true), (6, .one (.d (.sl (ints l)))), (8, .one (.d (.sl (ints m)))), (9, vi 0), (10, vi i)], [.cells q.as]⟩) (m.length) ⟨0, Nat.zero_le _, (Nat.sub_zero _).symm, ?_, rfl⟩ ?_
    · exact Nat.zero_le _
    rintro _ _ ⟨i, hi, rfl, -, rfl⟩
    simp only [go_sem,reduceCtorEq,↓reduceIte,Qa,Qb,Qc,Qd,Qe,Qf,Qg,Qh,Qi,Qj,Qk,Ql,Qm,Qn,Qo,Qp,Qq,Qr]
    by_cases hil : i < m.length
    · obtain ⟨y, hy⟩ := at_lt hil
      have hym := inI_mem.2 (hsub y (List.mem_of_getElem? hy))
      repeat' (first | refine Gx rfl ?_ | ((first | refine G_reg ?_ | refine VO_chk ?_ | refine VO_go ?_); simp only [f8_r0,f8_r1,f8_r2,f8_r3,f8_r4,f8_r5,f8_r11,f8_r12,f8_r13,f8_r18,f8_r19,f8_r26,f8_r32,go_sem,reduceCtorEq,↓reduceIte,Qa,Qb,Qc,Qd,Qe,Qf,Qg,Qh,Qi,Qj,Qk,Ql,Qm,Qn,Qo,Qp,Qq,Qr]) | refine VO_end ?_ | refine Sh.intro ?_ | refine ⟨_, c3 y, Sh.intro ?_⟩ | refine ⟨_, ⟨c3 y, rfl⟩, Sh.intro ?_⟩ | refine ⟨_, ⟨Int.natCast_nonneg _, (by first | exact map_at hy | (rw [Int.toNat_natCast]; exact map_at hy)), rfl⟩, Sh.intro ?_⟩ | (refine G_cond ?_; simp only [f8_r0,f8_r1,f8_r2,f8_r3,f8_r4,f8_r5,f8_r11,f8_r12,f8_r13,f8_r18,f8_r19,f8_r26,f8_r32,go_sem,reduceCtorEq,↓reduceIte,Qa,Qb,Qc,Qd,Qe,Qf,Qg,Qh,Qi,Qj,Qk,Ql,Qm,Qn,Qo,Qp,Qq,Qr]; first | (refine ⟨fun _ => ?_, fun _ => ?_⟩ <;> try (exfalso; omega)) | skip) | (refine And.intro (fun _ => ?_) (fun _ => ?_) <;> try (exfalso; omega)) | ((first | refine G_fin ?_ | refine G_ret rfl ?_); simp only [f8_r0,f8_r1,f8_r2,f8_r3,f8_r4,f8_r5,f8_r11,f8_r12,f8_r13,f8_r18,f8_r19,f8_r26,f8_r32,or_self,Qs,Qt,Qu,Qv,Qw,Qx,Qy,Qz,Za,go_sem,reduceCtorEq,↓reduceIte,Qa,Qb,Qc,Qd,Qe,Qf,Qg,Qh,Qi,Qj,Qk,Ql,Qm,Qn,Qo,Qp,Qq,Qr]))
      all_goals first | (exfalso; omega) | skip
      refine ⟨inK_nat hil (by simp only [] at hml; unfold lenMax; omega), ?_⟩
      refine G_weak (fr 76 [(1, vi n), (2, .one (.ptr 0 0)), (5, vb true), (6, .one (.d (.sl (ints l)))), (8, .one (.d (.sl (ints m)))), (9, vi 0), (10, vi (i + 1))]) (by (simp only [go_sem,reduceCtorEq,↓reduceIte,Qa,Qb,Qc,Qd,Qe,Qf,Qg,Qh,Qi,Qj,Qk,Ql,Qm,Qn,Qo,Qp,Qq,Qr]; repeat' (first | refine And.intro ?_ ?_ | exact Or.inl rfl | exact Or.inr rfl | rfl))) ?_
      refine G_again ⟨m.length - (i + 1), by omega, i + 1, by omega, rfl, ?_, rfl⟩
      exact Nat.zero_le _
    · obtain rfl : m.length = i := by omega
      repeat' (first | refine Gx rfl ?_ | ((first | refine G_reg ?_ | refine VO_chk ?_ | refine VO_go ?_); simp only [f8_r0,f8_r1,f8_r2,f8_r3,f8_r4,f8_r5,f8_r11,f8_r12,f8_r13,f8_r18,f8_r19,f8_r26,f8_r32,go_sem,reduceCtorEq,↓reduceIte,Qa,Qb,Qc,Qd,Qe,Qf,Qg,Qh,Qi,Qj,Qk,Ql,Qm,Qn,Qo,Qp,Qq,Qr]) | refine VO_end ?_ | refine Sh.intro ?_ | refine ⟨_, ⟨Int.natCast_nonneg _, (by first | exact map_at hr | (rw [Int.toNat_natCast]; exact map_at hr)), rfl⟩, Sh.intro ?_⟩ | refine ⟨_, ⟨map_at h0, rfl⟩, Sh.intro ?_⟩ | (refine G_cond ?_; simp only [f8_r0,f8_r1,f8_r2,f8_r3,f8_r4,f8_r5,f8_r11,f8_r12,f8_r13,f8_r18,f8_r19,f8_r26,f8_r32,go_sem,reduceCtorEq,↓reduceIte,Qa,Qb,Qc,Qd,Qe,Qf,Qg,Qh,Qi,Qj,Qk,Ql,Qm,Qn,Qo,Qp,Qq,Qr]; first | (refine ⟨fun _ => ?_, fun _ => ?_⟩ <;> try (exfalso; omega)) | skip) | (refine And.intro (fun _ => ?_) (fun _ => ?_) <;> try (exfalso; omega)) | ((first | refine G_fin ?_ | refine G_ret rfl ?_); simp only [f8_r0,f8_r1,f8_r2,f8_r3,f8_r4,f8_r5,f8_r11,f8_r12,f8_r13,f8_r18,f8_r19,f8_r26,f8_r32,or_self,Qs,Qt,Qu,Qv,Qw,Qx,Qy,Qz,Za,go_sem,reduceCtorEq,↓reduceIte,Qa,Qb,Qc,Qd,Qe,Qf,Qg,Qh,Qi,Qj,Qk,Ql,Qm,Qn,Qo,Qp,Qq,Qr]))
      all_goals first | (exfalso; omega) | skip
      all_goals trace_state
  · by_cases hc : chk q = none
    · have hg : Good q := ⟨hc, hsm⟩
      rw [chkE_ok hc, wOf_good hg] at c1
      have hno : ¬ (0 ≤ i0 ∧ i0 < (walkL q).length) := fun k => hin ⟨hc, k⟩
      repeat' (first | refine Gx rfl ?_ | ((first | refine G_reg ?_ | refine VO_chk ?_ | refine VO_go ?_); simp only [f8_r0,f8_r1,f8_r2,f8_r3,f8_r4,f8_r5,f8_r11,f8_r12,f8_r13,f8_r18,f8_r19,f8_r26,f8_r32,go_sem,reduceCtorEq,↓reduceIte,Qa,Qb,Qc,Qd,Qe,Qf,Qg,Qh,Qi,Qj,Qk,Ql,Qm,Qn,Qo,Qp,Qq,Qr]) | refine VO_end ?_ | refine Sh.intro ?_ | refine ⟨_, cs, Sh.intro ?_⟩ | refine ⟨_, ⟨cs, rfl⟩, Sh.intro ?_⟩ | refine ⟨_, cg, Sh.intro ?_⟩ | refine ⟨_, ⟨cg, rfl⟩, Sh.intro ?_⟩ | refine ⟨_, c1, Sh.intro ?_⟩ | refine ⟨_, ⟨c1, rfl⟩, Sh.intro ?_⟩ | (refine G_cond ?_; simp only [f8_r0,f8_r1,f8_r2,f8_r3,f8_r4,f8_r5,f8_r11,f8_r12,f8_r13,f8_r18,f8_r19,f8_r26,f8_r32,go_sem,reduceCtorEq,↓reduceIte,Qa,Qb,Qc,Qd,Qe,Qf,Qg,Qh,Qi,Qj,Qk,Ql,Qm,Qn,Qo,Qp,Qq,Qr]; first | (refine ⟨fun _ => ?_, fun _ => ?_⟩ <;> try (exfalso; omega)) | skip) | (refine And.intro (fun _ => ?_) (fun _ => ?_) <;> try (exfalso; omega)) | ((first | refine G_fin ?_ | refine G_ret rfl ?_); simp only [f8_r0,f8_r1,f8_r2,f8_r3,f8_r4,f8_r5,f8_r11,f8_r12,f8_r13,f8_r18,f8_r19,f8_r26,f8_r32,or_self,Qs,Qt,Qu,Qv,Qw,Qx,Qy,Qz,Za,go_sem,reduceCtorEq,↓reduceIte,Qa,Qb,Qc,Qd,Qe,Qf,Qg,Qh,Qi,Qj,Qk,Ql,Qm,Qn,Qo,Qp,Qq,Qr]))
      all_goals first | (exfalso; omega) | trace_state
    · have he := chkE_bad hc
      generalize chkE q = e at *
      repeat' (first | refine Gx rfl ?_ | ((first | refine G_reg ?_ | refine VO_chk ?_ | refine VO_go ?_); simp only [f8_r0,f8_r1,f8_r2,f8_r3,f8_r4,f8_r5,f8_r11,f8_r12,f8_r13,f8_r18,f8_r19,f8_r26,f8_r32,go_sem,reduceCtorEq,↓reduceIte,Qa,Qb,Qc,Qd,Qe,Qf,Qg,Qh,Qi,Qj,Qk,Ql,Qm,Qn,Qo,Qp,Qq,Qr]) | refine VO_end ?_ | refine Sh.intro ?_ | refine ⟨_, cs, Sh.intro ?_⟩ | refine ⟨_, ⟨cs, rfl⟩, Sh.intro ?_⟩ | refine ⟨_, cg, Sh.intro ?_⟩ | refine ⟨_, ⟨cg, rfl⟩, Sh.intro ?_⟩ | refine ⟨_, c1, Sh.intro ?_⟩ | refine ⟨_, ⟨c1, rfl⟩, Sh.intro ?_⟩ | (refine G_cond ?_; simp only [f8_r0,f8_r1,f8_r2,f8_r3,f8_r4,f8_r5,f8_r11,f8_r12,f8_r13,f8_r18,f8_r19,f8_r26,f8_r32,go_sem,reduceCtorEq,↓reduceIte,Qa,Qb,Qc,Qd,Qe,Qf,Qg,Qh,Qi,Qj,Qk,Ql,Qm,Qn,Qo,Qp,Qq,Qr]; first | refine ⟨fun _ => ?_, fun _ => ?_⟩ | skip) | refine And.intro (fun _ => ?_) (fun _ => ?_) | ((first | refine G_fin ?_ | refine G_ret rfl ?_); simp only [f8_r0,f8_r1,f8_r2,f8_r3,f8_r4,f8_r5,f8_r11,f8_r12,f8_r13,f8_r18,f8_r19,f8_r26,f8_r32,or_self,Qs,Qt,Qu,Qv,Qw,Qx,Qy,Qz,Za,go_sem,reduceCtorEq,↓reduceIte,Qa,Qb,Qc,Qd,Qe,Qf,Qg,Qh,Qi,Qj,Qk,Ql,Qm,Qn,Qo,Qp,Qq,Qr]))
      all_goals first | (exfalso; simp_all; done) | trace_state
end Go.Fw.L07
