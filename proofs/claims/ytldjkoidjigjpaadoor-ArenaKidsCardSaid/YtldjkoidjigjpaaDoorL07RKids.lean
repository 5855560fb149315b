/- Chapter 7: the law ArenaKids. -/
import Derived.Test.YtldjkoidjigjpaaDoorL07Kids
set_option linter.all false
namespace Go.Fw.L07
open Go Go.Fw
open Nat renaming reduceAdd → Qa, reduceSub → Qb, reduceMul → Qc, reduceLeDiff → Qd, reduceLT → Qe, reduceEqDiff → Qf
open Int renaming reduceToNat → Qg, reduceLT → Qh, reduceLE → Qi, reduceGT → Qj, reduceGE → Qk, reduceEq → Ql, reduceNe → Qm, reduceBEq → Qn, reduceBNe → Qo, reduceAdd → Qp, reduceSub → Qq, reduceNeg → Qr
open Go.Fw.V.one renaming injEq → Qs
open Go.Fw.V.agg renaming injEq → Qt
open Go.Fw.V.tup renaming injEq → Qu
open Go.Fw.A.d renaming injEq → Qv
open Go.Fw.D.bool renaming injEq → Qw
open Go.Fw.D.int renaming injEq → Qx
open Go.Fw.D.str renaming injEq → Qy
open Go.Fw.D.sl renaming injEq → Qz
open List.cons renaming injEq → Za
set_option maxRecDepth 4000
variable {gp : Heap}
set_option maxHeartbeats 4000000 in
theorem arena_kids (h : Env gp) (g : Gr) (i0 : Int) : Does Go.Proofs.Tryd.prog gp 3 [g.v, vi i0] (vb true) := by
  refine f3_in ?_
  simp only [go_sem,reduceCtorEq,↓reduceIte,Qa,Qb,Qc,Qd,Qe,Qf,Qg,Qh,Qi,Qj,Qk,Ql,Qm,Qn,Qo,Qp,Qq,Qr]
  have cs := shown_ok h
  have c1 := chk_gr h g.cut
  have cg := cut_gr (gp := gp) g
  have hsm := g.cut_small
  generalize g.cut = q at *
  have c2 := kids (gp := gp) q i0 hsm
  have c3 := keys (gp := gp) q i0 hsm
  by_cases hr : 0 ≤ i0 ∧ i0 < q.l.length
  · have hat : atE q.l i0 = 0 := by unfold atE; rw [if_pos hr]
    rw [hat] at c2 c3
    have d1 : decide (i0 < 0) = false := decide_eq_false (by omega)
    have d2 : decide (i0 ≥ (q.l.length : Int)) = false := decide_eq_false (by omega)
    have d3 : decide (i0 ≥ 0) = true := decide_eq_true (by omega)
    have d4 : decide (i0 < (q.l.length : Int)) = true := decide_eq_true (by omega)
    by_cases hc : chk q = none
    · rw [hc] at c1
      dsimp only [Option.getD_none] at c1
      obtain ⟨h1, h2, h3⟩ := chk_ok hc
      obtain ⟨i0, rfl⟩ := Int.eq_ofNat_of_zero_le hr.1
      obtain ⟨x, hx⟩ := at_lt (l := q.l) (i := i0) (by omega)
      have hnd : ndAt q.l i0 = x := by unfold ndAt; rw [if_pos hr, Int.toNat_natCast, hx]; rfl
      have c4 := fun key => find_key (gp := gp) q i0 key hsm
      rw [hnd] at c2 c3 c4
      obtain ⟨k1, k2, k3, k4, k5, k6⟩ := kids_ok (h3 x (List.mem_of_getElem? hx))
      have hsx := hsm x (List.mem_of_getElem? hx)
      have hkl : (kidsOf x).length < lenMax := by rw [k2]; unfold lenMax; omega
      have hyl : (keysOf x).length < lenMax := by
        by_cases hk : x.k = 2
        · rw [k3 hk]; exact hkl
        · rw [k4 hk]; simp [lenMax]
      generalize kidsOf x = kl at *
      generalize keysOf x = yl at *
      repeat' (first | refine Gx rfl ?_ | ((first | refine G_reg ?_ | refine G_regv ?_ | refine VO_chk ?_ | refine VO_go ?_ | refine VO_gx ?_); simp only [f3_r0,f3_r1,f3_r2,f3_r3,f3_r4,f3_r5,f3_r6,f3_r7,f3_r13,f3_r14,f3_r19,f3_r20,f3_r27,f3_r33,f3_r34,f3_r39,f3_r40,f3_r41,f3_r49,f3_r55,d1,d2,go_sem,reduceCtorEq,↓reduceIte,Qa,Qb,Qc,Qd,Qe,Qf,Qg,Qh,Qi,Qj,Qk,Ql,Qm,Qn,Qo,Qp,Qq,Qr]) | refine VO_end ?_ | refine Sh.intro ?_ | refine ⟨_, cs, Sh.intro ?_⟩ | refine ⟨_, ⟨cs, rfl⟩, Sh.intro ?_⟩ | refine ⟨_, cg, Sh.intro ?_⟩ | refine ⟨_, ⟨cg, rfl⟩, Sh.intro ?_⟩ | refine ⟨_, c1, Sh.intro ?_⟩ | refine ⟨_, ⟨c1, rfl⟩, Sh.intro ?_⟩ | refine ⟨_, c2, Sh.intro ?_⟩ | refine ⟨_, ⟨c2, rfl⟩, Sh.intro ?_⟩ | refine ⟨_, c3, Sh.intro ?_⟩ | refine ⟨_, ⟨c3, rfl⟩, Sh.intro ?_⟩ | (refine G_cond ?_; simp only [f3_r0,f3_r1,f3_r2,f3_r3,f3_r4,f3_r5,f3_r6,f3_r7,f3_r13,f3_r14,f3_r19,f3_r20,f3_r27,f3_r33,f3_r34,f3_r39,f3_r40,f3_r41,f3_r49,f3_r55,d1,d2,go_sem,reduceCtorEq,↓reduceIte,Qa,Qb,Qc,Qd,Qe,Qf,Qg,Qh,Qi,Qj,Qk,Ql,Qm,Qn,Qo,Qp,Qq,Qr]; first | (refine ⟨fun _ => ?_, fun _ => ?_⟩ <;> try (exfalso; omega)) | skip) | (refine And.intro (fun _ => ?_) (fun _ => ?_) <;> try (exfalso; omega)) | ((first | refine G_fin ?_ | refine G_ret rfl ?_); simp only [f3_r0,f3_r1,f3_r2,f3_r3,f3_r4,f3_r5,f3_r6,f3_r7,f3_r13,f3_r14,f3_r19,f3_r20,f3_r27,f3_r33,f3_r34,f3_r39,f3_r40,f3_r41,f3_r49,f3_r55,d1,d2,or_self,Qs,Qt,Qu,Qv,Qw,Qx,Qy,Qz,Za,go_sem,reduceCtorEq,↓reduceIte,Qa,Qb,Qc,Qd,Qe,Qf,Qg,Qh,Qi,Qj,Qk,Ql,Qm,Qn,Qo,Qp,Qq,Qr]))
      all_goals first | (exfalso; omega) | skip
      refine G_weak (fr 190 [(1, vi i0), (2, .one (.ptr 0 0)), (5, vb true), (8, .one (.d (.sl (ints kl)))), (9, vi 0), (10, .one (.d (.sl (scs yl)))), (11, vi 0), (12, vi (0 : Nat))]) (by (simp only [go_sem,reduceCtorEq,↓reduceIte,Qa,Qb,Qc,Qd,Qe,Qf,Qg,Qh,Qi,Qj,Qk,Ql,Qm,Qn,Qo,Qp,Qq,Qr]; repeat' (first | refine And.intro ?_ ?_ | exact Or.inl rfl | exact Or.inr rfl | rfl))) ?_
      refine G_loop (fun mz sz => ∃ i : Nat, i ≤ kl.length ∧ mz = kl.length - i ∧ (0 ≤ i) ∧ sz = ⟨fr 190 [(1, vi i0), (2, .one (.ptr 0 0)), (5, vb true), (8, .one (.d (.sl (ints kl)))), (9, vi 0), (10, .one (.d (.sl (scs yl)))), (11, vi 0), (12, vi i)], [.cells q.as]⟩) (kl.length) ⟨0, Nat.zero_le _, (Nat.sub_zero _).symm, ?_, rfl⟩ ?_
      · exact Nat.zero_le _
      rintro _ _ ⟨i, hi, rfl, -, rfl⟩
      simp only [go_sem,reduceCtorEq,↓reduceIte,Qa,Qb,Qc,Qd,Qe,Qf,Qg,Qh,Qi,Qj,Qk,Ql,Qm,Qn,Qo,Qp,Qq,Qr]
      by_cases hil : i < kl.length
      · obtain ⟨y, hy⟩ := at_lt hil
        have hyr := k1 y (List.mem_of_getElem? hy)
        have e1 : decide (y < 0) = false := decide_eq_false (by omega)
        have e2 : decide (y ≥ (q.l.length : Int)) = false := decide_eq_false (by omega)
        have e3 : decide ((i : Int) < (kl.length : Int)) = true := decide_eq_true (by omega)
        repeat' (first | refine Gx rfl ?_ | ((first | refine G_reg ?_ | refine G_regv ?_ | refine VO_chk ?_ | refine VO_go ?_ | refine VO_gx ?_); simp only [f3_r0,f3_r1,f3_r2,f3_r3,f3_r4,f3_r5,f3_r6,f3_r7,f3_r13,f3_r14,f3_r19,f3_r20,f3_r27,f3_r33,f3_r34,f3_r39,f3_r40,f3_r41,f3_r49,f3_r55,e1,e2,e3,go_sem,reduceCtorEq,↓reduceIte,Qa,Qb,Qc,Qd,Qe,Qf,Qg,Qh,Qi,Qj,Qk,Ql,Qm,Qn,Qo,Qp,Qq,Qr]) | refine VO_end ?_ | refine Sh.intro ?_ | refine ⟨_, ⟨Int.natCast_nonneg _, (by first | exact map_at hy | (rw [Int.toNat_natCast]; exact map_at hy)), rfl⟩, Sh.intro ?_⟩ | (refine G_cond ?_; simp only [f3_r0,f3_r1,f3_r2,f3_r3,f3_r4,f3_r5,f3_r6,f3_r7,f3_r13,f3_r14,f3_r19,f3_r20,f3_r27,f3_r33,f3_r34,f3_r39,f3_r40,f3_r41,f3_r49,f3_r55,e1,e2,e3,go_sem,reduceCtorEq,↓reduceIte,Qa,Qb,Qc,Qd,Qe,Qf,Qg,Qh,Qi,Qj,Qk,Ql,Qm,Qn,Qo,Qp,Qq,Qr]; first | (refine ⟨fun _ => ?_, fun _ => ?_⟩ <;> try (exfalso; omega)) | skip) | (refine And.intro (fun _ => ?_) (fun _ => ?_) <;> try (exfalso; omega)) | ((first | refine G_fin ?_ | refine G_ret rfl ?_); simp only [f3_r0,f3_r1,f3_r2,f3_r3,f3_r4,f3_r5,f3_r6,f3_r7,f3_r13,f3_r14,f3_r19,f3_r20,f3_r27,f3_r33,f3_r34,f3_r39,f3_r40,f3_r41,f3_r49,f3_r55,e1,e2,e3,or_self,Qs,Qt,Qu,Qv,Qw,Qx,Qy,Qz,Za,go_sem,reduceCtorEq,↓reduceIte,Qa,Qb,Qc,Qd,Qe,Qf,Qg,Qh,Qi,Qj,Qk,Ql,Qm,Qn,Qo,Qp,Qq,Qr]))
        all_goals first | (exfalso; omega) | skip
        refine ⟨inK_nat hil hkl, ?_⟩
        refine G_weak (fr 190 [(1, vi i0), (2, .one (.ptr 0 0)), (5, vb true), (8, .one (.d (.sl (ints kl)))), (9, vi 0), (10, .one (.d (.sl (scs yl)))), (11, vi 0), (12, vi (i + 1))]) (by (simp only [go_sem,reduceCtorEq,↓reduceIte,Qa,Qb,Qc,Qd,Qe,Qf,Qg,Qh,Qi,Qj,Qk,Ql,Qm,Qn,Qo,Qp,Qq,Qr]; repeat' (first | refine And.intro ?_ ?_ | exact Or.inl rfl | exact Or.inr rfl | rfl))) ?_
        refine G_again ⟨kl.length - (i + 1), by omega, i + 1, by omega, rfl, ?_, rfl⟩
        exact Nat.zero_le _
      · obtain rfl : kl.length = i := by omega
        repeat' (first | refine Gx rfl ?_ | ((first | refine G_reg ?_ | refine G_regv ?_ | refine VO_chk ?_ | refine VO_go ?_ | refine VO_gx ?_); simp only [f3_r0,f3_r1,f3_r2,f3_r3,f3_r4,f3_r5,f3_r6,f3_r7,f3_r13,f3_r14,f3_r19,f3_r20,f3_r27,f3_r33,f3_r34,f3_r39,f3_r40,f3_r41,f3_r49,f3_r55,go_sem,reduceCtorEq,↓reduceIte,Qa,Qb,Qc,Qd,Qe,Qf,Qg,Qh,Qi,Qj,Qk,Ql,Qm,Qn,Qo,Qp,Qq,Qr]) | refine VO_end ?_ | refine Sh.intro ?_ | (refine G_cond ?_; simp only [f3_r0,f3_r1,f3_r2,f3_r3,f3_r4,f3_r5,f3_r6,f3_r7,f3_r13,f3_r14,f3_r19,f3_r20,f3_r27,f3_r33,f3_r34,f3_r39,f3_r40,f3_r41,f3_r49,f3_r55,go_sem,reduceCtorEq,↓reduceIte,Qa,Qb,Qc,Qd,Qe,Qf,Qg,Qh,Qi,Qj,Qk,Ql,Qm,Qn,Qo,Qp,Qq,Qr]; first | (refine ⟨fun _ => ?_, fun _ => ?_⟩ <;> try (exfalso; omega)) | skip) | (refine And.intro (fun _ => ?_) (fun _ => ?_) <;> try (exfalso; omega)) | ((first | refine G_fin ?_ | refine G_ret rfl ?_); simp only [f3_r0,f3_r1,f3_r2,f3_r3,f3_r4,f3_r5,f3_r6,f3_r7,f3_r13,f3_r14,f3_r19,f3_r20,f3_r27,f3_r33,f3_r34,f3_r39,f3_r40,f3_r41,f3_r49,f3_r55,or_self,Qs,Qt,Qu,Qv,Qw,Qx,Qy,Qz,Za,go_sem,reduceCtorEq,↓reduceIte,Qa,Qb,Qc,Qd,Qe,Qf,Qg,Qh,Qi,Qj,Qk,Ql,Qm,Qn,Qo,Qp,Qq,Qr]))
        all_goals first | (exfalso; omega) | skip
        refine G_weak (fr 190 [(1, vi i0), (2, .one (.ptr 0 0)), (5, vb true), (8, .one (.d (.sl (ints kl)))), (9, vi 0), (10, .one (.d (.sl (scs yl)))), (11, vi 0), (13, vi (0 : Nat))]) (by (simp only [go_sem,reduceCtorEq,↓reduceIte,Qa,Qb,Qc,Qd,Qe,Qf,Qg,Qh,Qi,Qj,Qk,Ql,Qm,Qn,Qo,Qp,Qq,Qr]; repeat' (first | refine And.intro ?_ ?_ | exact Or.inl rfl | exact Or.inr rfl | rfl))) ?_
        refine G_loop (fun mz sz => ∃ i : Nat, i ≤ yl.length ∧ mz = yl.length - i ∧ (0 ≤ i) ∧ sz = ⟨fr 190 [(1, vi i0), (2, .one (.ptr 0 0)), (5, vb true), (8, .one (.d (.sl (ints kl)))), (9, vi 0), (10, .one (.d (.sl (scs yl)))), (11, vi 0), (13, vi i)], [.cells q.as]⟩) (yl.length) ⟨0, Nat.zero_le _, (Nat.sub_zero _).symm, ?_, rfl⟩ ?_
        · exact Nat.zero_le _
        rintro _ _ ⟨i, hi, rfl, -, rfl⟩
        simp only [go_sem,reduceCtorEq,↓reduceIte,Qa,Qb,Qc,Qd,Qe,Qf,Qg,Qh,Qi,Qj,Qk,Ql,Qm,Qn,Qo,Qp,Qq,Qr]
        by_cases hil2 : i < yl.length
        · obtain ⟨key, hkey⟩ := at_lt hil2
          obtain ⟨kid, hkid, hf⟩ := k5 i key hkey
          have c5 := c4 key
          rw [hf] at c5
          dsimp only at c5
          have hkll := (List.getElem?_eq_some_iff.1 hkid).1
          have e1 : decide ((i : Int) ≥ (kl.length : Int)) = false := decide_eq_false (by omega)
          have e2 : decide ((i : Int) < (yl.length : Int)) = true := decide_eq_true (by omega)
          rcases Nat.eq_zero_or_pos i with h0 | h0
          · have e3 : decide ((i : Int) > 0) = false := decide_eq_false (by omega)
            repeat' (first | refine Gx rfl ?_ | ((first | refine G_reg ?_ | refine G_regv ?_ | refine VO_chk ?_ | refine VO_go ?_ | refine VO_gx ?_); simp only [f3_r0,f3_r1,f3_r2,f3_r3,f3_r4,f3_r5,f3_r6,f3_r7,f3_r13,f3_r14,f3_r19,f3_r20,f3_r27,f3_r33,f3_r34,f3_r39,f3_r40,f3_r41,f3_r49,f3_r55,e1,e2,e3,go_sem,reduceCtorEq,↓reduceIte,Qa,Qb,Qc,Qd,Qe,Qf,Qg,Qh,Qi,Qj,Qk,Ql,Qm,Qn,Qo,Qp,Qq,Qr]) | refine VO_end ?_ | refine Sh.intro ?_ | refine ⟨_, c5, Sh.intro ?_⟩ | refine ⟨_, ⟨c5, rfl⟩, Sh.intro ?_⟩ | refine ⟨_, ⟨Int.natCast_nonneg _, (by first | exact map_at hkey | (rw [Int.toNat_natCast]; exact map_at hkey)), rfl⟩, Sh.intro ?_⟩ | refine ⟨_, ⟨Int.natCast_nonneg _, (by first | exact map_at hkid | (rw [Int.toNat_natCast]; exact map_at hkid)), rfl⟩, Sh.intro ?_⟩ | (refine G_cond ?_; simp only [f3_r0,f3_r1,f3_r2,f3_r3,f3_r4,f3_r5,f3_r6,f3_r7,f3_r13,f3_r14,f3_r19,f3_r20,f3_r27,f3_r33,f3_r34,f3_r39,f3_r40,f3_r41,f3_r49,f3_r55,e1,e2,e3,go_sem,reduceCtorEq,↓reduceIte,Qa,Qb,Qc,Qd,Qe,Qf,Qg,Qh,Qi,Qj,Qk,Ql,Qm,Qn,Qo,Qp,Qq,Qr]; first | (refine ⟨fun _ => ?_, fun _ => ?_⟩ <;> try (exfalso; omega)) | skip) | (refine And.intro (fun _ => ?_) (fun _ => ?_) <;> try (exfalso; omega)) | ((first | refine G_fin ?_ | refine G_ret rfl ?_); simp only [f3_r0,f3_r1,f3_r2,f3_r3,f3_r4,f3_r5,f3_r6,f3_r7,f3_r13,f3_r14,f3_r19,f3_r20,f3_r27,f3_r33,f3_r34,f3_r39,f3_r40,f3_r41,f3_r49,f3_r55,e1,e2,e3,or_self,Qs,Qt,Qu,Qv,Qw,Qx,Qy,Qz,Za,go_sem,reduceCtorEq,↓reduceIte,Qa,Qb,Qc,Qd,Qe,Qf,Qg,Qh,Qi,Qj,Qk,Ql,Qm,Qn,Qo,Qp,Qq,Qr]))
            all_goals first | (exfalso; omega) | skip
            refine ⟨inK_nat hil2 hyl, ?_⟩
            refine G_weak (fr 190 [(1, vi i0), (2, .one (.ptr 0 0)), (5, vb true), (8, .one (.d (.sl (ints kl)))), (9, vi 0), (10, .one (.d (.sl (scs yl)))), (11, vi 0), (13, vi (i + 1))]) (by (simp only [go_sem,reduceCtorEq,↓reduceIte,Qa,Qb,Qc,Qd,Qe,Qf,Qg,Qh,Qi,Qj,Qk,Ql,Qm,Qn,Qo,Qp,Qq,Qr]; repeat' (first | refine And.intro ?_ ?_ | exact Or.inl rfl | exact Or.inr rfl | rfl))) ?_
            refine G_again ⟨yl.length - (i + 1), by omega, i + 1, by omega, rfl, ?_, rfl⟩
            exact Nat.zero_le _
          · obtain ⟨p, hp⟩ := at_lt (l := yl) (i := i - 1) (by omega)
            have hlt : cmpSc p key < 0 := k6 (i - 1) p key hp (by rw [show i - 1 + 1 = i from by omega]; exact hkey)
            have hm : (i : Int) - 1 = ((i - 1 : Nat) : Int) := by omega
            have hik : inK .i64 ((i - 1 : Nat) : Int) := by rw [← hm]; exact inK_dec (by omega)
            have e3 : decide ((i : Int) > 0) = true := decide_eq_true (by omega)
            have e4 : decide (cmpSc p key ≥ 0) = false := decide_eq_false (by omega)
            repeat' (first | refine Gx rfl ?_ | ((first | refine G_reg ?_ | refine G_regv ?_ | refine VO_chk ?_ | refine VO_go ?_ | refine VO_gx ?_); simp only [f3_r0,f3_r1,f3_r2,f3_r3,f3_r4,f3_r5,f3_r6,f3_r7,f3_r13,f3_r14,f3_r19,f3_r20,f3_r27,f3_r33,f3_r34,f3_r39,f3_r40,f3_r41,f3_r49,f3_r55,hm,e1,e2,e3,e4,go_sem,reduceCtorEq,↓reduceIte,Qa,Qb,Qc,Qd,Qe,Qf,Qg,Qh,Qi,Qj,Qk,Ql,Qm,Qn,Qo,Qp,Qq,Qr]) | refine VO_end ?_ | refine Sh.intro ?_ | refine ⟨_, c5, Sh.intro ?_⟩ | refine ⟨_, ⟨c5, rfl⟩, Sh.intro ?_⟩ | refine ⟨_, compare p key, Sh.intro ?_⟩ | refine ⟨_, ⟨compare p key, rfl⟩, Sh.intro ?_⟩ | refine ⟨_, ⟨Int.natCast_nonneg _, (by first | exact map_at hkey | (rw [Int.toNat_natCast]; exact map_at hkey)), rfl⟩, Sh.intro ?_⟩ | refine ⟨_, ⟨Int.natCast_nonneg _, (by first | exact map_at hkid | (rw [Int.toNat_natCast]; exact map_at hkid)), rfl⟩, Sh.intro ?_⟩ | refine ⟨_, ⟨Int.natCast_nonneg _, (by first | exact map_at hp | (rw [Int.toNat_natCast]; exact map_at hp)), rfl⟩, Sh.intro ?_⟩ | refine ⟨hik, ?_⟩ | (refine G_cond ?_; simp only [f3_r0,f3_r1,f3_r2,f3_r3,f3_r4,f3_r5,f3_r6,f3_r7,f3_r13,f3_r14,f3_r19,f3_r20,f3_r27,f3_r33,f3_r34,f3_r39,f3_r40,f3_r41,f3_r49,f3_r55,hm,e1,e2,e3,e4,go_sem,reduceCtorEq,↓reduceIte,Qa,Qb,Qc,Qd,Qe,Qf,Qg,Qh,Qi,Qj,Qk,Ql,Qm,Qn,Qo,Qp,Qq,Qr]; first | (refine ⟨fun _ => ?_, fun _ => ?_⟩ <;> try (exfalso; omega)) | skip) | (refine And.intro (fun _ => ?_) (fun _ => ?_) <;> try (exfalso; omega)) | ((first | refine G_fin ?_ | refine G_ret rfl ?_); simp only [f3_r0,f3_r1,f3_r2,f3_r3,f3_r4,f3_r5,f3_r6,f3_r7,f3_r13,f3_r14,f3_r19,f3_r20,f3_r27,f3_r33,f3_r34,f3_r39,f3_r40,f3_r41,f3_r49,f3_r55,hm,e1,e2,e3,e4,or_self,Qs,Qt,Qu,Qv,Qw,Qx,Qy,Qz,Za,go_sem,reduceCtorEq,↓reduceIte,Qa,Qb,Qc,Qd,Qe,Qf,Qg,Qh,Qi,Qj,Qk,Ql,Qm,Qn,Qo,Qp,Qq,Qr]))
            all_goals first | (exfalso; omega) | skip
            refine ⟨inK_nat hil2 hyl, ?_⟩
            refine G_weak (fr 190 [(1, vi i0), (2, .one (.ptr 0 0)), (5, vb true), (8, .one (.d (.sl (ints kl)))), (9, vi 0), (10, .one (.d (.sl (scs yl)))), (11, vi 0), (13, vi (i + 1))]) (by (simp only [go_sem,reduceCtorEq,↓reduceIte,Qa,Qb,Qc,Qd,Qe,Qf,Qg,Qh,Qi,Qj,Qk,Ql,Qm,Qn,Qo,Qp,Qq,Qr]; repeat' (first | refine And.intro ?_ ?_ | exact Or.inl rfl | exact Or.inr rfl | rfl))) ?_
            refine G_again ⟨yl.length - (i + 1), by omega, i + 1, by omega, rfl, ?_, rfl⟩
            exact Nat.zero_le _
        · obtain rfl : yl.length = i := by omega
          have e1 : ((kl.length : Int) == (x.kids.length : Int)) = true := by rw [k2]; simp
          by_cases hk : x.k = 2
          · have e2 : (x.k != 2) = false := by rw [hk]; rfl
            have e3 : (x.k == 2) = true := by rw [hk]; rfl
            have e4 : ((yl.length : Int) == (kl.length : Int)) = true := by rw [k3 hk]; simp
            repeat' (first | refine Gx rfl ?_ | ((first | refine G_reg ?_ | refine G_regv ?_ | refine VO_chk ?_ | refine VO_go ?_ | refine VO_gx ?_); simp only [f3_r0,f3_r1,f3_r2,f3_r3,f3_r4,f3_r5,f3_r6,f3_r7,f3_r13,f3_r14,f3_r19,f3_r20,f3_r27,f3_r33,f3_r34,f3_r39,f3_r40,f3_r41,f3_r49,f3_r55,e1,e2,e3,e4,go_sem,reduceCtorEq,↓reduceIte,Qa,Qb,Qc,Qd,Qe,Qf,Qg,Qh,Qi,Qj,Qk,Ql,Qm,Qn,Qo,Qp,Qq,Qr]) | refine VO_end ?_ | refine Sh.intro ?_ | refine ⟨_, ⟨Int.natCast_nonneg _, (by first | exact map_at hx | (rw [Int.toNat_natCast]; exact map_at hx)), rfl⟩, Sh.intro ?_⟩ | (refine G_cond ?_; simp only [f3_r0,f3_r1,f3_r2,f3_r3,f3_r4,f3_r5,f3_r6,f3_r7,f3_r13,f3_r14,f3_r19,f3_r20,f3_r27,f3_r33,f3_r34,f3_r39,f3_r40,f3_r41,f3_r49,f3_r55,e1,e2,e3,e4,go_sem,reduceCtorEq,↓reduceIte,Qa,Qb,Qc,Qd,Qe,Qf,Qg,Qh,Qi,Qj,Qk,Ql,Qm,Qn,Qo,Qp,Qq,Qr]; first | (refine ⟨fun _ => ?_, fun _ => ?_⟩ <;> try (exfalso; omega)) | skip) | (refine And.intro (fun _ => ?_) (fun _ => ?_) <;> try (exfalso; omega)) | ((first | refine G_fin ?_ | refine G_ret rfl ?_); simp only [f3_r0,f3_r1,f3_r2,f3_r3,f3_r4,f3_r5,f3_r6,f3_r7,f3_r13,f3_r14,f3_r19,f3_r20,f3_r27,f3_r33,f3_r34,f3_r39,f3_r40,f3_r41,f3_r49,f3_r55,e1,e2,e3,e4,or_self,Qs,Qt,Qu,Qv,Qw,Qx,Qy,Qz,Za,go_sem,reduceCtorEq,↓reduceIte,Qa,Qb,Qc,Qd,Qe,Qf,Qg,Qh,Qi,Qj,Qk,Ql,Qm,Qn,Qo,Qp,Qq,Qr]))
            all_goals first | (exfalso; omega) | rfl | trace_state
          · have e2 : (x.k != 2) = true := by simpa using hk
            have e3 : (x.k == 2) = false := by simpa using hk
            have e4 : ((yl.length : Int) == 0) = true := by rw [k4 hk]; rfl
            repeat' (first | refine Gx rfl ?_ | ((first | refine G_reg ?_ | refine G_regv ?_ | refine VO_chk ?_ | refine VO_go ?_ | refine VO_gx ?_); simp only [f3_r0,f3_r1,f3_r2,f3_r3,f3_r4,f3_r5,f3_r6,f3_r7,f3_r13,f3_r14,f3_r19,f3_r20,f3_r27,f3_r33,f3_r34,f3_r39,f3_r40,f3_r41,f3_r49,f3_r55,e1,e2,e3,e4,go_sem,reduceCtorEq,↓reduceIte,Qa,Qb,Qc,Qd,Qe,Qf,Qg,Qh,Qi,Qj,Qk,Ql,Qm,Qn,Qo,Qp,Qq,Qr]) | refine VO_end ?_ | refine Sh.intro ?_ | refine ⟨_, ⟨Int.natCast_nonneg _, (by first | exact map_at hx | (rw [Int.toNat_natCast]; exact map_at hx)), rfl⟩, Sh.intro ?_⟩ | (refine G_cond ?_; simp only [f3_r0,f3_r1,f3_r2,f3_r3,f3_r4,f3_r5,f3_r6,f3_r7,f3_r13,f3_r14,f3_r19,f3_r20,f3_r27,f3_r33,f3_r34,f3_r39,f3_r40,f3_r41,f3_r49,f3_r55,e1,e2,e3,e4,go_sem,reduceCtorEq,↓reduceIte,Qa,Qb,Qc,Qd,Qe,Qf,Qg,Qh,Qi,Qj,Qk,Ql,Qm,Qn,Qo,Qp,Qq,Qr]; first | (refine ⟨fun _ => ?_, fun _ => ?_⟩ <;> try (exfalso; omega)) | skip) | (refine And.intro (fun _ => ?_) (fun _ => ?_) <;> try (exfalso; omega)) | ((first | refine G_fin ?_ | refine G_ret rfl ?_); simp only [f3_r0,f3_r1,f3_r2,f3_r3,f3_r4,f3_r5,f3_r6,f3_r7,f3_r13,f3_r14,f3_r19,f3_r20,f3_r27,f3_r33,f3_r34,f3_r39,f3_r40,f3_r41,f3_r49,f3_r55,e1,e2,e3,e4,or_self,Qs,Qt,Qu,Qv,Qw,Qx,Qy,Qz,Za,go_sem,reduceCtorEq,↓reduceIte,Qa,Qb,Qc,Qd,Qe,Qf,Qg,Qh,Qi,Qj,Qk,Ql,Qm,Qn,Qo,Qp,Qq,Qr]))
            all_goals first | (exfalso; omega) | rfl | trace_state
    · obtain ⟨a, e, hs, he⟩ := chk_some hc
      rw [hs] at c1
      dsimp only [Option.getD_some] at c1
      have hne : (e != 0) = true := by simpa using he
      repeat' (first | refine Gx rfl ?_ | ((first | refine G_reg ?_ | refine G_regv ?_ | refine VO_chk ?_ | refine VO_go ?_ | refine VO_gx ?_); simp only [f3_r0,f3_r1,f3_r2,f3_r3,f3_r4,f3_r5,f3_r6,f3_r7,f3_r13,f3_r14,f3_r19,f3_r20,f3_r27,f3_r33,f3_r34,f3_r39,f3_r40,f3_r41,f3_r49,f3_r55,hne,d1,d2,d3,d4,go_sem,reduceCtorEq,↓reduceIte,Qa,Qb,Qc,Qd,Qe,Qf,Qg,Qh,Qi,Qj,Qk,Ql,Qm,Qn,Qo,Qp,Qq,Qr]) | refine VO_end ?_ | refine Sh.intro ?_ | refine ⟨_, cs, Sh.intro ?_⟩ | refine ⟨_, ⟨cs, rfl⟩, Sh.intro ?_⟩ | refine ⟨_, cg, Sh.intro ?_⟩ | refine ⟨_, ⟨cg, rfl⟩, Sh.intro ?_⟩ | refine ⟨_, c1, Sh.intro ?_⟩ | refine ⟨_, ⟨c1, rfl⟩, Sh.intro ?_⟩ | refine ⟨_, c2, Sh.intro ?_⟩ | refine ⟨_, ⟨c2, rfl⟩, Sh.intro ?_⟩ | refine ⟨_, c3, Sh.intro ?_⟩ | refine ⟨_, ⟨c3, rfl⟩, Sh.intro ?_⟩ | (refine G_cond ?_; simp only [f3_r0,f3_r1,f3_r2,f3_r3,f3_r4,f3_r5,f3_r6,f3_r7,f3_r13,f3_r14,f3_r19,f3_r20,f3_r27,f3_r33,f3_r34,f3_r39,f3_r40,f3_r41,f3_r49,f3_r55,hne,d1,d2,d3,d4,go_sem,reduceCtorEq,↓reduceIte,Qa,Qb,Qc,Qd,Qe,Qf,Qg,Qh,Qi,Qj,Qk,Ql,Qm,Qn,Qo,Qp,Qq,Qr]; first | (refine ⟨fun _ => ?_, fun _ => ?_⟩ <;> try (exfalso; omega)) | skip) | (refine And.intro (fun _ => ?_) (fun _ => ?_) <;> try (exfalso; omega)) | ((first | refine G_fin ?_ | refine G_ret rfl ?_); simp only [f3_r0,f3_r1,f3_r2,f3_r3,f3_r4,f3_r5,f3_r6,f3_r7,f3_r13,f3_r14,f3_r19,f3_r20,f3_r27,f3_r33,f3_r34,f3_r39,f3_r40,f3_r41,f3_r49,f3_r55,hne,d1,d2,d3,d4,or_self,Qs,Qt,Qu,Qv,Qw,Qx,Qy,Qz,Za,go_sem,reduceCtorEq,↓reduceIte,Qa,Qb,Qc,Qd,Qe,Qf,Qg,Qh,Qi,Qj,Qk,Ql,Qm,Qn,Qo,Qp,Qq,Qr]))
      all_goals first | (exfalso; omega) | rfl | trace_state
  · have hat : atE q.l i0 = 2 := by unfold atE; rw [if_neg hr]
    rw [hat] at c2 c3
    generalize ((chk q).getD (0, 0)).2 = e at *
    generalize ((chk q).getD (0, 0)).1 = a at *
    by_cases h0 : i0 < 0
    · have d1 : decide (i0 < 0) = true := decide_eq_true h0
      have d3 : decide (i0 ≥ 0) = false := decide_eq_false (by omega)
      repeat' (first | refine Gx rfl ?_ | ((first | refine G_reg ?_ | refine G_regv ?_ | refine VO_chk ?_ | refine VO_go ?_ | refine VO_gx ?_); simp only [f3_r0,f3_r1,f3_r2,f3_r3,f3_r4,f3_r5,f3_r6,f3_r7,f3_r13,f3_r14,f3_r19,f3_r20,f3_r27,f3_r33,f3_r34,f3_r39,f3_r40,f3_r41,f3_r49,f3_r55,d1,d3,go_sem,reduceCtorEq,↓reduceIte,Qa,Qb,Qc,Qd,Qe,Qf,Qg,Qh,Qi,Qj,Qk,Ql,Qm,Qn,Qo,Qp,Qq,Qr]) | refine VO_end ?_ | refine Sh.intro ?_ | refine ⟨_, cs, Sh.intro ?_⟩ | refine ⟨_, ⟨cs, rfl⟩, Sh.intro ?_⟩ | refine ⟨_, cg, Sh.intro ?_⟩ | refine ⟨_, ⟨cg, rfl⟩, Sh.intro ?_⟩ | refine ⟨_, c1, Sh.intro ?_⟩ | refine ⟨_, ⟨c1, rfl⟩, Sh.intro ?_⟩ | refine ⟨_, c2, Sh.intro ?_⟩ | refine ⟨_, ⟨c2, rfl⟩, Sh.intro ?_⟩ | refine ⟨_, c3, Sh.intro ?_⟩ | refine ⟨_, ⟨c3, rfl⟩, Sh.intro ?_⟩ | (refine G_cond ?_; simp only [f3_r0,f3_r1,f3_r2,f3_r3,f3_r4,f3_r5,f3_r6,f3_r7,f3_r13,f3_r14,f3_r19,f3_r20,f3_r27,f3_r33,f3_r34,f3_r39,f3_r40,f3_r41,f3_r49,f3_r55,d1,d3,go_sem,reduceCtorEq,↓reduceIte,Qa,Qb,Qc,Qd,Qe,Qf,Qg,Qh,Qi,Qj,Qk,Ql,Qm,Qn,Qo,Qp,Qq,Qr]; first | (refine ⟨fun _ => ?_, fun _ => ?_⟩ <;> try (exfalso; omega)) | skip) | (refine And.intro (fun _ => ?_) (fun _ => ?_) <;> try (exfalso; omega)) | ((first | refine G_fin ?_ | refine G_ret rfl ?_); simp only [f3_r0,f3_r1,f3_r2,f3_r3,f3_r4,f3_r5,f3_r6,f3_r7,f3_r13,f3_r14,f3_r19,f3_r20,f3_r27,f3_r33,f3_r34,f3_r39,f3_r40,f3_r41,f3_r49,f3_r55,d1,d3,or_self,Qs,Qt,Qu,Qv,Qw,Qx,Qy,Qz,Za,go_sem,reduceCtorEq,↓reduceIte,Qa,Qb,Qc,Qd,Qe,Qf,Qg,Qh,Qi,Qj,Qk,Ql,Qm,Qn,Qo,Qp,Qq,Qr]))
      all_goals first | (exfalso; omega) | rfl | trace_state
    · have d1 : decide (i0 < 0) = false := decide_eq_false h0
      have d2 : decide (i0 ≥ (q.l.length : Int)) = true := decide_eq_true (by omega)
      have d3 : decide (i0 ≥ 0) = true := decide_eq_true (by omega)
      have d4 : decide (i0 < (q.l.length : Int)) = false := decide_eq_false (by omega)
      repeat' (first | refine Gx rfl ?_ | ((first | refine G_reg ?_ | refine G_regv ?_ | refine VO_chk ?_ | refine VO_go ?_ | refine VO_gx ?_); simp only [f3_r0,f3_r1,f3_r2,f3_r3,f3_r4,f3_r5,f3_r6,f3_r7,f3_r13,f3_r14,f3_r19,f3_r20,f3_r27,f3_r33,f3_r34,f3_r39,f3_r40,f3_r41,f3_r49,f3_r55,d1,d2,d3,d4,go_sem,reduceCtorEq,↓reduceIte,Qa,Qb,Qc,Qd,Qe,Qf,Qg,Qh,Qi,Qj,Qk,Ql,Qm,Qn,Qo,Qp,Qq,Qr]) | refine VO_end ?_ | refine Sh.intro ?_ | refine ⟨_, cs, Sh.intro ?_⟩ | refine ⟨_, ⟨cs, rfl⟩, Sh.intro ?_⟩ | refine ⟨_, cg, Sh.intro ?_⟩ | refine ⟨_, ⟨cg, rfl⟩, Sh.intro ?_⟩ | refine ⟨_, c1, Sh.intro ?_⟩ | refine ⟨_, ⟨c1, rfl⟩, Sh.intro ?_⟩ | refine ⟨_, c2, Sh.intro ?_⟩ | refine ⟨_, ⟨c2, rfl⟩, Sh.intro ?_⟩ | refine ⟨_, c3, Sh.intro ?_⟩ | refine ⟨_, ⟨c3, rfl⟩, Sh.intro ?_⟩ | (refine G_cond ?_; simp only [f3_r0,f3_r1,f3_r2,f3_r3,f3_r4,f3_r5,f3_r6,f3_r7,f3_r13,f3_r14,f3_r19,f3_r20,f3_r27,f3_r33,f3_r34,f3_r39,f3_r40,f3_r41,f3_r49,f3_r55,d1,d2,d3,d4,go_sem,reduceCtorEq,↓reduceIte,Qa,Qb,Qc,Qd,Qe,Qf,Qg,Qh,Qi,Qj,Qk,Ql,Qm,Qn,Qo,Qp,Qq,Qr]; first | (refine ⟨fun _ => ?_, fun _ => ?_⟩ <;> try (exfalso; omega)) | skip) | (refine And.intro (fun _ => ?_) (fun _ => ?_) <;> try (exfalso; omega)) | ((first | refine G_fin ?_ | refine G_ret rfl ?_); simp only [f3_r0,f3_r1,f3_r2,f3_r3,f3_r4,f3_r5,f3_r6,f3_r7,f3_r13,f3_r14,f3_r19,f3_r20,f3_r27,f3_r33,f3_r34,f3_r39,f3_r40,f3_r41,f3_r49,f3_r55,d1,d2,d3,d4,or_self,Qs,Qt,Qu,Qv,Qw,Qx,Qy,Qz,Za,go_sem,reduceCtorEq,↓reduceIte,Qa,Qb,Qc,Qd,Qe,Qf,Qg,Qh,Qi,Qj,Qk,Ql,Qm,Qn,Qo,Qp,Qq,Qr]))
      all_goals first | (exfalso; omega) | rfl | trace_state
end Go.Fw.L07
