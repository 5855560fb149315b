/- Chapter 7: the law on graphs without their last node. -/
import Derived.Test.YtnampnnphgedhaaDoorL07Q
set_option linter.all false
namespace Go.Fw.L07
open Go Go.Fw
open Nat renaming reduceAdd → Qa, reduceSub → Qb, reduceMul → Qc, reduceLeDiff → Qd, reduceLT → Qe, reduceEqDiff → Qf
open Int renaming reduceToNat → Qg, reduceLT → Qh, reduceLE → Qi, reduceGT → Qj, reduceGE → Qk, reduceEq → Ql, reduceNe → Qm, reduceBEq → Qn, reduceBNe → Qo, reduceAdd → Qp, reduceSub → Qq, reduceNeg → Qr
open Go.Fw.V.one renaming injEq → Qs
open Go.Fw.V.agg renaming injEq → Qt
open Go.Fw.V.tup renaming injEq → Qu
open Go.Fw.A.d renaming injEq → Qv
open Go.Fw.D.bool renaming injEq → Qw
open Go.Fw.D.int renaming injEq → Qx
open Go.Fw.D.str renaming injEq → Qy
open Go.Fw.D.sl renaming injEq → Qz
open List.cons renaming injEq → Za
set_option maxRecDepth 4000
variable {gp : Heap}

/-- Is the last node its root, or a kid of one of the first i? -/
def usedN (g : Gr) (m : Int) (i : Nat) : Bool := (g.root == m) || (g.l.take i).any fun x => x.kids.any fun k => k == m
theorem kidsIn_pred {l : List Int} {n : Int} (h : kidsIn l n = true) : kidsIn l (n - 1) = true ↔ (l.any fun k => k == n - 1) = false := by
  unfold kidsIn at *
  rw [List.all_eq_true] at *
  rw [List.any_eq_false]
  constructor
  · intro h2 k hk e
    have := h2 k hk
    simp at this e; omega
  · intro h2 k hk
    have h3 := h k hk
    have h4 := h2 k hk
    simp at h3 h4 ⊢; omega
theorem nodeR_pred {x : Nd} {n : Int} (h : nodeR rightS x n = true) : nodeR rightS x (n - 1) = true ↔ (x.kids.any fun k => k == n - 1) = false := by
  unfold nodeR at *
  split
  · rename_i h0
    rw [if_pos h0] at h
    simp only [h, true_iff]
    unfold oneR at h
    simp at h
    simp [h.2.2]
  · rename_i h0
    rw [if_neg h0] at h
    split
    · rename_i h1
      rw [if_pos h1] at h
      unfold seqR at *
      simp only [Bool.and_eq_true] at *
      rw [← kidsIn_pred h.2.2]
      simp [h.1, h.2.1]
    · rename_i h1
      rw [if_neg h1] at h
      split
      · rename_i h2
        rw [if_pos h2] at h
        unfold mapR at *
        simp only [Bool.and_eq_true] at *
        rw [← kidsIn_pred h.2.2.2]
        simp [h.1, h.2.1, h.2.2.1]
      · rename_i h2
        rw [if_neg h2] at h; cases h
theorem less_ok {g : Gr} (hc : chk g = none) : chk ⟨g.root, g.l.take (g.l.length - 1)⟩ = none ↔ usedN g (g.l.length - 1) (g.l.length - 1) = false := by
  obtain ⟨h1, h2, h3⟩ := chk_ok hc
  have hl : (g.l.take (g.l.length - 1)).length = g.l.length - 1 := by simp
  have hn : ((g.l.length - 1 : Nat) : Int) = (g.l.length : Int) - 1 := by omega
  unfold usedN
  rw [Bool.or_eq_false_iff, List.any_eq_false]
  constructor
  · intro h
    obtain ⟨_, k2, k3⟩ := chk_ok h
    simp only [hl, hn] at k2 k3
    refine ⟨by simp; omega, fun x hx => ?_⟩
    rw [(nodeR_pred (h3 x (List.mem_of_mem_take hx))).1 (k3 x hx)]
    simp
  · rintro ⟨h4, h5⟩
    refine chk_of (by simp only [hl]; omega) (by simp only [hl, hn]; simp at h4; omega) fun x hx => ?_
    simp only [hl, hn]
    exact (nodeR_pred (h3 x (List.mem_of_mem_take hx))).2 (Bool.eq_false_iff.2 (h5 x hx))

set_option maxHeartbeats 800000 in
theorem arena_less (h : Env gp) (g : Gr) : Does Go.Proofs.Tryd.prog gp 4 [g.v] (vb true) := by
  refine f4_in ?_
  simp only [go_sem,reduceCtorEq,↓reduceIte,Qa,Qb,Qc,Qd,Qe,Qf,Qg,Qh,Qi,Qj,Qk,Ql,Qm,Qn,Qo,Qp,Qq,Qr]
  have c1 := chk_gr h g.cut
  have cg := cut_gr (gp := gp) g
  have hsm' := g.cut_small
  by_cases hc : chk g.cut = none
  · rw [hc] at c1
    generalize g.cut = q at *
    have c2 := chk_gr h ⟨q.root, q.l.take (q.l.length - 1)⟩
    have hless := less_ok hc
    obtain ⟨h1, h2, h3⟩ := chk_ok hc
    have hsm : Small q := hsm'
    have hn : ((q.l.length - 1 : Nat) : Int) = (q.l.length : Int) - 1 := by omega
    have hk1 : inK .i64 ((q.l.length : Int) - 1) := inK_dec (by unfold lenMax; omega)
    repeat' (first | refine Gx rfl ?_ | ((first | refine G_reg ?_ | refine VO_chk ?_ | refine VO_go ?_); simp only [f4_r0,f4_r1,f4_r2,f4_r3,f4_r4,f4_r5,f4_r11,f4_r12,f4_r13,f4_r14,f4_r19,f4_r20,f4_r25,f4_r27,f4_r34,f4_r40,f4_r41,go_sem,reduceCtorEq,↓reduceIte,Qa,Qb,Qc,Qd,Qe,Qf,Qg,Qh,Qi,Qj,Qk,Ql,Qm,Qn,Qo,Qp,Qq,Qr]) | refine VO_end ?_ | refine Sh.intro ?_ | refine ⟨_, shown_ok h, Sh.intro ?_⟩ | refine ⟨_, ⟨shown_ok h, rfl⟩, Sh.intro ?_⟩ | refine ⟨_, cg, Sh.intro ?_⟩ | refine ⟨_, ⟨cg, rfl⟩, Sh.intro ?_⟩ | refine ⟨_, c1, Sh.intro ?_⟩ | refine ⟨_, ⟨c1, rfl⟩, Sh.intro ?_⟩ | refine ⟨hk1, ?_⟩ | (refine G_cond ?_; simp only [f4_r0,f4_r1,f4_r2,f4_r3,f4_r4,f4_r5,f4_r11,f4_r12,f4_r13,f4_r14,f4_r19,f4_r20,f4_r25,f4_r27,f4_r34,f4_r40,f4_r41,decide_eq_true_eq,decide_eq_false_iff_not,go_sem,reduceCtorEq,↓reduceIte,Qa,Qb,Qc,Qd,Qe,Qf,Qg,Qh,Qi,Qj,Qk,Ql,Qm,Qn,Qo,Qp,Qq,Qr]; first | refine ⟨fun _ => ?_, fun _ => ?_⟩ | skip) | refine And.intro (fun _ => ?_) (fun _ => ?_) | ((first | refine G_fin ?_ | refine G_ret rfl ?_); simp only [f4_r0,f4_r1,f4_r2,f4_r3,f4_r4,f4_r5,f4_r11,f4_r12,f4_r13,f4_r14,f4_r19,f4_r20,f4_r25,f4_r27,f4_r34,f4_r40,f4_r41,or_self,Qs,Qt,Qu,Qv,Qw,Qx,Qy,Qz,Za,go_sem,reduceCtorEq,↓reduceIte,Qa,Qb,Qc,Qd,Qe,Qf,Qg,Qh,Qi,Qj,Qk,Ql,Qm,Qn,Qo,Qp,Qq,Qr]))
    have h0 : (q.root == (q.l.length : Int) - 1) = usedN q (q.l.length - 1) 0 := by simp [usedN]
    rw [h0]
    refine G_weak (fr 81 [(1, .one (.ptr 0 0)), (3, vb true), (6, vi (q.l.length - 1)), (7, vb (usedN q (q.l.length - 1) (0 : Nat))), (8, vi (0 : Nat))]) (by (simp only [go_sem,reduceCtorEq,↓reduceIte,Qa,Qb,Qc,Qd,Qe,Qf,Qg,Qh,Qi,Qj,Qk,Ql,Qm,Qn,Qo,Qp,Qq,Qr]; repeat' (first | refine And.intro ?_ ?_ | exact Or.inl rfl | exact Or.inr rfl | rfl))) ?_
    refine G_loop (fun mz sz => ∃ i : Nat, i ≤ (q.l.length - 1) ∧ mz = (q.l.length - 1) - i ∧ (0 ≤ i) ∧ sz = ⟨fr 81 [(1, .one (.ptr 0 0)), (3, vb true), (6, vi (q.l.length - 1)), (7, vb (usedN q (q.l.length - 1) i)), (8, vi i)], [.cells q.as]⟩) ((q.l.length - 1)) ⟨0, Nat.zero_le _, (Nat.sub_zero _).symm, ?_, rfl⟩ ?_
    · exact Nat.zero_le _
    rintro _ _ ⟨i, hi, rfl, -, rfl⟩
    simp only [go_sem,reduceCtorEq,↓reduceIte,Qa,Qb,Qc,Qd,Qe,Qf,Qg,Qh,Qi,Qj,Qk,Ql,Qm,Qn,Qo,Qp,Qq,Qr]
    by_cases hil : i < q.l.length - 1
    · obtain ⟨x, hx⟩ := at_lt (l := q.l) (i := i) (by omega)
      have hs : usedN q (q.l.length - 1) (i + 1) = (usedN q (q.l.length - 1) i || x.kids.any fun k => k == (q.l.length : Int) - 1) := by
        simp only [usedN, List.take_succ, hx]; simp [Bool.or_assoc]
      generalize usedN q (q.l.length - 1) i = b0 at *
      have hkl : x.kids.length < lenMax := by have := (hsm x (List.mem_of_getElem? hx)).2; unfold lenMax; omega
      repeat' (first | refine Gx rfl ?_ | ((first | refine G_reg ?_ | refine VO_chk ?_ | refine VO_go ?_); simp only [f4_r0,f4_r1,f4_r2,f4_r3,f4_r4,f4_r5,f4_r11,f4_r12,f4_r13,f4_r14,f4_r19,f4_r20,f4_r25,f4_r27,f4_r34,f4_r40,f4_r41,go_sem,reduceCtorEq,↓reduceIte,Qa,Qb,Qc,Qd,Qe,Qf,Qg,Qh,Qi,Qj,Qk,Ql,Qm,Qn,Qo,Qp,Qq,Qr]) | refine VO_end ?_ | refine Sh.intro ?_ | refine ⟨_, ⟨Int.natCast_nonneg _, (by first | exact map_at hx | (rw [Int.toNat_natCast]; exact map_at hx)), rfl⟩, Sh.intro ?_⟩ | (refine G_cond ?_; simp only [f4_r0,f4_r1,f4_r2,f4_r3,f4_r4,f4_r5,f4_r11,f4_r12,f4_r13,f4_r14,f4_r19,f4_r20,f4_r25,f4_r27,f4_r34,f4_r40,f4_r41,decide_eq_true_eq,decide_eq_false_iff_not,go_sem,reduceCtorEq,↓reduceIte,Qa,Qb,Qc,Qd,Qe,Qf,Qg,Qh,Qi,Qj,Qk,Ql,Qm,Qn,Qo,Qp,Qq,Qr]; first | refine ⟨fun _ => ?_, fun _ => ?_⟩ | skip) | refine And.intro (fun _ => ?_) (fun _ => ?_) | ((first | refine G_fin ?_ | refine G_ret rfl ?_); simp only [f4_r0,f4_r1,f4_r2,f4_r3,f4_r4,f4_r5,f4_r11,f4_r12,f4_r13,f4_r14,f4_r19,f4_r20,f4_r25,f4_r27,f4_r34,f4_r40,f4_r41,or_self,Qs,Qt,Qu,Qv,Qw,Qx,Qy,Qz,Za,go_sem,reduceCtorEq,↓reduceIte,Qa,Qb,Qc,Qd,Qe,Qf,Qg,Qh,Qi,Qj,Qk,Ql,Qm,Qn,Qo,Qp,Qq,Qr]))
      · have h0 : b0 = (b0 || (x.kids.take 0).any fun k => k == (q.l.length : Int) - 1) := by simp
        rw [h0]
        refine G_weak (fr 81 [(1, .one (.ptr 0 0)), (3, vb true), (6, vi (q.l.length - 1)), (7, vb (b0 || (x.kids.take (0 : Nat)).any fun k => k == (q.l.length : Int) - 1)), (8, vi i), (9, vi (0 : Nat))]) (by (simp only [go_sem,reduceCtorEq,↓reduceIte,Qa,Qb,Qc,Qd,Qe,Qf,Qg,Qh,Qi,Qj,Qk,Ql,Qm,Qn,Qo,Qp,Qq,Qr]; repeat' (first | refine And.intro ?_ ?_ | exact Or.inl rfl | exact Or.inr rfl | rfl))) ?_
        refine G_loop (fun mz sz => ∃ j : Nat, j ≤ x.kids.length ∧ mz = x.kids.length - j ∧ (0 ≤ j) ∧ sz = ⟨fr 81 [(1, .one (.ptr 0 0)), (3, vb true), (6, vi (q.l.length - 1)), (7, vb (b0 || (x.kids.take j).any fun k => k == (q.l.length : Int) - 1)), (8, vi i), (9, vi j)], [.cells q.as]⟩) (x.kids.length) ⟨0, Nat.zero_le _, (Nat.sub_zero _).symm, ?_, rfl⟩ ?_
        · exact Nat.zero_le _
        rintro _ _ ⟨j, hj, rfl, -, rfl⟩
        simp only [go_sem,reduceCtorEq,↓reduceIte,Qa,Qb,Qc,Qd,Qe,Qf,Qg,Qh,Qi,Qj,Qk,Ql,Qm,Qn,Qo,Qp,Qq,Qr]
        by_cases hjl : j < x.kids.length
        · obtain ⟨y, hy⟩ := at_lt hjl
          have hs2 : (b0 || (x.kids.take (j + 1)).any fun k => k == (q.l.length : Int) - 1) = ((b0 || (x.kids.take j).any fun k => k == (q.l.length : Int) - 1) || (y == (q.l.length : Int) - 1)) := by
            simp only [List.take_succ, hy]; simp [Bool.or_assoc]
          generalize (b0 || (x.kids.take j).any fun k => k == (q.l.length : Int) - 1) = b1 at *
          cases b1 with
          | false =>
            repeat' (first | refine Gx rfl ?_ | ((first | refine G_reg ?_ | refine VO_chk ?_ | refine VO_go ?_); simp only [f4_r0,f4_r1,f4_r2,f4_r3,f4_r4,f4_r5,f4_r11,f4_r12,f4_r13,f4_r14,f4_r19,f4_r20,f4_r25,f4_r27,f4_r34,f4_r40,f4_r41,go_sem,reduceCtorEq,↓reduceIte,Qa,Qb,Qc,Qd,Qe,Qf,Qg,Qh,Qi,Qj,Qk,Ql,Qm,Qn,Qo,Qp,Qq,Qr]) | refine VO_end ?_ | refine Sh.intro ?_ | refine ⟨_, ⟨Int.natCast_nonneg _, (by first | exact map_at hx | (rw [Int.toNat_natCast]; exact map_at hx)), rfl⟩, Sh.intro ?_⟩ | refine ⟨_, ⟨Int.natCast_nonneg _, (by first | exact map_at hy | (rw [Int.toNat_natCast]; exact map_at hy)), rfl⟩, Sh.intro ?_⟩ | (refine G_cond ?_; simp only [f4_r0,f4_r1,f4_r2,f4_r3,f4_r4,f4_r5,f4_r11,f4_r12,f4_r13,f4_r14,f4_r19,f4_r20,f4_r25,f4_r27,f4_r34,f4_r40,f4_r41,decide_eq_true_eq,decide_eq_false_iff_not,go_sem,reduceCtorEq,↓reduceIte,Qa,Qb,Qc,Qd,Qe,Qf,Qg,Qh,Qi,Qj,Qk,Ql,Qm,Qn,Qo,Qp,Qq,Qr]; first | refine ⟨fun _ => ?_, fun _ => ?_⟩ | skip) | refine And.intro (fun _ => ?_) (fun _ => ?_) | ((first | refine G_fin ?_ | refine G_ret rfl ?_); simp only [f4_r0,f4_r1,f4_r2,f4_r3,f4_r4,f4_r5,f4_r11,f4_r12,f4_r13,f4_r14,f4_r19,f4_r20,f4_r25,f4_r27,f4_r34,f4_r40,f4_r41,or_self,Qs,Qt,Qu,Qv,Qw,Qx,Qy,Qz,Za,go_sem,reduceCtorEq,↓reduceIte,Qa,Qb,Qc,Qd,Qe,Qf,Qg,Qh,Qi,Qj,Qk,Ql,Qm,Qn,Qo,Qp,Qq,Qr]))
            · refine ⟨inK_nat hjl hkl, ?_⟩
              refine G_weak (fr 81 [(1, .one (.ptr 0 0)), (3, vb true), (6, vi (q.l.length - 1)), (7, vb (y == (q.l.length : Int) - 1)), (8, vi i), (9, vi (j + 1))]) (by (simp only [go_sem,reduceCtorEq,↓reduceIte,Qa,Qb,Qc,Qd,Qe,Qf,Qg,Qh,Qi,Qj,Qk,Ql,Qm,Qn,Qo,Qp,Qq,Qr]; repeat' (first | refine And.intro ?_ ?_ | exact Or.inl rfl | exact Or.inr rfl | rfl))) ?_
              refine G_again ⟨x.kids.length - (j + 1), by omega, j + 1, by omega, rfl, ?_, by rw [hs2]; rfl⟩
              exact Nat.zero_le _
            · omega
          | true =>
            repeat' (first | refine Gx rfl ?_ | ((first | refine G_reg ?_ | refine VO_chk ?_ | refine VO_go ?_); simp only [f4_r0,f4_r1,f4_r2,f4_r3,f4_r4,f4_r5,f4_r11,f4_r12,f4_r13,f4_r14,f4_r19,f4_r20,f4_r25,f4_r27,f4_r34,f4_r40,f4_r41,go_sem,reduceCtorEq,↓reduceIte,Qa,Qb,Qc,Qd,Qe,Qf,Qg,Qh,Qi,Qj,Qk,Ql,Qm,Qn,Qo,Qp,Qq,Qr]) | refine VO_end ?_ | refine Sh.intro ?_ | refine ⟨_, ⟨Int.natCast_nonneg _, (by first | exact map_at hx | (rw [Int.toNat_natCast]; exact map_at hx)), rfl⟩, Sh.intro ?_⟩ | refine ⟨_, ⟨Int.natCast_nonneg _, (by first | exact map_at hy | (rw [Int.toNat_natCast]; exact map_at hy)), rfl⟩, Sh.intro ?_⟩ | (refine G_cond ?_; simp only [f4_r0,f4_r1,f4_r2,f4_r3,f4_r4,f4_r5,f4_r11,f4_r12,f4_r13,f4_r14,f4_r19,f4_r20,f4_r25,f4_r27,f4_r34,f4_r40,f4_r41,decide_eq_true_eq,decide_eq_false_iff_not,go_sem,reduceCtorEq,↓reduceIte,Qa,Qb,Qc,Qd,Qe,Qf,Qg,Qh,Qi,Qj,Qk,Ql,Qm,Qn,Qo,Qp,Qq,Qr]; first | refine ⟨fun _ => ?_, fun _ => ?_⟩ | skip) | refine And.intro (fun _ => ?_) (fun _ => ?_) | ((first | refine G_fin ?_ | refine G_ret rfl ?_); simp only [f4_r0,f4_r1,f4_r2,f4_r3,f4_r4,f4_r5,f4_r11,f4_r12,f4_r13,f4_r14,f4_r19,f4_r20,f4_r25,f4_r27,f4_r34,f4_r40,f4_r41,or_self,Qs,Qt,Qu,Qv,Qw,Qx,Qy,Qz,Za,go_sem,reduceCtorEq,↓reduceIte,Qa,Qb,Qc,Qd,Qe,Qf,Qg,Qh,Qi,Qj,Qk,Ql,Qm,Qn,Qo,Qp,Qq,Qr]))
            · refine ⟨inK_nat hjl hkl, ?_⟩
              refine G_weak (fr 81 [(1, .one (.ptr 0 0)), (3, vb true), (6, vi (q.l.length - 1)), (7, vb true), (8, vi i), (9, vi (j + 1))]) (by (simp only [go_sem,reduceCtorEq,↓reduceIte,Qa,Qb,Qc,Qd,Qe,Qf,Qg,Qh,Qi,Qj,Qk,Ql,Qm,Qn,Qo,Qp,Qq,Qr]; repeat' (first | refine And.intro ?_ ?_ | exact Or.inl rfl | exact Or.inr rfl | rfl))) ?_
              refine G_again ⟨x.kids.length - (j + 1), by omega, j + 1, by omega, rfl, ?_, by rw [hs2]; rfl⟩
              exact Nat.zero_le _
            · omega
        · obtain rfl : x.kids.length = j := by omega
          rw [List.take_of_length_le (Nat.le_refl x.kids.length), ← hs]
          repeat' (first | refine Gx rfl ?_ | ((first | refine G_reg ?_ | refine VO_chk ?_ | refine VO_go ?_); simp only [f4_r0,f4_r1,f4_r2,f4_r3,f4_r4,f4_r5,f4_r11,f4_r12,f4_r13,f4_r14,f4_r19,f4_r20,f4_r25,f4_r27,f4_r34,f4_r40,f4_r41,go_sem,reduceCtorEq,↓reduceIte,Qa,Qb,Qc,Qd,Qe,Qf,Qg,Qh,Qi,Qj,Qk,Ql,Qm,Qn,Qo,Qp,Qq,Qr]) | refine VO_end ?_ | refine Sh.intro ?_ | refine ⟨_, ⟨Int.natCast_nonneg _, (by first | exact map_at hx | (rw [Int.toNat_natCast]; exact map_at hx)), rfl⟩, Sh.intro ?_⟩ | (refine G_cond ?_; simp only [f4_r0,f4_r1,f4_r2,f4_r3,f4_r4,f4_r5,f4_r11,f4_r12,f4_r13,f4_r14,f4_r19,f4_r20,f4_r25,f4_r27,f4_r34,f4_r40,f4_r41,decide_eq_true_eq,decide_eq_false_iff_not,go_sem,reduceCtorEq,↓reduceIte,Qa,Qb,Qc,Qd,Qe,Qf,Qg,Qh,Qi,Qj,Qk,Ql,Qm,Qn,Qo,Qp,Qq,Qr]; first | refine ⟨fun _ => ?_, fun _ => ?_⟩ | skip) | refine And.intro (fun _ => ?_) (fun _ => ?_) | ((first | refine G_fin ?_ | refine G_ret rfl ?_); simp only [f4_r0,f4_r1,f4_r2,f4_r3,f4_r4,f4_r5,f4_r11,f4_r12,f4_r13,f4_r14,f4_r19,f4_r20,f4_r25,f4_r27,f4_r34,f4_r40,f4_r41,or_self,Qs,Qt,Qu,Qv,Qw,Qx,Qy,Qz,Za,go_sem,reduceCtorEq,↓reduceIte,Qa,Qb,Qc,Qd,Qe,Qf,Qg,Qh,Qi,Qj,Qk,Ql,Qm,Qn,Qo,Qp,Qq,Qr]))
          all_goals first | (exfalso; omega) | skip
          refine ⟨inK_nat (by omega : i < q.l.length) (by unfold lenMax; omega), ?_⟩
          refine G_weak (fr 81 [(1, .one (.ptr 0 0)), (3, vb true), (6, vi (q.l.length - 1)), (7, vb (usedN q (q.l.length - 1) (i + 1))), (8, vi (i + 1))]) (by (simp only [go_sem,reduceCtorEq,↓reduceIte,Qa,Qb,Qc,Qd,Qe,Qf,Qg,Qh,Qi,Qj,Qk,Ql,Qm,Qn,Qo,Qp,Qq,Qr]; repeat' (first | refine And.intro ?_ ?_ | exact Or.inl rfl | exact Or.inr rfl | rfl))) ?_
          refine G_again ⟨(q.l.length - 1) - (i + 1), by omega, i + 1, by omega, rfl, ?_, rfl⟩
          exact Nat.zero_le _
      · omega
    · obtain rfl : q.l.length - 1 = i := by omega
      repeat' (first | refine Gx rfl ?_ | ((first | refine G_reg ?_ | refine VO_chk ?_ | refine VO_go ?_); simp only [f4_r0,f4_r1,f4_r2,f4_r3,f4_r4,f4_r5,f4_r11,f4_r12,f4_r13,f4_r14,f4_r19,f4_r20,f4_r25,f4_r27,f4_r34,f4_r40,f4_r41,go_sem,reduceCtorEq,↓reduceIte,Qa,Qb,Qc,Qd,Qe,Qf,Qg,Qh,Qi,Qj,Qk,Ql,Qm,Qn,Qo,Qp,Qq,Qr]) | refine VO_end ?_ | refine Sh.intro ?_ | (refine G_cond ?_; simp only [f4_r0,f4_r1,f4_r2,f4_r3,f4_r4,f4_r5,f4_r11,f4_r12,f4_r13,f4_r14,f4_r19,f4_r20,f4_r25,f4_r27,f4_r34,f4_r40,f4_r41,decide_eq_true_eq,decide_eq_false_iff_not,go_sem,reduceCtorEq,↓reduceIte,Qa,Qb,Qc,Qd,Qe,Qf,Qg,Qh,Qi,Qj,Qk,Ql,Qm,Qn,Qo,Qp,Qq,Qr]; first | refine ⟨fun _ => ?_, fun _ => ?_⟩ | skip) | refine And.intro (fun _ => ?_) (fun _ => ?_) | ((first | refine G_fin ?_ | refine G_ret rfl ?_); simp only [f4_r0,f4_r1,f4_r2,f4_r3,f4_r4,f4_r5,f4_r11,f4_r12,f4_r13,f4_r14,f4_r19,f4_r20,f4_r25,f4_r27,f4_r34,f4_r40,f4_r41,or_self,Qs,Qt,Qu,Qv,Qw,Qx,Qy,Qz,Za,go_sem,reduceCtorEq,↓reduceIte,Qa,Qb,Qc,Qd,Qe,Qf,Qg,Qh,Qi,Qj,Qk,Ql,Qm,Qn,Qo,Qp,Qq,Qr]))
      · omega
      · refine ⟨0, q.l.length - 1, ⟨rfl, by split <;> omega, by omega, by omega, fun p hp => by obtain ⟨a, _, rfl⟩ := List.mem_map.1 hp; rfl⟩, Sh.intro ?_⟩
        rw [show List.drop 0 (List.take (q.l.length - 1) (nds q.l)) = nds (q.l.take (q.l.length - 1)) from by simp [nds, List.map_take]]
        repeat' (first | refine Gx rfl ?_ | ((first | refine G_reg ?_ | refine VO_chk ?_ | refine VO_go ?_); simp only [f4_r0,f4_r1,f4_r2,f4_r3,f4_r4,f4_r5,f4_r11,f4_r12,f4_r13,f4_r14,f4_r19,f4_r20,f4_r25,f4_r27,f4_r34,f4_r40,f4_r41,go_sem,reduceCtorEq,↓reduceIte,Qa,Qb,Qc,Qd,Qe,Qf,Qg,Qh,Qi,Qj,Qk,Ql,Qm,Qn,Qo,Qp,Qq,Qr]) | refine VO_end ?_ | refine Sh.intro ?_ | refine ⟨_, c2, Sh.intro ?_⟩ | refine ⟨_, ⟨c2, rfl⟩, Sh.intro ?_⟩ | (refine G_cond ?_; simp only [f4_r0,f4_r1,f4_r2,f4_r3,f4_r4,f4_r5,f4_r11,f4_r12,f4_r13,f4_r14,f4_r19,f4_r20,f4_r25,f4_r27,f4_r34,f4_r40,f4_r41,decide_eq_true_eq,decide_eq_false_iff_not,go_sem,reduceCtorEq,↓reduceIte,Qa,Qb,Qc,Qd,Qe,Qf,Qg,Qh,Qi,Qj,Qk,Ql,Qm,Qn,Qo,Qp,Qq,Qr]; first | refine ⟨fun _ => ?_, fun _ => ?_⟩ | skip) | refine And.intro (fun _ => ?_) (fun _ => ?_) | ((first | refine G_fin ?_ | refine G_ret rfl ?_); simp only [f4_r0,f4_r1,f4_r2,f4_r3,f4_r4,f4_r5,f4_r11,f4_r12,f4_r13,f4_r14,f4_r19,f4_r20,f4_r25,f4_r27,f4_r34,f4_r40,f4_r41,or_self,Qs,Qt,Qu,Qv,Qw,Qx,Qy,Qz,Za,go_sem,reduceCtorEq,↓reduceIte,Qa,Qb,Qc,Qd,Qe,Qf,Qg,Qh,Qi,Qj,Qk,Ql,Qm,Qn,Qo,Qp,Qq,Qr]))
        have hu := hless
        cases hq : chk ⟨q.root, q.l.take (q.l.length - 1)⟩ with
        | none => simp [hu.1 hq]
        | some p =>
          obtain ⟨a, e, hs, he⟩ := chk_some (g := ⟨q.root, q.l.take (q.l.length - 1)⟩) (by rw [hq]; simp)
          rw [hq] at hs
          cases hs
          have : usedN q ((q.l.length : Int) - 1) (q.l.length - 1) = true := by
            rw [← Bool.not_eq_false, ← hu, hq]; simp
          rw [this]
          simpa using he
  · obtain ⟨a, e, hs, he⟩ := chk_some hc
    rw [hs] at c1
    repeat' (first | refine Gx rfl ?_ | ((first | refine G_reg ?_ | refine VO_chk ?_ | refine VO_go ?_); simp only [f4_r0,f4_r1,f4_r2,f4_r3,f4_r4,f4_r5,f4_r11,f4_r12,f4_r13,f4_r14,f4_r19,f4_r20,f4_r25,f4_r27,f4_r34,f4_r40,f4_r41,go_sem,reduceCtorEq,↓reduceIte,Qa,Qb,Qc,Qd,Qe,Qf,Qg,Qh,Qi,Qj,Qk,Ql,Qm,Qn,Qo,Qp,Qq,Qr]) | refine VO_end ?_ | refine Sh.intro ?_ | refine ⟨_, shown_ok h, Sh.intro ?_⟩ | refine ⟨_, ⟨shown_ok h, rfl⟩, Sh.intro ?_⟩ | refine ⟨_, cut_gr g, Sh.intro ?_⟩ | refine ⟨_, ⟨cut_gr g, rfl⟩, Sh.intro ?_⟩ | refine ⟨_, c1, Sh.intro ?_⟩ | refine ⟨_, ⟨c1, rfl⟩, Sh.intro ?_⟩ | (refine G_cond ?_; simp only [f4_r0,f4_r1,f4_r2,f4_r3,f4_r4,f4_r5,f4_r11,f4_r12,f4_r13,f4_r14,f4_r19,f4_r20,f4_r25,f4_r27,f4_r34,f4_r40,f4_r41,decide_eq_true_eq,decide_eq_false_iff_not,go_sem,reduceCtorEq,↓reduceIte,Qa,Qb,Qc,Qd,Qe,Qf,Qg,Qh,Qi,Qj,Qk,Ql,Qm,Qn,Qo,Qp,Qq,Qr]; first | refine ⟨fun _ => ?_, fun _ => ?_⟩ | skip) | refine And.intro (fun _ => ?_) (fun _ => ?_) | ((first | refine G_fin ?_ | refine G_ret rfl ?_); simp only [f4_r0,f4_r1,f4_r2,f4_r3,f4_r4,f4_r5,f4_r11,f4_r12,f4_r13,f4_r14,f4_r19,f4_r20,f4_r25,f4_r27,f4_r34,f4_r40,f4_r41,or_self,Qs,Qt,Qu,Qv,Qw,Qx,Qy,Qz,Za,go_sem,reduceCtorEq,↓reduceIte,Qa,Qb,Qc,Qd,Qe,Qf,Qg,Qh,Qi,Qj,Qk,Ql,Qm,Qn,Qo,Qp,Qq,Qr]))
    all_goals (exfalso; simp_all)
end Go.Fw.L07
