/- Chapter 12: the law WalkAnchors. -/
import Derived.Test.YtfonfncokpdaaaaGreatDoorL07RSums
set_option linter.all false
namespace Go.Fw.L07
open Go Go.Fw
open Nat renaming reduceAdd → Qa, reduceSub → Qb, reduceMul → Qc, reduceLeDiff → Qd, reduceLT → Qe, reduceEqDiff → Qf
open Int renaming reduceToNat → Qg, reduceLT → Qh, reduceLE → Qi, reduceGT → Qj, reduceGE → Qk, reduceEq → Ql, reduceNe → Qm, reduceBEq → Qn, reduceBNe → Qo, reduceAdd → Qp, reduceSub → Qq, reduceNeg → Qr
open Go.Fw.V.one renaming injEq → Qs
open Go.Fw.V.agg renaming injEq → Qt
open Go.Fw.V.tup renaming injEq → Qu
open Go.Fw.A.d renaming injEq → Qv
open Go.Fw.D.bool renaming injEq → Qw
open Go.Fw.D.int renaming injEq → Qx
open Go.Fw.D.str renaming injEq → Qy
open Go.Fw.D.sl renaming injEq → Qz
open List.cons renaming injEq → Za
set_option maxRecDepth 4000
variable {gp : Heap}

theorem ancN_cnt (g : Gr) (us : List Int) : ∀ i, (ancN g us i).2 ≤ i
  | 0 => Nat.le_refl _
  | i + 1 => by
    have := ancN_cnt g us i
    simp only [ancN]
    split
    · split <;> dsimp only <;> omega
    · omega
theorem ancP_yes {x : Nd} {n : Int} (h : ancP x n = true) : 1 < n ∧ 0 < x.kids.length := by
  unfold ancP at h
  simp only [Bool.and_eq_true, decide_eq_true_eq] at h
  exact ⟨h.2, List.length_pos_iff.2 h.1⟩
theorem ancP_no {x : Nd} {n : Int} (h : ¬ ancP x n = true) : ¬ (1 < n ∧ 0 < x.kids.length) := by
  rintro ⟨h1, h2⟩
  apply h
  unfold ancP
  simp only [Bool.and_eq_true, decide_eq_true_eq]
  exact ⟨List.length_pos_iff.1 h2, h1⟩

set_option maxHeartbeats 1000000 in
theorem walk_anchors (h : Env gp) (g : Gr) : Does Go.Proofs.Tryz.prog gp 4 [g.v] (vb true) := by
  refine f4_in ?_
  simp only [go_sem,reduceCtorEq,↓reduceIte,Qa,Qb,Qc,Qd,Qe,Qf,Qg,Qh,Qi,Qj,Qk,Ql,Qm,Qn,Qo,Qp,Qq,Qr]
  have cs := shown12_ok h
  have ct := tidied_g h g true
  have hsm := g.cut_small
  by_cases hc : chk g.cut = none
  · rw [tidied_t hc] at ct
    have hq : Tdy (tidyG g.cut) := Good.tdy ⟨hc, hsm⟩
    generalize tidyG g.cut = q at *
    have c1 := uses_g h hq
    have c2 := anchors_g h hq
    rw [show ancL q = (ancN q (usesL q) q.l.length).1 from rfl] at c2
    have hl := hq.good.len
    have hu : (usesL q).length = q.l.length := cnt_len _ _
    have hal := ancN_len hu q.l.length (Nat.le_refl _)
    have hle := ancN_cnt q (usesL q)
    have hat : ∀ (i : Nat) (x : Nd) (y : Int), q.l[i]? = some x → (usesL q)[i]? = some y → (ancN q (usesL q) q.l.length).1[i]? = some (if ancP x y then (((ancN q (usesL q) i).2 + 1 : Nat) : Int) else 0) := fun i x y hx hy => ancN_at hu hx hy
    have hst : ∀ (i : Nat) (x : Nd) (y : Int), q.l[i]? = some x → (usesL q)[i]? = some y → (ancN q (usesL q) (i + 1)).2 = if ancP x y then (ancN q (usesL q) i).2 + 1 else (ancN q (usesL q) i).2 := by
      intro i x y hx hy
      simp only [ancN, hx, hy]
      split <;> rfl
    generalize (ancN q (usesL q) q.l.length).1 = an at *
    generalize usesL q = us at *
    have hsq := hq.good.s
    have hne1 : ((us.length : Int) != (q.l.length : Int)) = false := by rw [hu]; simp
    have hne2 : ((an.length : Int) != (q.l.length : Int)) = false := by rw [hal]; simp
    repeat' (first | refine Gx rfl ?_ | ((first | refine G_reg ?_ | refine VO_chk ?_ | refine VO_go ?_ | refine VO_gx ?_); simp only [f4_r0,f4_r1,f4_r2,f4_r3,f4_r4,f4_r5,f4_r6,f4_r12,f4_r13,f4_r19,f4_r20,f4_r21,f4_r26,f4_r27,f4_r33,f4_r34,f4_r35,f4_r36,f4_r48,f4_r54,hne1,hne2,go_sem,reduceCtorEq,↓reduceIte,Qa,Qb,Qc,Qd,Qe,Qf,Qg,Qh,Qi,Qj,Qk,Ql,Qm,Qn,Qo,Qp,Qq,Qr]) | refine VO_end ?_ | refine Sh.intro ?_ | refine ⟨_, cs, Sh.intro ?_⟩ | refine ⟨_, ⟨cs, rfl⟩, Sh.intro ?_⟩ | refine ⟨_, ct, Sh.intro ?_⟩ | refine ⟨_, ⟨ct, rfl⟩, Sh.intro ?_⟩ | refine ⟨_, c1, Sh.intro ?_⟩ | refine ⟨_, ⟨c1, rfl⟩, Sh.intro ?_⟩ | refine ⟨_, c2, Sh.intro ?_⟩ | refine ⟨_, ⟨c2, rfl⟩, Sh.intro ?_⟩ | (refine G_cond ?_; simp only [f4_r0,f4_r1,f4_r2,f4_r3,f4_r4,f4_r5,f4_r6,f4_r12,f4_r13,f4_r19,f4_r20,f4_r21,f4_r26,f4_r27,f4_r33,f4_r34,f4_r35,f4_r36,f4_r48,f4_r54,hne1,hne2,go_sem,reduceCtorEq,↓reduceIte,Qa,Qb,Qc,Qd,Qe,Qf,Qg,Qh,Qi,Qj,Qk,Ql,Qm,Qn,Qo,Qp,Qq,Qr]; first | (refine ⟨fun _ => ?_, fun _ => ?_⟩ <;> try (exfalso; omega)) | skip) | (refine And.intro (fun _ => ?_) (fun _ => ?_) <;> try (exfalso; omega)) | ((first | refine G_fin ?_ | refine G_ret rfl ?_); simp only [f4_r0,f4_r1,f4_r2,f4_r3,f4_r4,f4_r5,f4_r6,f4_r12,f4_r13,f4_r19,f4_r20,f4_r21,f4_r26,f4_r27,f4_r33,f4_r34,f4_r35,f4_r36,f4_r48,f4_r54,hne1,hne2,or_self,Qs,Qt,Qu,Qv,Qw,Qx,Qy,Qz,Za,go_sem,reduceCtorEq,↓reduceIte,Qa,Qb,Qc,Qd,Qe,Qf,Qg,Qh,Qi,Qj,Qk,Ql,Qm,Qn,Qo,Qp,Qq,Qr]))
    all_goals first | (exfalso; omega) | skip
    refine G_weak (fr 95 [(1, .one (.ptr 0 0)), (3, vb true), (4, .one (.d (.sl (ints us)))), (6, .one (.d (.sl (ints an)))), (8, vi (ancN q us (0 : Nat)).2), (9, vi (0 : Nat))]) (by (simp only [go_sem,reduceCtorEq,↓reduceIte,Qa,Qb,Qc,Qd,Qe,Qf,Qg,Qh,Qi,Qj,Qk,Ql,Qm,Qn,Qo,Qp,Qq,Qr]; repeat' (first | refine And.intro ?_ ?_ | exact Or.inl rfl | exact Or.inr rfl | rfl))) ?_
    refine G_loop (fun mz sz => ∃ i : Nat, i ≤ q.l.length ∧ mz = q.l.length - i ∧ (0 ≤ i) ∧ sz = ⟨fr 95 [(1, .one (.ptr 0 0)), (3, vb true), (4, .one (.d (.sl (ints us)))), (6, .one (.d (.sl (ints an)))), (8, vi (ancN q us i).2), (9, vi i)], [.cells q.as]⟩) (q.l.length) ⟨0, Nat.zero_le _, (Nat.sub_zero _).symm, ?_, rfl⟩ ?_
    · exact Nat.zero_le _
    rintro _ _ ⟨i, hi, rfl, -, rfl⟩
    simp only [go_sem,reduceCtorEq,↓reduceIte,Qa,Qb,Qc,Qd,Qe,Qf,Qg,Qh,Qi,Qj,Qk,Ql,Qm,Qn,Qo,Qp,Qq,Qr]
    by_cases hil : i < q.l.length
    · obtain ⟨x, hx⟩ := at_lt hil
      obtain ⟨y, hy⟩ := at_lt (l := us) (i := i) (by omega)
      have ha := hat i x y hx hy
      have hs := hst i x y hx hy
      have hci := hle i
      by_cases hp : ancP x y = true
      · rw [if_pos hp] at ha hs
        obtain ⟨h1, h2⟩ := ancP_yes hp
        have hd1 : decide ((((ancN q us i).2 + 1 : Nat) : Int) > 0) = true := decide_eq_true (by omega)
        have hd2 : decide ((x.kids.length : Int) > 0) = true := decide_eq_true (by omega)
        have hd3 : ((((ancN q us i).2 + 1 : Nat) : Int) != ((ancN q us i).2 : Int) + 1) = false := by simp
        repeat' (first | refine Gx rfl ?_ | ((first | refine G_reg ?_ | refine VO_chk ?_ | refine VO_go ?_ | refine VO_gx ?_); simp only [f4_r0,f4_r1,f4_r2,f4_r3,f4_r4,f4_r5,f4_r6,f4_r12,f4_r13,f4_r19,f4_r20,f4_r21,f4_r26,f4_r27,f4_r33,f4_r34,f4_r35,f4_r36,f4_r48,f4_r54,hd1,hd2,hd3,go_sem,reduceCtorEq,↓reduceIte,Qa,Qb,Qc,Qd,Qe,Qf,Qg,Qh,Qi,Qj,Qk,Ql,Qm,Qn,Qo,Qp,Qq,Qr]) | refine VO_end ?_ | refine Sh.intro ?_ | refine ⟨_, ⟨Int.natCast_nonneg _, (by first | exact map_at hx | (rw [Int.toNat_natCast]; exact map_at hx)), rfl⟩, Sh.intro ?_⟩ | refine ⟨_, ⟨Int.natCast_nonneg _, (by first | exact map_at hy | (rw [Int.toNat_natCast]; exact map_at hy)), rfl⟩, Sh.intro ?_⟩ | refine ⟨_, ⟨Int.natCast_nonneg _, (by first | exact map_at ha | (rw [Int.toNat_natCast]; exact map_at ha)), rfl⟩, Sh.intro ?_⟩ | refine ⟨inK_small (by omega) (by omega), ?_⟩ | (refine G_cond ?_; simp only [f4_r0,f4_r1,f4_r2,f4_r3,f4_r4,f4_r5,f4_r6,f4_r12,f4_r13,f4_r19,f4_r20,f4_r21,f4_r26,f4_r27,f4_r33,f4_r34,f4_r35,f4_r36,f4_r48,f4_r54,hd1,hd2,hd3,go_sem,reduceCtorEq,↓reduceIte,Qa,Qb,Qc,Qd,Qe,Qf,Qg,Qh,Qi,Qj,Qk,Ql,Qm,Qn,Qo,Qp,Qq,Qr]; first | (refine ⟨fun _ => ?_, fun _ => ?_⟩ <;> try (exfalso; omega)) | skip) | (refine And.intro (fun _ => ?_) (fun _ => ?_) <;> try (exfalso; omega)) | ((first | refine G_fin ?_ | refine G_ret rfl ?_); simp only [f4_r0,f4_r1,f4_r2,f4_r3,f4_r4,f4_r5,f4_r6,f4_r12,f4_r13,f4_r19,f4_r20,f4_r21,f4_r26,f4_r27,f4_r33,f4_r34,f4_r35,f4_r36,f4_r48,f4_r54,hd1,hd2,hd3,or_self,Qs,Qt,Qu,Qv,Qw,Qx,Qy,Qz,Za,go_sem,reduceCtorEq,↓reduceIte,Qa,Qb,Qc,Qd,Qe,Qf,Qg,Qh,Qi,Qj,Qk,Ql,Qm,Qn,Qo,Qp,Qq,Qr]))
        all_goals first | (exfalso; omega) | (exfalso; rename_i e; revert e; simp; done) | skip
        · refine G_weak (fr 95 [(1, .one (.ptr 0 0)), (3, vb true), (4, .one (.d (.sl (ints us)))), (6, .one (.d (.sl (ints an)))), (8, vi ((ancN q us i).2 + 1)), (9, vi (i + 1))]) (by (simp only [go_sem,reduceCtorEq,↓reduceIte,Qa,Qb,Qc,Qd,Qe,Qf,Qg,Qh,Qi,Qj,Qk,Ql,Qm,Qn,Qo,Qp,Qq,Qr]; repeat' (first | refine And.intro ?_ ?_ | exact Or.inl rfl | exact Or.inr rfl | rfl))) ?_
          refine G_again ⟨q.l.length - (i + 1), by omega, i + 1, by omega, rfl, ?_, by rw [hs]; rfl⟩
          exact Nat.zero_le _
      · rw [if_neg hp] at ha hs
        have h1 := ancP_no hp
        by_cases hy1 : y > 1
        · have hd2 : decide ((x.kids.length : Int) > 0) = false := decide_eq_false (by omega)
          repeat' (first | refine Gx rfl ?_ | ((first | refine G_reg ?_ | refine VO_chk ?_ | refine VO_go ?_ | refine VO_gx ?_); simp only [f4_r0,f4_r1,f4_r2,f4_r3,f4_r4,f4_r5,f4_r6,f4_r12,f4_r13,f4_r19,f4_r20,f4_r21,f4_r26,f4_r27,f4_r33,f4_r34,f4_r35,f4_r36,f4_r48,f4_r54,hd2,go_sem,reduceCtorEq,↓reduceIte,Qa,Qb,Qc,Qd,Qe,Qf,Qg,Qh,Qi,Qj,Qk,Ql,Qm,Qn,Qo,Qp,Qq,Qr]) | refine VO_end ?_ | refine Sh.intro ?_ | refine ⟨_, ⟨Int.natCast_nonneg _, (by first | exact map_at hx | (rw [Int.toNat_natCast]; exact map_at hx)), rfl⟩, Sh.intro ?_⟩ | refine ⟨_, ⟨Int.natCast_nonneg _, (by first | exact map_at hy | (rw [Int.toNat_natCast]; exact map_at hy)), rfl⟩, Sh.intro ?_⟩ | refine ⟨_, ⟨Int.natCast_nonneg _, (by first | exact map_at ha | (rw [Int.toNat_natCast]; exact map_at ha)), rfl⟩, Sh.intro ?_⟩ | refine ⟨inK_small (by omega) (by omega), ?_⟩ | (refine G_cond ?_; simp only [f4_r0,f4_r1,f4_r2,f4_r3,f4_r4,f4_r5,f4_r6,f4_r12,f4_r13,f4_r19,f4_r20,f4_r21,f4_r26,f4_r27,f4_r33,f4_r34,f4_r35,f4_r36,f4_r48,f4_r54,hd2,go_sem,reduceCtorEq,↓reduceIte,Qa,Qb,Qc,Qd,Qe,Qf,Qg,Qh,Qi,Qj,Qk,Ql,Qm,Qn,Qo,Qp,Qq,Qr]; first | (refine ⟨fun _ => ?_, fun _ => ?_⟩ <;> try (exfalso; omega)) | skip) | (refine And.intro (fun _ => ?_) (fun _ => ?_) <;> try (exfalso; omega)) | ((first | refine G_fin ?_ | refine G_ret rfl ?_); simp only [f4_r0,f4_r1,f4_r2,f4_r3,f4_r4,f4_r5,f4_r6,f4_r12,f4_r13,f4_r19,f4_r20,f4_r21,f4_r26,f4_r27,f4_r33,f4_r34,f4_r35,f4_r36,f4_r48,f4_r54,hd2,or_self,Qs,Qt,Qu,Qv,Qw,Qx,Qy,Qz,Za,go_sem,reduceCtorEq,↓reduceIte,Qa,Qb,Qc,Qd,Qe,Qf,Qg,Qh,Qi,Qj,Qk,Ql,Qm,Qn,Qo,Qp,Qq,Qr]))
          all_goals first | (exfalso; omega) | (exfalso; rename_i e; revert e; simp; done) | skip
          refine G_weak (fr 95 [(1, .one (.ptr 0 0)), (3, vb true), (4, .one (.d (.sl (ints us)))), (6, .one (.d (.sl (ints an)))), (8, vi (ancN q us i).2), (9, vi (i + 1))]) (by (simp only [go_sem,reduceCtorEq,↓reduceIte,Qa,Qb,Qc,Qd,Qe,Qf,Qg,Qh,Qi,Qj,Qk,Ql,Qm,Qn,Qo,Qp,Qq,Qr]; repeat' (first | refine And.intro ?_ ?_ | exact Or.inl rfl | exact Or.inr rfl | rfl))) ?_
          refine G_again ⟨q.l.length - (i + 1), by omega, i + 1, by omega, rfl, ?_, by rw [hs]; rfl⟩
          exact Nat.zero_le _
        · repeat' (first | refine Gx rfl ?_ | ((first | refine G_reg ?_ | refine VO_chk ?_ | refine VO_go ?_ | refine VO_gx ?_); simp only [f4_r0,f4_r1,f4_r2,f4_r3,f4_r4,f4_r5,f4_r6,f4_r12,f4_r13,f4_r19,f4_r20,f4_r21,f4_r26,f4_r27,f4_r33,f4_r34,f4_r35,f4_r36,f4_r48,f4_r54,go_sem,reduceCtorEq,↓reduceIte,Qa,Qb,Qc,Qd,Qe,Qf,Qg,Qh,Qi,Qj,Qk,Ql,Qm,Qn,Qo,Qp,Qq,Qr]) | refine VO_end ?_ | refine Sh.intro ?_ | refine ⟨_, ⟨Int.natCast_nonneg _, (by first | exact map_at hx | (rw [Int.toNat_natCast]; exact map_at hx)), rfl⟩, Sh.intro ?_⟩ | refine ⟨_, ⟨Int.natCast_nonneg _, (by first | exact map_at hy | (rw [Int.toNat_natCast]; exact map_at hy)), rfl⟩, Sh.intro ?_⟩ | refine ⟨_, ⟨Int.natCast_nonneg _, (by first | exact map_at ha | (rw [Int.toNat_natCast]; exact map_at ha)), rfl⟩, Sh.intro ?_⟩ | refine ⟨inK_small (by omega) (by omega), ?_⟩ | (refine G_cond ?_; simp only [f4_r0,f4_r1,f4_r2,f4_r3,f4_r4,f4_r5,f4_r6,f4_r12,f4_r13,f4_r19,f4_r20,f4_r21,f4_r26,f4_r27,f4_r33,f4_r34,f4_r35,f4_r36,f4_r48,f4_r54,go_sem,reduceCtorEq,↓reduceIte,Qa,Qb,Qc,Qd,Qe,Qf,Qg,Qh,Qi,Qj,Qk,Ql,Qm,Qn,Qo,Qp,Qq,Qr]; first | (refine ⟨fun _ => ?_, fun _ => ?_⟩ <;> try (exfalso; omega)) | skip) | (refine And.intro (fun _ => ?_) (fun _ => ?_) <;> try (exfalso; omega)) | ((first | refine G_fin ?_ | refine G_ret rfl ?_); simp only [f4_r0,f4_r1,f4_r2,f4_r3,f4_r4,f4_r5,f4_r6,f4_r12,f4_r13,f4_r19,f4_r20,f4_r21,f4_r26,f4_r27,f4_r33,f4_r34,f4_r35,f4_r36,f4_r48,f4_r54,or_self,Qs,Qt,Qu,Qv,Qw,Qx,Qy,Qz,Za,go_sem,reduceCtorEq,↓reduceIte,Qa,Qb,Qc,Qd,Qe,Qf,Qg,Qh,Qi,Qj,Qk,Ql,Qm,Qn,Qo,Qp,Qq,Qr]))
          all_goals first | (exfalso; omega) | (exfalso; rename_i e; revert e; simp; done) | skip
          refine G_weak (fr 95 [(1, .one (.ptr 0 0)), (3, vb true), (4, .one (.d (.sl (ints us)))), (6, .one (.d (.sl (ints an)))), (8, vi (ancN q us i).2), (9, vi (i + 1))]) (by (simp only [go_sem,reduceCtorEq,↓reduceIte,Qa,Qb,Qc,Qd,Qe,Qf,Qg,Qh,Qi,Qj,Qk,Ql,Qm,Qn,Qo,Qp,Qq,Qr]; repeat' (first | refine And.intro ?_ ?_ | exact Or.inl rfl | exact Or.inr rfl | rfl))) ?_
          refine G_again ⟨q.l.length - (i + 1), by omega, i + 1, by omega, rfl, ?_, by rw [hs]; rfl⟩
          exact Nat.zero_le _
    · obtain rfl : q.l.length = i := by omega
      repeat' (first | refine Gx rfl ?_ | ((first | refine G_reg ?_ | refine VO_chk ?_ | refine VO_go ?_ | refine VO_gx ?_); simp only [f4_r0,f4_r1,f4_r2,f4_r3,f4_r4,f4_r5,f4_r6,f4_r12,f4_r13,f4_r19,f4_r20,f4_r21,f4_r26,f4_r27,f4_r33,f4_r34,f4_r35,f4_r36,f4_r48,f4_r54,go_sem,reduceCtorEq,↓reduceIte,Qa,Qb,Qc,Qd,Qe,Qf,Qg,Qh,Qi,Qj,Qk,Ql,Qm,Qn,Qo,Qp,Qq,Qr]) | refine VO_end ?_ | refine Sh.intro ?_ | (refine G_cond ?_; simp only [f4_r0,f4_r1,f4_r2,f4_r3,f4_r4,f4_r5,f4_r6,f4_r12,f4_r13,f4_r19,f4_r20,f4_r21,f4_r26,f4_r27,f4_r33,f4_r34,f4_r35,f4_r36,f4_r48,f4_r54,go_sem,reduceCtorEq,↓reduceIte,Qa,Qb,Qc,Qd,Qe,Qf,Qg,Qh,Qi,Qj,Qk,Ql,Qm,Qn,Qo,Qp,Qq,Qr]; first | (refine ⟨fun _ => ?_, fun _ => ?_⟩ <;> try (exfalso; omega)) | skip) | (refine And.intro (fun _ => ?_) (fun _ => ?_) <;> try (exfalso; omega)) | ((first | refine G_fin ?_ | refine G_ret rfl ?_); simp only [f4_r0,f4_r1,f4_r2,f4_r3,f4_r4,f4_r5,f4_r6,f4_r12,f4_r13,f4_r19,f4_r20,f4_r21,f4_r26,f4_r27,f4_r33,f4_r34,f4_r35,f4_r36,f4_r48,f4_r54,or_self,Qs,Qt,Qu,Qv,Qw,Qx,Qy,Qz,Za,go_sem,reduceCtorEq,↓reduceIte,Qa,Qb,Qc,Qd,Qe,Qf,Qg,Qh,Qi,Qj,Qk,Ql,Qm,Qn,Qo,Qp,Qq,Qr]))
      all_goals first | (exfalso; omega) | trace_state
  · rw [tidied_n hc] at ct
    have hn : ¬ (chk g.cut = none ∧ g.cut = tidyG g.cut) := fun e => hc e.1
    generalize g.cut = q at *
    have c1 := uses_bad h hsm hn
    have c2 := anchors_bad h hsm hn
    repeat' (first | refine Gx rfl ?_ | ((first | refine G_reg ?_ | refine VO_chk ?_ | refine VO_go ?_ | refine VO_gx ?_); simp only [f4_r0,f4_r1,f4_r2,f4_r3,f4_r4,f4_r5,f4_r6,f4_r12,f4_r13,f4_r19,f4_r20,f4_r21,f4_r26,f4_r27,f4_r33,f4_r34,f4_r35,f4_r36,f4_r48,f4_r54,go_sem,reduceCtorEq,↓reduceIte,Qa,Qb,Qc,Qd,Qe,Qf,Qg,Qh,Qi,Qj,Qk,Ql,Qm,Qn,Qo,Qp,Qq,Qr]) | refine VO_end ?_ | refine Sh.intro ?_ | refine ⟨_, cs, Sh.intro ?_⟩ | refine ⟨_, ⟨cs, rfl⟩, Sh.intro ?_⟩ | refine ⟨_, ct, Sh.intro ?_⟩ | refine ⟨_, ⟨ct, rfl⟩, Sh.intro ?_⟩ | refine ⟨_, c1, Sh.intro ?_⟩ | refine ⟨_, ⟨c1, rfl⟩, Sh.intro ?_⟩ | refine ⟨_, c2, Sh.intro ?_⟩ | refine ⟨_, ⟨c2, rfl⟩, Sh.intro ?_⟩ | (refine G_cond ?_; simp only [f4_r0,f4_r1,f4_r2,f4_r3,f4_r4,f4_r5,f4_r6,f4_r12,f4_r13,f4_r19,f4_r20,f4_r21,f4_r26,f4_r27,f4_r33,f4_r34,f4_r35,f4_r36,f4_r48,f4_r54,go_sem,reduceCtorEq,↓reduceIte,Qa,Qb,Qc,Qd,Qe,Qf,Qg,Qh,Qi,Qj,Qk,Ql,Qm,Qn,Qo,Qp,Qq,Qr]; first | (refine ⟨fun _ => ?_, fun _ => ?_⟩ <;> try (exfalso; omega)) | skip) | (refine And.intro (fun _ => ?_) (fun _ => ?_) <;> try (exfalso; omega)) | ((first | refine G_fin ?_ | refine G_ret rfl ?_); simp only [f4_r0,f4_r1,f4_r2,f4_r3,f4_r4,f4_r5,f4_r6,f4_r12,f4_r13,f4_r19,f4_r20,f4_r21,f4_r26,f4_r27,f4_r33,f4_r34,f4_r35,f4_r36,f4_r48,f4_r54,or_self,Qs,Qt,Qu,Qv,Qw,Qx,Qy,Qz,Za,go_sem,reduceCtorEq,↓reduceIte,Qa,Qb,Qc,Qd,Qe,Qf,Qg,Qh,Qi,Qj,Qk,Ql,Qm,Qn,Qo,Qp,Qq,Qr]))
    all_goals trace_state
end Go.Fw.L07
