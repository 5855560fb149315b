/- Chapter 12: the law WalkTrees. -/
import Derived.Test.YtfonfncokpdaaaaGreatDoorL07PTrees
set_option linter.all false
namespace Go.Fw.L07
open Go Go.Fw
open Nat renaming reduceAdd → Qa, reduceSub → Qb, reduceMul → Qc, reduceLeDiff → Qd, reduceLT → Qe, reduceEqDiff → Qf
open Int renaming reduceToNat → Qg, reduceLT → Qh, reduceLE → Qi, reduceGT → Qj, reduceGE → Qk, reduceEq → Ql, reduceNe → Qm, reduceBEq → Qn, reduceBNe → Qo, reduceAdd → Qp, reduceSub → Qq, reduceNeg → Qr
open Go.Fw.V.one renaming injEq → Qs
open Go.Fw.V.agg renaming injEq → Qt
open Go.Fw.V.tup renaming injEq → Qu
open Go.Fw.A.d renaming injEq → Qv
open Go.Fw.D.bool renaming injEq → Qw
open Go.Fw.D.int renaming injEq → Qx
open Go.Fw.D.str renaming injEq → Qy
open Go.Fw.D.sl renaming injEq → Qz
open List.cons renaming injEq → Za
set_option maxRecDepth 4000
variable {gp : Heap}

theorem Gr.cut_len (g : Gr) : g.cut.l.length ≤ 1000 := by simp [Gr.cut]; omega
theorem kidN_at {g : Gr} {j : Nat} {x : Nd} (h : g.l[j]? = some x) : kidN g j = x.kids.length := by unfold kidN; rw [h]; rfl
theorem kidN_b {g : Gr} (hs : Small g) (j : Nat) : -12 ≤ kidN g j ∧ kidN g j ≤ 12 := by
  cases h : g.l[j]? with
  | none => unfold kidN; rw [h]; simp
  | some x =>
    have := (hs x (List.mem_of_getElem? h)).2
    rw [kidN_at h]; omega
set_option maxHeartbeats 1000000 in
theorem walk_trees (h : Env gp) (g : Gr) : Does Go.Proofs.Tryz.prog gp 6 [g.v] (vb true) := by
  refine f6_in ?_
  simp only [go_sem,reduceCtorEq,↓reduceIte,Qa,Qb,Qc,Qd,Qe,Qf,Qg,Qh,Qi,Qj,Qk,Ql,Qm,Qn,Qo,Qp,Qq,Qr]
  have cs := shown12_ok h
  have ct := tidied_g h g true
  have hsm0 := g.cut_small
  have hl0 := g.cut_len
  obtain ⟨q, us, an, ds, e, hqe, hsq, hl, c1, c2, c3, hf⟩ : ∃ (q : Gr) (us an ds : List Int) (e : Int), tidied g true = q ∧ Small q ∧ q.l.length ≤ 1000 ∧
      Does Go.Proofs.Tryz.prog gp 12 [q.v] (.tup [.one (.d (.sl (ints us))), vi e]) ∧ Does Go.Proofs.Tryz.prog gp 14 [q.v] (.tup [.one (.d (.sl (ints an))), vi e]) ∧
      Does Go.Proofs.Tryz.prog gp 15 [q.v] (.tup [.one (.d (.sl (ints ds))), vi e]) ∧ ((e = 0 ∧ (1 + sumN (kidN q) q.l.length = q.l.length → TreeOK q us an ds)) ∨ e = 72) := by
    by_cases hc : chk g.cut = none
    · have hq : Tdy (tidyG g.cut) := Good.tdy ⟨hc, hsm0⟩
      rw [tidied_t hc]
      exact ⟨_, _, _, _, 0, rfl, hq.good.s, by have := hq.good.len; omega, uses_g h hq, anchors_g h hq, depths_g h hq, .inl ⟨rfl, tree_ok hq⟩⟩
    · have hn : ¬ (chk g.cut = none ∧ g.cut = tidyG g.cut) := fun e => hc e.1
      rw [tidied_n hc]
      exact ⟨_, [], [], [], 72, rfl, hsm0, by omega, uses_bad h hsm0 hn, anchors_bad h hsm0 hn, depths_bad h hsm0 hn, .inr rfl⟩
  rw [hqe] at ct
  clear hqe
  repeat' (first | refine Gx rfl ?_ | ((first | refine G_reg ?_ | refine VO_chk ?_ | refine VO_go ?_ | refine VO_gx ?_); simp only [f6_r0,f6_r1,f6_r2,f6_r3,f6_r4,f6_r5,f6_r6,f6_r7,f6_r8,f6_r13,f6_r15,f6_r21,f6_r22,f6_r28,f6_r29,f6_r35,f6_r36,f6_r41,f6_r42,f6_r48,f6_r49,f6_r54,f6_r55,f6_r62,f6_r70,f6_r76,go_sem,reduceCtorEq,↓reduceIte,Qa,Qb,Qc,Qd,Qe,Qf,Qg,Qh,Qi,Qj,Qk,Ql,Qm,Qn,Qo,Qp,Qq,Qr]) | refine VO_end ?_ | refine Sh.intro ?_ | refine ⟨_, cs, Sh.intro ?_⟩ | refine ⟨_, ⟨cs, rfl⟩, Sh.intro ?_⟩ | refine ⟨_, ct, Sh.intro ?_⟩ | refine ⟨_, ⟨ct, rfl⟩, Sh.intro ?_⟩ | refine ⟨_, c1, Sh.intro ?_⟩ | refine ⟨_, ⟨c1, rfl⟩, Sh.intro ?_⟩ | refine ⟨_, c2, Sh.intro ?_⟩ | refine ⟨_, ⟨c2, rfl⟩, Sh.intro ?_⟩ | refine ⟨_, c3, Sh.intro ?_⟩ | refine ⟨_, ⟨c3, rfl⟩, Sh.intro ?_⟩ | (refine G_cond ?_; simp only [f6_r0,f6_r1,f6_r2,f6_r3,f6_r4,f6_r5,f6_r6,f6_r7,f6_r8,f6_r13,f6_r15,f6_r21,f6_r22,f6_r28,f6_r29,f6_r35,f6_r36,f6_r41,f6_r42,f6_r48,f6_r49,f6_r54,f6_r55,f6_r62,f6_r70,f6_r76,go_sem,reduceCtorEq,↓reduceIte,Qa,Qb,Qc,Qd,Qe,Qf,Qg,Qh,Qi,Qj,Qk,Ql,Qm,Qn,Qo,Qp,Qq,Qr]; first | (refine ⟨fun _ => ?_, fun _ => ?_⟩ <;> try (exfalso; omega)) | skip) | (refine And.intro (fun _ => ?_) (fun _ => ?_) <;> try (exfalso; omega)) | ((first | refine G_fin ?_ | refine G_ret rfl ?_); simp only [f6_r0,f6_r1,f6_r2,f6_r3,f6_r4,f6_r5,f6_r6,f6_r7,f6_r8,f6_r13,f6_r15,f6_r21,f6_r22,f6_r28,f6_r29,f6_r35,f6_r36,f6_r41,f6_r42,f6_r48,f6_r49,f6_r54,f6_r55,f6_r62,f6_r70,f6_r76,or_self,Qs,Qt,Qu,Qv,Qw,Qx,Qy,Qz,Za,go_sem,reduceCtorEq,↓reduceIte,Qa,Qb,Qc,Qd,Qe,Qf,Qg,Qh,Qi,Qj,Qk,Ql,Qm,Qn,Qo,Qp,Qq,Qr]))
  all_goals first | (exfalso; omega) | skip
  refine G_weak (fr 129 [(1, .one (.ptr 0 0)), (3, vb true), (4, .one (.d (.sl (ints us)))), (5, vi e), (6, .one (.d (.sl (ints an)))), (7, vi e), (8, .one (.d (.sl (ints ds)))), (9, vi e), (10, vi (1 + sumN (kidN q) (0 : Nat))), (11, vi (0 : Nat))]) (by (simp only [go_sem,reduceCtorEq,↓reduceIte,Qa,Qb,Qc,Qd,Qe,Qf,Qg,Qh,Qi,Qj,Qk,Ql,Qm,Qn,Qo,Qp,Qq,Qr]; repeat' (first | refine And.intro ?_ ?_ | exact Or.inl rfl | exact Or.inr rfl | rfl))) ?_
  refine G_loop (fun mz sz => ∃ i : Nat, i ≤ q.l.length ∧ mz = q.l.length - i ∧ (0 ≤ i) ∧ sz = ⟨fr 129 [(1, .one (.ptr 0 0)), (3, vb true), (4, .one (.d (.sl (ints us)))), (5, vi e), (6, .one (.d (.sl (ints an)))), (7, vi e), (8, .one (.d (.sl (ints ds)))), (9, vi e), (10, vi (1 + sumN (kidN q) i)), (11, vi i)], [.cells q.as]⟩) (q.l.length) ⟨0, Nat.zero_le _, (Nat.sub_zero _).symm, ?_, rfl⟩ ?_
  · exact Nat.zero_le _
  rintro _ _ ⟨i, hi, rfl, -, rfl⟩
  simp only [go_sem,reduceCtorEq,↓reduceIte,Qa,Qb,Qc,Qd,Qe,Qf,Qg,Qh,Qi,Qj,Qk,Ql,Qm,Qn,Qo,Qp,Qq,Qr]
  by_cases hil : i < q.l.length
  · obtain ⟨x, hx⟩ := at_lt hil
    have hk := kidN_at hx
    have hb1 := sumN_bound (n := q.l.length) (fun j _ => kidN_b hsq j) i (by omega)
    have hb2 := kidN_b hsq i
    have hnx : sumN (kidN q) (i + 1) = sumN (kidN q) i + kidN q i := rfl
    generalize sumN (kidN q) i = s at *
    repeat' (first | refine Gx rfl ?_ | ((first | refine G_reg ?_ | refine VO_chk ?_ | refine VO_go ?_ | refine VO_gx ?_); simp only [f6_r0,f6_r1,f6_r2,f6_r3,f6_r4,f6_r5,f6_r6,f6_r7,f6_r8,f6_r13,f6_r15,f6_r21,f6_r22,f6_r28,f6_r29,f6_r35,f6_r36,f6_r41,f6_r42,f6_r48,f6_r49,f6_r54,f6_r55,f6_r62,f6_r70,f6_r76,go_sem,reduceCtorEq,↓reduceIte,Qa,Qb,Qc,Qd,Qe,Qf,Qg,Qh,Qi,Qj,Qk,Ql,Qm,Qn,Qo,Qp,Qq,Qr]) | refine VO_end ?_ | refine Sh.intro ?_ | refine ⟨_, ⟨Int.natCast_nonneg _, (by first | exact map_at hx | (rw [Int.toNat_natCast]; exact map_at hx)), rfl⟩, Sh.intro ?_⟩ | refine ⟨inK_small (by omega) (by omega), ?_⟩ | (refine G_cond ?_; simp only [f6_r0,f6_r1,f6_r2,f6_r3,f6_r4,f6_r5,f6_r6,f6_r7,f6_r8,f6_r13,f6_r15,f6_r21,f6_r22,f6_r28,f6_r29,f6_r35,f6_r36,f6_r41,f6_r42,f6_r48,f6_r49,f6_r54,f6_r55,f6_r62,f6_r70,f6_r76,go_sem,reduceCtorEq,↓reduceIte,Qa,Qb,Qc,Qd,Qe,Qf,Qg,Qh,Qi,Qj,Qk,Ql,Qm,Qn,Qo,Qp,Qq,Qr]; first | (refine ⟨fun _ => ?_, fun _ => ?_⟩ <;> try (exfalso; omega)) | skip) | (refine And.intro (fun _ => ?_) (fun _ => ?_) <;> try (exfalso; omega)) | ((first | refine G_fin ?_ | refine G_ret rfl ?_); simp only [f6_r0,f6_r1,f6_r2,f6_r3,f6_r4,f6_r5,f6_r6,f6_r7,f6_r8,f6_r13,f6_r15,f6_r21,f6_r22,f6_r28,f6_r29,f6_r35,f6_r36,f6_r41,f6_r42,f6_r48,f6_r49,f6_r54,f6_r55,f6_r62,f6_r70,f6_r76,or_self,Qs,Qt,Qu,Qv,Qw,Qx,Qy,Qz,Za,go_sem,reduceCtorEq,↓reduceIte,Qa,Qb,Qc,Qd,Qe,Qf,Qg,Qh,Qi,Qj,Qk,Ql,Qm,Qn,Qo,Qp,Qq,Qr]))
    all_goals first | (exfalso; omega) | skip
    refine G_weak (fr 129 [(1, .one (.ptr 0 0)), (3, vb true), (4, .one (.d (.sl (ints us)))), (5, vi e), (6, .one (.d (.sl (ints an)))), (7, vi e), (8, .one (.d (.sl (ints ds)))), (9, vi e), (10, vi (1 + s + x.kids.length)), (11, vi (i + 1))]) (by (simp only [go_sem,reduceCtorEq,↓reduceIte,Qa,Qb,Qc,Qd,Qe,Qf,Qg,Qh,Qi,Qj,Qk,Ql,Qm,Qn,Qo,Qp,Qq,Qr]; repeat' (first | refine And.intro ?_ ?_ | exact Or.inl rfl | exact Or.inr rfl | rfl))) ?_
    refine G_again ⟨q.l.length - (i + 1), by omega, i + 1, by omega, rfl, ?_, by rw [show 1 + s + (x.kids.length : Int) = 1 + sumN (kidN q) (i + 1) from by omega]; rfl⟩
    exact Nat.zero_le _
  · obtain rfl : q.l.length = i := by omega
    generalize hsn : sumN (kidN q) q.l.length = s at *
    rcases hf with ⟨rfl, hf⟩ | rfl
    · by_cases hsl : 1 + s = (q.l.length : Int)
      · obtain ⟨t1, t2, t3, t4, t5, t6⟩ := hf hsl
        have hne1 : ((us.length : Int) != 1 + s) = false := by rw [t1, hsl]; simp
        have hne2 : ((an.length : Int) != 1 + s) = false := by rw [t2, hsl]; simp
        have hne3 : ((ds.length : Int) != 1 + s) = false := by rw [t3, hsl]; simp
        repeat' (first | refine Gx rfl ?_ | ((first | refine G_reg ?_ | refine VO_chk ?_ | refine VO_go ?_ | refine VO_gx ?_); simp only [f6_r0,f6_r1,f6_r2,f6_r3,f6_r4,f6_r5,f6_r6,f6_r7,f6_r8,f6_r13,f6_r15,f6_r21,f6_r22,f6_r28,f6_r29,f6_r35,f6_r36,f6_r41,f6_r42,f6_r48,f6_r49,f6_r54,f6_r55,f6_r62,f6_r70,f6_r76,hne1,hne2,hne3,go_sem,reduceCtorEq,↓reduceIte,Qa,Qb,Qc,Qd,Qe,Qf,Qg,Qh,Qi,Qj,Qk,Ql,Qm,Qn,Qo,Qp,Qq,Qr]) | refine VO_end ?_ | refine Sh.intro ?_ | (refine G_cond ?_; simp only [f6_r0,f6_r1,f6_r2,f6_r3,f6_r4,f6_r5,f6_r6,f6_r7,f6_r8,f6_r13,f6_r15,f6_r21,f6_r22,f6_r28,f6_r29,f6_r35,f6_r36,f6_r41,f6_r42,f6_r48,f6_r49,f6_r54,f6_r55,f6_r62,f6_r70,f6_r76,hne1,hne2,hne3,go_sem,reduceCtorEq,↓reduceIte,Qa,Qb,Qc,Qd,Qe,Qf,Qg,Qh,Qi,Qj,Qk,Ql,Qm,Qn,Qo,Qp,Qq,Qr]; first | (refine ⟨fun _ => ?_, fun _ => ?_⟩ <;> try (exfalso; omega)) | skip) | (refine And.intro (fun _ => ?_) (fun _ => ?_) <;> try (exfalso; omega)) | ((first | refine G_fin ?_ | refine G_ret rfl ?_); simp only [f6_r0,f6_r1,f6_r2,f6_r3,f6_r4,f6_r5,f6_r6,f6_r7,f6_r8,f6_r13,f6_r15,f6_r21,f6_r22,f6_r28,f6_r29,f6_r35,f6_r36,f6_r41,f6_r42,f6_r48,f6_r49,f6_r54,f6_r55,f6_r62,f6_r70,f6_r76,hne1,hne2,hne3,or_self,Qs,Qt,Qu,Qv,Qw,Qx,Qy,Qz,Za,go_sem,reduceCtorEq,↓reduceIte,Qa,Qb,Qc,Qd,Qe,Qf,Qg,Qh,Qi,Qj,Qk,Ql,Qm,Qn,Qo,Qp,Qq,Qr]))
        all_goals first | (exfalso; omega) | skip
        rw [hsl]
        refine G_weak (fr 129 [(1, .one (.ptr 0 0)), (3, vb true), (4, .one (.d (.sl (ints us)))), (6, .one (.d (.sl (ints an)))), (8, .one (.d (.sl (ints ds)))), (10, vi q.l.length), (12, vi (0 : Nat))]) (by (simp only [go_sem,reduceCtorEq,↓reduceIte,Qa,Qb,Qc,Qd,Qe,Qf,Qg,Qh,Qi,Qj,Qk,Ql,Qm,Qn,Qo,Qp,Qq,Qr]; repeat' (first | refine And.intro ?_ ?_ | exact Or.inl rfl | exact Or.inr rfl | rfl))) ?_
        refine G_loop (fun mz sz => ∃ i : Nat, i ≤ q.l.length ∧ mz = q.l.length - i ∧ (0 ≤ i) ∧ sz = ⟨fr 129 [(1, .one (.ptr 0 0)), (3, vb true), (4, .one (.d (.sl (ints us)))), (6, .one (.d (.sl (ints an)))), (8, .one (.d (.sl (ints ds)))), (10, vi q.l.length), (12, vi i)], [.cells q.as]⟩) (q.l.length) ⟨0, Nat.zero_le _, (Nat.sub_zero _).symm, ?_, rfl⟩ ?_
        · exact Nat.zero_le _
        rintro _ _ ⟨i, hi, rfl, -, rfl⟩
        simp only [go_sem,reduceCtorEq,↓reduceIte,Qa,Qb,Qc,Qd,Qe,Qf,Qg,Qh,Qi,Qj,Qk,Ql,Qm,Qn,Qo,Qp,Qq,Qr]
        by_cases hil : i < q.l.length
        · obtain ⟨x, hx⟩ := at_lt hil
          have hu := t4 i hil
          have ha := t5 i hil
          have hkl : x.kids.length < lenMax := by have := (hsq x (List.mem_of_getElem? hx)).2; unfold lenMax; omega
          repeat' (first | refine Gx rfl ?_ | ((first | refine G_reg ?_ | refine VO_chk ?_ | refine VO_go ?_ | refine VO_gx ?_); simp only [f6_r0,f6_r1,f6_r2,f6_r3,f6_r4,f6_r5,f6_r6,f6_r7,f6_r8,f6_r13,f6_r15,f6_r21,f6_r22,f6_r28,f6_r29,f6_r35,f6_r36,f6_r41,f6_r42,f6_r48,f6_r49,f6_r54,f6_r55,f6_r62,f6_r70,f6_r76,go_sem,reduceCtorEq,↓reduceIte,Qa,Qb,Qc,Qd,Qe,Qf,Qg,Qh,Qi,Qj,Qk,Ql,Qm,Qn,Qo,Qp,Qq,Qr]) | refine VO_end ?_ | refine Sh.intro ?_ | refine ⟨_, ⟨Int.natCast_nonneg _, (by first | exact map_at hx | (rw [Int.toNat_natCast]; exact map_at hx)), rfl⟩, Sh.intro ?_⟩ | refine ⟨_, ⟨Int.natCast_nonneg _, (by first | exact map_at hu | (rw [Int.toNat_natCast]; exact map_at hu)), rfl⟩, Sh.intro ?_⟩ | refine ⟨_, ⟨Int.natCast_nonneg _, (by first | exact map_at ha | (rw [Int.toNat_natCast]; exact map_at ha)), rfl⟩, Sh.intro ?_⟩ | (refine G_cond ?_; simp only [f6_r0,f6_r1,f6_r2,f6_r3,f6_r4,f6_r5,f6_r6,f6_r7,f6_r8,f6_r13,f6_r15,f6_r21,f6_r22,f6_r28,f6_r29,f6_r35,f6_r36,f6_r41,f6_r42,f6_r48,f6_r49,f6_r54,f6_r55,f6_r62,f6_r70,f6_r76,go_sem,reduceCtorEq,↓reduceIte,Qa,Qb,Qc,Qd,Qe,Qf,Qg,Qh,Qi,Qj,Qk,Ql,Qm,Qn,Qo,Qp,Qq,Qr]; first | (refine ⟨fun _ => ?_, fun _ => ?_⟩ <;> try (exfalso; omega)) | skip) | (refine And.intro (fun _ => ?_) (fun _ => ?_) <;> try (exfalso; omega)) | ((first | refine G_fin ?_ | refine G_ret rfl ?_); simp only [f6_r0,f6_r1,f6_r2,f6_r3,f6_r4,f6_r5,f6_r6,f6_r7,f6_r8,f6_r13,f6_r15,f6_r21,f6_r22,f6_r28,f6_r29,f6_r35,f6_r36,f6_r41,f6_r42,f6_r48,f6_r49,f6_r54,f6_r55,f6_r62,f6_r70,f6_r76,or_self,Qs,Qt,Qu,Qv,Qw,Qx,Qy,Qz,Za,go_sem,reduceCtorEq,↓reduceIte,Qa,Qb,Qc,Qd,Qe,Qf,Qg,Qh,Qi,Qj,Qk,Ql,Qm,Qn,Qo,Qp,Qq,Qr]))
          all_goals first | (exfalso; omega) | skip
          refine G_weak (fr 129 [(1, .one (.ptr 0 0)), (3, vb true), (4, .one (.d (.sl (ints us)))), (6, .one (.d (.sl (ints an)))), (8, .one (.d (.sl (ints ds)))), (10, vi q.l.length), (12, vi i), (13, vi (0 : Nat))]) (by (simp only [go_sem,reduceCtorEq,↓reduceIte,Qa,Qb,Qc,Qd,Qe,Qf,Qg,Qh,Qi,Qj,Qk,Ql,Qm,Qn,Qo,Qp,Qq,Qr]; repeat' (first | refine And.intro ?_ ?_ | exact Or.inl rfl | exact Or.inr rfl | rfl))) ?_
          refine G_loop (fun mz sz => ∃ j : Nat, j ≤ x.kids.length ∧ mz = x.kids.length - j ∧ (0 ≤ j) ∧ sz = ⟨fr 129 [(1, .one (.ptr 0 0)), (3, vb true), (4, .one (.d (.sl (ints us)))), (6, .one (.d (.sl (ints an)))), (8, .one (.d (.sl (ints ds)))), (10, vi q.l.length), (12, vi i), (13, vi j)], [.cells q.as]⟩) (x.kids.length) ⟨0, Nat.zero_le _, (Nat.sub_zero _).symm, ?_, rfl⟩ ?_
          · exact Nat.zero_le _
          rintro _ _ ⟨j, hj, rfl, -, rfl⟩
          simp only [go_sem,reduceCtorEq,↓reduceIte,Qa,Qb,Qc,Qd,Qe,Qf,Qg,Qh,Qi,Qj,Qk,Ql,Qm,Qn,Qo,Qp,Qq,Qr]
          by_cases hjl : j < x.kids.length
          · obtain ⟨y, hy⟩ := at_lt hjl
            obtain ⟨n, z, rfl, hn, hz, hw, hz1, hz2⟩ := t6 i j x y hx hy
            repeat' (first | refine Gx rfl ?_ | ((first | refine G_reg ?_ | refine VO_chk ?_ | refine VO_go ?_ | refine VO_gx ?_); simp only [f6_r0,f6_r1,f6_r2,f6_r3,f6_r4,f6_r5,f6_r6,f6_r7,f6_r8,f6_r13,f6_r15,f6_r21,f6_r22,f6_r28,f6_r29,f6_r35,f6_r36,f6_r41,f6_r42,f6_r48,f6_r49,f6_r54,f6_r55,f6_r62,f6_r70,f6_r76,go_sem,reduceCtorEq,↓reduceIte,Qa,Qb,Qc,Qd,Qe,Qf,Qg,Qh,Qi,Qj,Qk,Ql,Qm,Qn,Qo,Qp,Qq,Qr]) | refine VO_end ?_ | refine Sh.intro ?_ | refine ⟨_, ⟨Int.natCast_nonneg _, (by first | exact map_at hx | (rw [Int.toNat_natCast]; exact map_at hx)), rfl⟩, Sh.intro ?_⟩ | refine ⟨_, ⟨Int.natCast_nonneg _, (by first | exact map_at hy | (rw [Int.toNat_natCast]; exact map_at hy)), rfl⟩, Sh.intro ?_⟩ | refine ⟨_, ⟨Int.natCast_nonneg _, (by first | exact map_at hz | (rw [Int.toNat_natCast]; exact map_at hz)), rfl⟩, Sh.intro ?_⟩ | refine ⟨_, ⟨Int.natCast_nonneg _, (by first | exact map_at hw | (rw [Int.toNat_natCast]; exact map_at hw)), rfl⟩, Sh.intro ?_⟩ | refine ⟨inK_small (by omega) (by omega), ?_⟩ | (refine G_cond ?_; simp only [f6_r0,f6_r1,f6_r2,f6_r3,f6_r4,f6_r5,f6_r6,f6_r7,f6_r8,f6_r13,f6_r15,f6_r21,f6_r22,f6_r28,f6_r29,f6_r35,f6_r36,f6_r41,f6_r42,f6_r48,f6_r49,f6_r54,f6_r55,f6_r62,f6_r70,f6_r76,go_sem,reduceCtorEq,↓reduceIte,Qa,Qb,Qc,Qd,Qe,Qf,Qg,Qh,Qi,Qj,Qk,Ql,Qm,Qn,Qo,Qp,Qq,Qr]; first | (refine ⟨fun _ => ?_, fun _ => ?_⟩ <;> try (exfalso; omega)) | skip) | (refine And.intro (fun _ => ?_) (fun _ => ?_) <;> try (exfalso; omega)) | ((first | refine G_fin ?_ | refine G_ret rfl ?_); simp only [f6_r0,f6_r1,f6_r2,f6_r3,f6_r4,f6_r5,f6_r6,f6_r7,f6_r8,f6_r13,f6_r15,f6_r21,f6_r22,f6_r28,f6_r29,f6_r35,f6_r36,f6_r41,f6_r42,f6_r48,f6_r49,f6_r54,f6_r55,f6_r62,f6_r70,f6_r76,or_self,Qs,Qt,Qu,Qv,Qw,Qx,Qy,Qz,Za,go_sem,reduceCtorEq,↓reduceIte,Qa,Qb,Qc,Qd,Qe,Qf,Qg,Qh,Qi,Qj,Qk,Ql,Qm,Qn,Qo,Qp,Qq,Qr]))
            all_goals first | (exfalso; omega) | skip
            refine ⟨inK_nat hjl hkl, ?_⟩
            refine G_weak (fr 129 [(1, .one (.ptr 0 0)), (3, vb true), (4, .one (.d (.sl (ints us)))), (6, .one (.d (.sl (ints an)))), (8, .one (.d (.sl (ints ds)))), (10, vi q.l.length), (12, vi i), (13, vi (j + 1))]) (by (simp only [go_sem,reduceCtorEq,↓reduceIte,Qa,Qb,Qc,Qd,Qe,Qf,Qg,Qh,Qi,Qj,Qk,Ql,Qm,Qn,Qo,Qp,Qq,Qr]; repeat' (first | refine And.intro ?_ ?_ | exact Or.inl rfl | exact Or.inr rfl | rfl))) ?_
            refine G_again ⟨x.kids.length - (j + 1), by omega, j + 1, by omega, rfl, ?_, rfl⟩
            exact Nat.zero_le _
          · obtain rfl : x.kids.length = j := by omega
            repeat' (first | refine Gx rfl ?_ | ((first | refine G_reg ?_ | refine VO_chk ?_ | refine VO_go ?_ | refine VO_gx ?_); simp only [f6_r0,f6_r1,f6_r2,f6_r3,f6_r4,f6_r5,f6_r6,f6_r7,f6_r8,f6_r13,f6_r15,f6_r21,f6_r22,f6_r28,f6_r29,f6_r35,f6_r36,f6_r41,f6_r42,f6_r48,f6_r49,f6_r54,f6_r55,f6_r62,f6_r70,f6_r76,go_sem,reduceCtorEq,↓reduceIte,Qa,Qb,Qc,Qd,Qe,Qf,Qg,Qh,Qi,Qj,Qk,Ql,Qm,Qn,Qo,Qp,Qq,Qr]) | refine VO_end ?_ | refine Sh.intro ?_ | refine ⟨_, ⟨Int.natCast_nonneg _, (by first | exact map_at hx | (rw [Int.toNat_natCast]; exact map_at hx)), rfl⟩, Sh.intro ?_⟩ | (refine G_cond ?_; simp only [f6_r0,f6_r1,f6_r2,f6_r3,f6_r4,f6_r5,f6_r6,f6_r7,f6_r8,f6_r13,f6_r15,f6_r21,f6_r22,f6_r28,f6_r29,f6_r35,f6_r36,f6_r41,f6_r42,f6_r48,f6_r49,f6_r54,f6_r55,f6_r62,f6_r70,f6_r76,go_sem,reduceCtorEq,↓reduceIte,Qa,Qb,Qc,Qd,Qe,Qf,Qg,Qh,Qi,Qj,Qk,Ql,Qm,Qn,Qo,Qp,Qq,Qr]; first | (refine ⟨fun _ => ?_, fun _ => ?_⟩ <;> try (exfalso; omega)) | skip) | (refine And.intro (fun _ => ?_) (fun _ => ?_) <;> try (exfalso; omega)) | ((first | refine G_fin ?_ | refine G_ret rfl ?_); simp only [f6_r0,f6_r1,f6_r2,f6_r3,f6_r4,f6_r5,f6_r6,f6_r7,f6_r8,f6_r13,f6_r15,f6_r21,f6_r22,f6_r28,f6_r29,f6_r35,f6_r36,f6_r41,f6_r42,f6_r48,f6_r49,f6_r54,f6_r55,f6_r62,f6_r70,f6_r76,or_self,Qs,Qt,Qu,Qv,Qw,Qx,Qy,Qz,Za,go_sem,reduceCtorEq,↓reduceIte,Qa,Qb,Qc,Qd,Qe,Qf,Qg,Qh,Qi,Qj,Qk,Ql,Qm,Qn,Qo,Qp,Qq,Qr]))
            all_goals first | (exfalso; omega) | skip
            refine ⟨inK_nat hil (by unfold lenMax; omega), ?_⟩
            refine G_weak (fr 129 [(1, .one (.ptr 0 0)), (3, vb true), (4, .one (.d (.sl (ints us)))), (6, .one (.d (.sl (ints an)))), (8, .one (.d (.sl (ints ds)))), (10, vi q.l.length), (12, vi (i + 1))]) (by (simp only [go_sem,reduceCtorEq,↓reduceIte,Qa,Qb,Qc,Qd,Qe,Qf,Qg,Qh,Qi,Qj,Qk,Ql,Qm,Qn,Qo,Qp,Qq,Qr]; repeat' (first | refine And.intro ?_ ?_ | exact Or.inl rfl | exact Or.inr rfl | rfl))) ?_
            refine G_again ⟨q.l.length - (i + 1), by omega, i + 1, by omega, rfl, ?_, rfl⟩
            exact Nat.zero_le _
        · obtain rfl : q.l.length = i := by omega
          repeat' (first | refine Gx rfl ?_ | ((first | refine G_reg ?_ | refine VO_chk ?_ | refine VO_go ?_ | refine VO_gx ?_); simp only [f6_r0,f6_r1,f6_r2,f6_r3,f6_r4,f6_r5,f6_r6,f6_r7,f6_r8,f6_r13,f6_r15,f6_r21,f6_r22,f6_r28,f6_r29,f6_r35,f6_r36,f6_r41,f6_r42,f6_r48,f6_r49,f6_r54,f6_r55,f6_r62,f6_r70,f6_r76,go_sem,reduceCtorEq,↓reduceIte,Qa,Qb,Qc,Qd,Qe,Qf,Qg,Qh,Qi,Qj,Qk,Ql,Qm,Qn,Qo,Qp,Qq,Qr]) | refine VO_end ?_ | refine Sh.intro ?_ | (refine G_cond ?_; simp only [f6_r0,f6_r1,f6_r2,f6_r3,f6_r4,f6_r5,f6_r6,f6_r7,f6_r8,f6_r13,f6_r15,f6_r21,f6_r22,f6_r28,f6_r29,f6_r35,f6_r36,f6_r41,f6_r42,f6_r48,f6_r49,f6_r54,f6_r55,f6_r62,f6_r70,f6_r76,go_sem,reduceCtorEq,↓reduceIte,Qa,Qb,Qc,Qd,Qe,Qf,Qg,Qh,Qi,Qj,Qk,Ql,Qm,Qn,Qo,Qp,Qq,Qr]; first | (refine ⟨fun _ => ?_, fun _ => ?_⟩ <;> try (exfalso; omega)) | skip) | (refine And.intro (fun _ => ?_) (fun _ => ?_) <;> try (exfalso; omega)) | ((first | refine G_fin ?_ | refine G_ret rfl ?_); simp only [f6_r0,f6_r1,f6_r2,f6_r3,f6_r4,f6_r5,f6_r6,f6_r7,f6_r8,f6_r13,f6_r15,f6_r21,f6_r22,f6_r28,f6_r29,f6_r35,f6_r36,f6_r41,f6_r42,f6_r48,f6_r49,f6_r54,f6_r55,f6_r62,f6_r70,f6_r76,or_self,Qs,Qt,Qu,Qv,Qw,Qx,Qy,Qz,Za,go_sem,reduceCtorEq,↓reduceIte,Qa,Qb,Qc,Qd,Qe,Qf,Qg,Qh,Qi,Qj,Qk,Ql,Qm,Qn,Qo,Qp,Qq,Qr]))
          all_goals first | (exfalso; omega) | trace_state
      · have hne0 : (1 + s != (q.l.length : Int)) = true := by rw [bne_iff_ne]; exact hsl
        repeat' (first | refine Gx rfl ?_ | ((first | refine G_reg ?_ | refine VO_chk ?_ | refine VO_go ?_ | refine VO_gx ?_); simp only [f6_r0,f6_r1,f6_r2,f6_r3,f6_r4,f6_r5,f6_r6,f6_r7,f6_r8,f6_r13,f6_r15,f6_r21,f6_r22,f6_r28,f6_r29,f6_r35,f6_r36,f6_r41,f6_r42,f6_r48,f6_r49,f6_r54,f6_r55,f6_r62,f6_r70,f6_r76,hne0,go_sem,reduceCtorEq,↓reduceIte,Qa,Qb,Qc,Qd,Qe,Qf,Qg,Qh,Qi,Qj,Qk,Ql,Qm,Qn,Qo,Qp,Qq,Qr]) | refine VO_end ?_ | refine Sh.intro ?_ | (refine G_cond ?_; simp only [f6_r0,f6_r1,f6_r2,f6_r3,f6_r4,f6_r5,f6_r6,f6_r7,f6_r8,f6_r13,f6_r15,f6_r21,f6_r22,f6_r28,f6_r29,f6_r35,f6_r36,f6_r41,f6_r42,f6_r48,f6_r49,f6_r54,f6_r55,f6_r62,f6_r70,f6_r76,hne0,go_sem,reduceCtorEq,↓reduceIte,Qa,Qb,Qc,Qd,Qe,Qf,Qg,Qh,Qi,Qj,Qk,Ql,Qm,Qn,Qo,Qp,Qq,Qr]; first | (refine ⟨fun _ => ?_, fun _ => ?_⟩ <;> try (exfalso; omega)) | skip) | (refine And.intro (fun _ => ?_) (fun _ => ?_) <;> try (exfalso; omega)) | ((first | refine G_fin ?_ | refine G_ret rfl ?_); simp only [f6_r0,f6_r1,f6_r2,f6_r3,f6_r4,f6_r5,f6_r6,f6_r7,f6_r8,f6_r13,f6_r15,f6_r21,f6_r22,f6_r28,f6_r29,f6_r35,f6_r36,f6_r41,f6_r42,f6_r48,f6_r49,f6_r54,f6_r55,f6_r62,f6_r70,f6_r76,hne0,or_self,Qs,Qt,Qu,Qv,Qw,Qx,Qy,Qz,Za,go_sem,reduceCtorEq,↓reduceIte,Qa,Qb,Qc,Qd,Qe,Qf,Qg,Qh,Qi,Qj,Qk,Ql,Qm,Qn,Qo,Qp,Qq,Qr]))
        all_goals first | (exfalso; omega) | trace_state
    · repeat' (first | refine Gx rfl ?_ | ((first | refine G_reg ?_ | refine VO_chk ?_ | refine VO_go ?_ | refine VO_gx ?_); simp only [f6_r0,f6_r1,f6_r2,f6_r3,f6_r4,f6_r5,f6_r6,f6_r7,f6_r8,f6_r13,f6_r15,f6_r21,f6_r22,f6_r28,f6_r29,f6_r35,f6_r36,f6_r41,f6_r42,f6_r48,f6_r49,f6_r54,f6_r55,f6_r62,f6_r70,f6_r76,go_sem,reduceCtorEq,↓reduceIte,Qa,Qb,Qc,Qd,Qe,Qf,Qg,Qh,Qi,Qj,Qk,Ql,Qm,Qn,Qo,Qp,Qq,Qr]) | refine VO_end ?_ | refine Sh.intro ?_ | (refine G_cond ?_; simp only [f6_r0,f6_r1,f6_r2,f6_r3,f6_r4,f6_r5,f6_r6,f6_r7,f6_r8,f6_r13,f6_r15,f6_r21,f6_r22,f6_r28,f6_r29,f6_r35,f6_r36,f6_r41,f6_r42,f6_r48,f6_r49,f6_r54,f6_r55,f6_r62,f6_r70,f6_r76,go_sem,reduceCtorEq,↓reduceIte,Qa,Qb,Qc,Qd,Qe,Qf,Qg,Qh,Qi,Qj,Qk,Ql,Qm,Qn,Qo,Qp,Qq,Qr]; first | (refine ⟨fun _ => ?_, fun _ => ?_⟩ <;> try (exfalso; omega)) | skip) | (refine And.intro (fun _ => ?_) (fun _ => ?_) <;> try (exfalso; omega)) | ((first | refine G_fin ?_ | refine G_ret rfl ?_); simp only [f6_r0,f6_r1,f6_r2,f6_r3,f6_r4,f6_r5,f6_r6,f6_r7,f6_r8,f6_r13,f6_r15,f6_r21,f6_r22,f6_r28,f6_r29,f6_r35,f6_r36,f6_r41,f6_r42,f6_r48,f6_r49,f6_r54,f6_r55,f6_r62,f6_r70,f6_r76,or_self,Qs,Qt,Qu,Qv,Qw,Qx,Qy,Qz,Za,go_sem,reduceCtorEq,↓reduceIte,Qa,Qb,Qc,Qd,Qe,Qf,Qg,Qh,Qi,Qj,Qk,Ql,Qm,Qn,Qo,Qp,Qq,Qr]))
      all_goals first | (exfalso; omega) | trace_state
end Go.Fw.L07
