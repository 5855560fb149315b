/- Chapter 8: the law ReachSteps. -/
import Derived.Test.YtphdiiaiclfjgaaDoorEa
set_option linter.all false
namespace Go.Fw.L07
open Go Go.Fw
open Nat renaming reduceAdd → Qa, reduceSub → Qb, reduceMul → Qc, reduceLeDiff → Qd, reduceLT → Qe, reduceEqDiff → Qf
open Int renaming reduceToNat → Qg, reduceLT → Qh, reduceLE → Qi, reduceGT → Qj, reduceGE → Qk, reduceEq → Ql, reduceNe → Qm, reduceBEq → Qn, reduceBNe → Qo, reduceAdd → Qp, reduceSub → Qq, reduceNeg → Qr
open Go.Fw.V.one renaming injEq → Qs
open Go.Fw.V.agg renaming injEq → Qt
open Go.Fw.V.tup renaming injEq → Qu
open Go.Fw.A.d renaming injEq → Qv
open Go.Fw.D.bool renaming injEq → Qw
open Go.Fw.D.int renaming injEq → Qx
open Go.Fw.D.str renaming injEq → Qy
open Go.Fw.D.sl renaming injEq → Qz
open List.cons renaming injEq → Za
set_option maxRecDepth 4000
variable {gp : Heap}

set_option maxHeartbeats 1000000 in
theorem reach_steps (h : Env gp) (g : Gr) (l : List Int) (k : Int) : Does Go.Proofs.Tryd.prog gp 7 [g.v, .one (.d (.sl (ints l))), vi k] (vb true) := by
  refine f7_in ?_
  simp only [go_sem,reduceCtorEq,↓reduceIte,Qa,Qb,Qc,Qd,Qe,Qf,Qg,Qh,Qi,Qj,Qk,Ql,Qm,Qn,Qo,Qp,Qq,Qr]
  have cs := shown8_ok h
  have cg := cut_gr (gp := gp) g
  have hsm := g.cut_small
  generalize g.cut = q at *
  have cp := path_l (gp := gp) l
  have hpl : (l.take 30).length ≤ 30 := by simp; omega
  generalize l.take 30 = ps at *
  have c1 := at_gr h q hsm ps (by omega)
  have c2 := at_gr h q hsm (ps ++ [k]) (by simp; omega)
  have e2 : ints ps ++ [[D.int .i64 k]] = ints (ps ++ [k]) := by simp [ints]
  have hb1 : ps.length * 8 ≤ 140737488355328 := by omega
  have hb2 : ps.length < lenMax := by unfold lenMax; omega
  have hb3 : (ps.length + 1) * 8 ≤ 140737488355328 := by omega
  have hb4 : ps.length + 1 < lenMax := by unfold lenMax; omega
  by_cases hc : chk q = none
  · have hg : Good q := ⟨hc, hsm⟩
    rw [aOf_good hg] at c1 c2
    have hsn : atG q (ps ++ [k]) = (atG q ps).bind fun b => if 0 ≤ k then (kd q b)[k.toNat]? else none := atF_snoc
    rw [hsn] at c2
    cases ha : atG q ps with
    | none =>
      rw [ha] at c1 c2
      dsimp only [Option.bind_none, Option.getD_none, Option.isSome_none] at c1 c2
      repeat' (first | refine Gx rfl ?_ | ((first | refine G_reg ?_ | refine VO_chk ?_ | refine VO_go ?_); simp only [f7_r0,f7_r1,f7_r2,f7_r3,f7_r4,f7_r5,f7_r6,f7_r7,f7_r8,f7_r9,f7_r15,f7_r16,f7_r17,f7_r23,e2,go_sem,reduceCtorEq,↓reduceIte,Qa,Qb,Qc,Qd,Qe,Qf,Qg,Qh,Qi,Qj,Qk,Ql,Qm,Qn,Qo,Qp,Qq,Qr]) | refine VO_end ?_ | refine Sh.intro ?_ | refine ⟨_, cs, Sh.intro ?_⟩ | refine ⟨_, ⟨cs, rfl⟩, Sh.intro ?_⟩ | refine ⟨_, cg, Sh.intro ?_⟩ | refine ⟨_, ⟨cg, rfl⟩, Sh.intro ?_⟩ | refine ⟨_, cp, Sh.intro ?_⟩ | refine ⟨_, ⟨cp, rfl⟩, Sh.intro ?_⟩ | refine ⟨_, c1, Sh.intro ?_⟩ | refine ⟨_, ⟨c1, rfl⟩, Sh.intro ?_⟩ | refine ⟨ints_one ps, hb1, hb2, ?_⟩ | refine ⟨by simp, hb3, hb4, ?_⟩ | refine Or.inl ⟨_, ⟨c2, rfl⟩, Sh.intro ?_⟩ | (refine G_cond ?_; simp only [f7_r0,f7_r1,f7_r2,f7_r3,f7_r4,f7_r5,f7_r6,f7_r7,f7_r8,f7_r9,f7_r15,f7_r16,f7_r17,f7_r23,e2,go_sem,reduceCtorEq,↓reduceIte,Qa,Qb,Qc,Qd,Qe,Qf,Qg,Qh,Qi,Qj,Qk,Ql,Qm,Qn,Qo,Qp,Qq,Qr]; first | refine ⟨fun _ => ?_, fun _ => ?_⟩ | skip) | refine And.intro (fun _ => ?_) (fun _ => ?_) | ((first | refine G_fin ?_ | refine G_ret rfl ?_); simp only [f7_r0,f7_r1,f7_r2,f7_r3,f7_r4,f7_r5,f7_r6,f7_r7,f7_r8,f7_r9,f7_r15,f7_r16,f7_r17,f7_r23,e2,or_self,Qs,Qt,Qu,Qv,Qw,Qx,Qy,Qz,Za,go_sem,reduceCtorEq,↓reduceIte,Qa,Qb,Qc,Qd,Qe,Qf,Qg,Qh,Qi,Qj,Qk,Ql,Qm,Qn,Qo,Qp,Qq,Qr]))
    | some a =>
      rw [ha] at c1 c2
      dsimp only [Option.bind_some, Option.getD_some, Option.isSome_some] at c1 c2
      have k1 := kids (gp := gp) q a hsm
      have ham : a ∈ walkL q := atF_mem hg hg.wroot ha
      have hal : atE q.l a = 0 := by unfold atE; rw [if_pos (hg.wIn a ham)]
      rw [hal] at k1
      rw [show kd q a = kidsOf (ndAt q.l a) from rfl] at c2
      generalize kidsOf (ndAt q.l a) = kk at *
      by_cases hb : k < 0 ∨ k ≥ kk.length
      · have hn : (if 0 ≤ k then kk[k.toNat]? else none) = none := by
          split
          · exact List.getElem?_eq_none (by omega)
          · rfl
        rw [hn] at c2
        dsimp only [Option.getD_none, Option.isSome_none] at c2
        repeat' (first | refine Gx rfl ?_ | ((first | refine G_reg ?_ | refine VO_chk ?_ | refine VO_go ?_); simp only [f7_r0,f7_r1,f7_r2,f7_r3,f7_r4,f7_r5,f7_r6,f7_r7,f7_r8,f7_r9,f7_r15,f7_r16,f7_r17,f7_r23,e2,go_sem,reduceCtorEq,↓reduceIte,Qa,Qb,Qc,Qd,Qe,Qf,Qg,Qh,Qi,Qj,Qk,Ql,Qm,Qn,Qo,Qp,Qq,Qr]) | refine VO_end ?_ | refine Sh.intro ?_ | refine ⟨_, cs, Sh.intro ?_⟩ | refine ⟨_, ⟨cs, rfl⟩, Sh.intro ?_⟩ | refine ⟨_, cg, Sh.intro ?_⟩ | refine ⟨_, ⟨cg, rfl⟩, Sh.intro ?_⟩ | refine ⟨_, cp, Sh.intro ?_⟩ | refine ⟨_, ⟨cp, rfl⟩, Sh.intro ?_⟩ | refine ⟨_, c1, Sh.intro ?_⟩ | refine ⟨_, ⟨c1, rfl⟩, Sh.intro ?_⟩ | refine ⟨_, k1, Sh.intro ?_⟩ | refine ⟨_, ⟨k1, rfl⟩, Sh.intro ?_⟩ | refine ⟨ints_one ps, hb1, hb2, ?_⟩ | refine ⟨by simp, hb3, hb4, ?_⟩ | refine Or.inl ⟨_, ⟨c2, rfl⟩, Sh.intro ?_⟩ | (refine G_cond ?_; simp only [f7_r0,f7_r1,f7_r2,f7_r3,f7_r4,f7_r5,f7_r6,f7_r7,f7_r8,f7_r9,f7_r15,f7_r16,f7_r17,f7_r23,e2,go_sem,reduceCtorEq,↓reduceIte,Qa,Qb,Qc,Qd,Qe,Qf,Qg,Qh,Qi,Qj,Qk,Ql,Qm,Qn,Qo,Qp,Qq,Qr]; first | (refine ⟨fun _ => ?_, fun _ => ?_⟩ <;> try (exfalso; omega)) | skip) | (refine And.intro (fun _ => ?_) (fun _ => ?_) <;> try (exfalso; omega)) | ((first | refine G_fin ?_ | refine G_ret rfl ?_); simp only [f7_r0,f7_r1,f7_r2,f7_r3,f7_r4,f7_r5,f7_r6,f7_r7,f7_r8,f7_r9,f7_r15,f7_r16,f7_r17,f7_r23,e2,or_self,Qs,Qt,Qu,Qv,Qw,Qx,Qy,Qz,Za,go_sem,reduceCtorEq,↓reduceIte,Qa,Qb,Qc,Qd,Qe,Qf,Qg,Qh,Qi,Qj,Qk,Ql,Qm,Qn,Qo,Qp,Qq,Qr]))
        all_goals first | (exfalso; omega) | skip
      · obtain ⟨n, rfl⟩ := Int.eq_ofNat_of_zero_le (show 0 ≤ k by omega)
        obtain ⟨c, hcc⟩ := at_lt (l := kk) (i := n) (by omega)
        rw [if_pos (by omega), Int.toNat_natCast, hcc] at c2
        dsimp only [Option.getD_some, Option.isSome_some] at c2
        repeat' (first | refine Gx rfl ?_ | ((first | refine G_reg ?_ | refine VO_chk ?_ | refine VO_go ?_); simp only [f7_r0,f7_r1,f7_r2,f7_r3,f7_r4,f7_r5,f7_r6,f7_r7,f7_r8,f7_r9,f7_r15,f7_r16,f7_r17,f7_r23,e2,go_sem,reduceCtorEq,↓reduceIte,Qa,Qb,Qc,Qd,Qe,Qf,Qg,Qh,Qi,Qj,Qk,Ql,Qm,Qn,Qo,Qp,Qq,Qr]) | refine VO_end ?_ | refine Sh.intro ?_ | refine ⟨_, cs, Sh.intro ?_⟩ | refine ⟨_, ⟨cs, rfl⟩, Sh.intro ?_⟩ | refine ⟨_, cg, Sh.intro ?_⟩ | refine ⟨_, ⟨cg, rfl⟩, Sh.intro ?_⟩ | refine ⟨_, cp, Sh.intro ?_⟩ | refine ⟨_, ⟨cp, rfl⟩, Sh.intro ?_⟩ | refine ⟨_, c1, Sh.intro ?_⟩ | refine ⟨_, ⟨c1, rfl⟩, Sh.intro ?_⟩ | refine ⟨_, k1, Sh.intro ?_⟩ | refine ⟨_, ⟨k1, rfl⟩, Sh.intro ?_⟩ | refine ⟨_, ⟨Int.natCast_nonneg _, (by first | exact map_at hcc | (rw [Int.toNat_natCast]; exact map_at hcc)), rfl⟩, Sh.intro ?_⟩ | refine ⟨ints_one ps, hb1, hb2, ?_⟩ | refine ⟨by simp, hb3, hb4, ?_⟩ | refine Or.inl ⟨_, ⟨c2, rfl⟩, Sh.intro ?_⟩ | (refine G_cond ?_; simp only [f7_r0,f7_r1,f7_r2,f7_r3,f7_r4,f7_r5,f7_r6,f7_r7,f7_r8,f7_r9,f7_r15,f7_r16,f7_r17,f7_r23,e2,go_sem,reduceCtorEq,↓reduceIte,Qa,Qb,Qc,Qd,Qe,Qf,Qg,Qh,Qi,Qj,Qk,Ql,Qm,Qn,Qo,Qp,Qq,Qr]; first | (refine ⟨fun _ => ?_, fun _ => ?_⟩ <;> try (exfalso; omega)) | skip) | (refine And.intro (fun _ => ?_) (fun _ => ?_) <;> try (exfalso; omega)) | ((first | refine G_fin ?_ | refine G_ret rfl ?_); simp only [f7_r0,f7_r1,f7_r2,f7_r3,f7_r4,f7_r5,f7_r6,f7_r7,f7_r8,f7_r9,f7_r15,f7_r16,f7_r17,f7_r23,e2,or_self,Qs,Qt,Qu,Qv,Qw,Qx,Qy,Qz,Za,go_sem,reduceCtorEq,↓reduceIte,Qa,Qb,Qc,Qd,Qe,Qf,Qg,Qh,Qi,Qj,Qk,Ql,Qm,Qn,Qo,Qp,Qq,Qr]))
        all_goals first | (exfalso; omega) | skip
  · have ha : ∀ ps, aOf q ps = none := fun ps => by unfold aOf; rw [if_neg hc]
    rw [ha] at c1 c2
    dsimp only [Option.getD_none, Option.isSome_none] at c1 c2
    repeat' (first | refine Gx rfl ?_ | ((first | refine G_reg ?_ | refine VO_chk ?_ | refine VO_go ?_); simp only [f7_r0,f7_r1,f7_r2,f7_r3,f7_r4,f7_r5,f7_r6,f7_r7,f7_r8,f7_r9,f7_r15,f7_r16,f7_r17,f7_r23,e2,go_sem,reduceCtorEq,↓reduceIte,Qa,Qb,Qc,Qd,Qe,Qf,Qg,Qh,Qi,Qj,Qk,Ql,Qm,Qn,Qo,Qp,Qq,Qr]) | refine VO_end ?_ | refine Sh.intro ?_ | refine ⟨_, cs, Sh.intro ?_⟩ | refine ⟨_, ⟨cs, rfl⟩, Sh.intro ?_⟩ | refine ⟨_, cg, Sh.intro ?_⟩ | refine ⟨_, ⟨cg, rfl⟩, Sh.intro ?_⟩ | refine ⟨_, cp, Sh.intro ?_⟩ | refine ⟨_, ⟨cp, rfl⟩, Sh.intro ?_⟩ | refine ⟨_, c1, Sh.intro ?_⟩ | refine ⟨_, ⟨c1, rfl⟩, Sh.intro ?_⟩ | refine ⟨ints_one ps, hb1, hb2, ?_⟩ | refine ⟨by simp, hb3, hb4, ?_⟩ | refine Or.inl ⟨_, ⟨c2, rfl⟩, Sh.intro ?_⟩ | (refine G_cond ?_; simp only [f7_r0,f7_r1,f7_r2,f7_r3,f7_r4,f7_r5,f7_r6,f7_r7,f7_r8,f7_r9,f7_r15,f7_r16,f7_r17,f7_r23,e2,go_sem,reduceCtorEq,↓reduceIte,Qa,Qb,Qc,Qd,Qe,Qf,Qg,Qh,Qi,Qj,Qk,Ql,Qm,Qn,Qo,Qp,Qq,Qr]; first | refine ⟨fun _ => ?_, fun _ => ?_⟩ | skip) | refine And.intro (fun _ => ?_) (fun _ => ?_) | ((first | refine G_fin ?_ | refine G_ret rfl ?_); simp only [f7_r0,f7_r1,f7_r2,f7_r3,f7_r4,f7_r5,f7_r6,f7_r7,f7_r8,f7_r9,f7_r15,f7_r16,f7_r17,f7_r23,e2,or_self,Qs,Qt,Qu,Qv,Qw,Qx,Qy,Qz,Za,go_sem,reduceCtorEq,↓reduceIte,Qa,Qb,Qc,Qd,Qe,Qf,Qg,Qh,Qi,Qj,Qk,Ql,Qm,Qn,Qo,Qp,Qq,Qr]))
end Go.Fw.L07
