/- Chapter 8: the law ReachPaths. -/
import Derived.Test.YtphdiiaiclfjgaaDoorEa
set_option linter.all false
namespace Go.Fw.L07
open Go Go.Fw
open Nat renaming reduceAdd → Qa, reduceSub → Qb, reduceMul → Qc, reduceLeDiff → Qd, reduceLT → Qe, reduceEqDiff → Qf
open Int renaming reduceToNat → Qg, reduceLT → Qh, reduceLE → Qi, reduceGT → Qj, reduceGE → Qk, reduceEq → Ql, reduceNe → Qm, reduceBEq → Qn, reduceBNe → Qo, reduceAdd → Qp, reduceSub → Qq, reduceNeg → Qr
open Go.Fw.V.one renaming injEq → Qs
open Go.Fw.V.agg renaming injEq → Qt
open Go.Fw.V.tup renaming injEq → Qu
open Go.Fw.A.d renaming injEq → Qv
open Go.Fw.D.bool renaming injEq → Qw
open Go.Fw.D.int renaming injEq → Qx
open Go.Fw.D.str renaming injEq → Qy
open Go.Fw.D.sl renaming injEq → Qz
open List.cons renaming injEq → Za
set_option maxRecDepth 4000
variable {gp : Heap}

set_option maxHeartbeats 1000000 in
theorem reach_paths (h : Env gp) (g : Gr) (l : List Int) : Does Go.Proofs.Tryd.prog gp 4 [g.v, .one (.d (.sl (ints l)))] (vb true) := by
  refine f4_in ?_
  simp only [go_sem,reduceCtorEq,↓reduceIte,Qa,Qb,Qc,Qd,Qe,Qf,Qg,Qh,Qi,Qj,Qk,Ql,Qm,Qn,Qo,Qp,Qq,Qr]
  have cs := shown8_ok h
  have cg := cut_gr (gp := gp) g
  have hsm := g.cut_small
  generalize g.cut = q at *
  have cp := path_l (gp := gp) l
  have hpl : (l.take 30).length ≤ 30 := by simp; omega
  generalize l.take 30 = ps at *
  have c1 := tidy_gr h q hsm
  have c2 := at_gr h q hsm ps (by omega)
  by_cases hc : chk q = none
  · have hg : Good q := ⟨hc, hsm⟩
    have hgt := hg.tidy
    rw [chkE_ok hc, tOf_good hg] at c1
    rw [aOf_good hg] at c2
    have c3 := at_gr h (tidyG q) hgt.s ps (by omega)
    rw [aOf_good hgt, tidy_atG hg] at c3
    cases ha : atG q ps with
    | none =>
      rw [ha] at c2 c3
      dsimp only [Option.map_none, Option.getD_none, Option.isSome_none] at c2 c3
      repeat' (first | refine Gx rfl ?_ | ((first | refine G_reg ?_ | refine VO_chk ?_ | refine VO_go ?_); simp only [f4_r0,f4_r1,f4_r2,f4_r3,f4_r4,f4_r5,f4_r6,f4_r7,f4_r8,f4_r14,f4_r15,f4_r21,f4_r22,f4_r23,go_sem,reduceCtorEq,↓reduceIte,Qa,Qb,Qc,Qd,Qe,Qf,Qg,Qh,Qi,Qj,Qk,Ql,Qm,Qn,Qo,Qp,Qq,Qr]) | refine VO_end ?_ | refine Sh.intro ?_ | refine ⟨_, cs, Sh.intro ?_⟩ | refine ⟨_, ⟨cs, rfl⟩, Sh.intro ?_⟩ | refine ⟨_, cg, Sh.intro ?_⟩ | refine ⟨_, ⟨cg, rfl⟩, Sh.intro ?_⟩ | refine ⟨_, cp, Sh.intro ?_⟩ | refine ⟨_, ⟨cp, rfl⟩, Sh.intro ?_⟩ | refine ⟨_, c1, Sh.intro ?_⟩ | refine ⟨_, ⟨c1, rfl⟩, Sh.intro ?_⟩ | refine ⟨_, c2, Sh.intro ?_⟩ | refine ⟨_, ⟨c2, rfl⟩, Sh.intro ?_⟩ | refine ⟨_, c3, Sh.intro ?_⟩ | refine ⟨_, ⟨c3, rfl⟩, Sh.intro ?_⟩ | (refine G_cond ?_; simp only [f4_r0,f4_r1,f4_r2,f4_r3,f4_r4,f4_r5,f4_r6,f4_r7,f4_r8,f4_r14,f4_r15,f4_r21,f4_r22,f4_r23,go_sem,reduceCtorEq,↓reduceIte,Qa,Qb,Qc,Qd,Qe,Qf,Qg,Qh,Qi,Qj,Qk,Ql,Qm,Qn,Qo,Qp,Qq,Qr]; first | refine ⟨fun _ => ?_, fun _ => ?_⟩ | skip) | refine And.intro (fun _ => ?_) (fun _ => ?_) | ((first | refine G_fin ?_ | refine G_ret rfl ?_); simp only [f4_r0,f4_r1,f4_r2,f4_r3,f4_r4,f4_r5,f4_r6,f4_r7,f4_r8,f4_r14,f4_r15,f4_r21,f4_r22,f4_r23,or_self,Qs,Qt,Qu,Qv,Qw,Qx,Qy,Qz,Za,go_sem,reduceCtorEq,↓reduceIte,Qa,Qb,Qc,Qd,Qe,Qf,Qg,Qh,Qi,Qj,Qk,Ql,Qm,Qn,Qo,Qp,Qq,Qr]))
      all_goals trace_state
    | some a =>
      rw [ha] at c2 c3
      dsimp only [Option.map_some, Option.getD_some, Option.isSome_some] at c2 c3
      have ham : a ∈ walkL q := atF_mem hg hg.wroot ha
      have har := hg.wIn a ham
      obtain ⟨n, rfl⟩ := Int.eq_ofNat_of_zero_le har.1
      obtain ⟨x, hx⟩ := at_lt (l := q.l) (i := n) (by omega)
      have hnd : ndAt q.l n = x := by unfold ndAt; rw [if_pos har, Int.toNat_natCast, hx]; rfl
      have hxr : nodeR rightS x q.l.length = true := by rw [← hnd]; exact hg.node har
      have hj := idx_lt ham
      have hT := tidyG_at (g := q) (idx_get ham)
      rw [hnd] at hT
      have hy : (tidyG q).l[(walkL q).idxOf (n : Int)]? = some (tidyN (walkL q) x) := by
        simp only [tidyG, List.getElem?_map, idx_get ham, Option.map_some, hnd]
      have k1 := keys (gp := gp) q n hsm
      have k2 := keys (gp := gp) (tidyG q) ((walkL q).idxOf (n : Int) : Nat) hgt.s
      have htl := tidyG_len q
      have hal : atE q.l n = 0 := by unfold atE; rw [if_pos har]
      have hbl : atE (tidyG q).l ((walkL q).idxOf (n : Int) : Nat) = 0 := by unfold atE; rw [if_pos (by rw [htl]; omega)]
      rw [hnd, hal] at k1
      rw [hT, hbl, (tidy_kids hxr (walkL q)).2] at k2
      have k3 := scs_same (gp := gp) (keysOf x) (keysOf x)
      simp only [decide_true] at k3
      have hkl : (tidyN (walkL q) x).kids.length = x.kids.length := by simp only [tidyN, List.length_map]; exact (kids_ok hxr).len
      have hxx : (tidyN (walkL q) x).k = x.k ∧ (tidyN (walkL q) x).x = x.x := ⟨rfl, rfl⟩
      generalize tidyN (walkL q) x = y at *
      generalize (walkL q).idxOf (n : Int) = j at *
      rw [← htl] at hj
      repeat' (first | refine Gx rfl ?_ | ((first | refine G_reg ?_ | refine VO_chk ?_ | refine VO_go ?_); simp only [f4_r0,f4_r1,f4_r2,f4_r3,f4_r4,f4_r5,f4_r6,f4_r7,f4_r8,f4_r14,f4_r15,f4_r21,f4_r22,f4_r23,hkl,hxx.1,hxx.2,sc_eq,go_sem,reduceCtorEq,↓reduceIte,Qa,Qb,Qc,Qd,Qe,Qf,Qg,Qh,Qi,Qj,Qk,Ql,Qm,Qn,Qo,Qp,Qq,Qr]) | refine VO_end ?_ | refine Sh.intro ?_ | refine ⟨_, cs, Sh.intro ?_⟩ | refine ⟨_, ⟨cs, rfl⟩, Sh.intro ?_⟩ | refine ⟨_, cg, Sh.intro ?_⟩ | refine ⟨_, ⟨cg, rfl⟩, Sh.intro ?_⟩ | refine ⟨_, cp, Sh.intro ?_⟩ | refine ⟨_, ⟨cp, rfl⟩, Sh.intro ?_⟩ | refine ⟨_, c1, Sh.intro ?_⟩ | refine ⟨_, ⟨c1, rfl⟩, Sh.intro ?_⟩ | refine ⟨_, c2, Sh.intro ?_⟩ | refine ⟨_, ⟨c2, rfl⟩, Sh.intro ?_⟩ | refine ⟨_, c3, Sh.intro ?_⟩ | refine ⟨_, ⟨c3, rfl⟩, Sh.intro ?_⟩ | refine ⟨_, k1, Sh.intro ?_⟩ | refine ⟨_, ⟨k1, rfl⟩, Sh.intro ?_⟩ | refine ⟨_, k2, Sh.intro ?_⟩ | refine ⟨_, ⟨k2, rfl⟩, Sh.intro ?_⟩ | refine ⟨_, k3, Sh.intro ?_⟩ | refine ⟨_, ⟨k3, rfl⟩, Sh.intro ?_⟩ | refine ⟨_, ⟨Int.natCast_nonneg _, (by first | exact map_at hx | (rw [Int.toNat_natCast]; exact map_at hx)), rfl⟩, Sh.intro ?_⟩ | refine ⟨_, ⟨Int.natCast_nonneg _, (by first | exact map_at hy | (rw [Int.toNat_natCast]; exact map_at hy)), rfl⟩, Sh.intro ?_⟩ | (refine G_cond ?_; simp only [f4_r0,f4_r1,f4_r2,f4_r3,f4_r4,f4_r5,f4_r6,f4_r7,f4_r8,f4_r14,f4_r15,f4_r21,f4_r22,f4_r23,hkl,hxx.1,hxx.2,sc_eq,go_sem,reduceCtorEq,↓reduceIte,Qa,Qb,Qc,Qd,Qe,Qf,Qg,Qh,Qi,Qj,Qk,Ql,Qm,Qn,Qo,Qp,Qq,Qr]; first | (refine ⟨fun _ => ?_, fun _ => ?_⟩ <;> try (exfalso; omega)) | skip) | (refine And.intro (fun _ => ?_) (fun _ => ?_) <;> try (exfalso; omega)) | ((first | refine G_fin ?_ | refine G_ret rfl ?_); simp only [f4_r0,f4_r1,f4_r2,f4_r3,f4_r4,f4_r5,f4_r6,f4_r7,f4_r8,f4_r14,f4_r15,f4_r21,f4_r22,f4_r23,hkl,hxx.1,hxx.2,sc_eq,or_self,Qs,Qt,Qu,Qv,Qw,Qx,Qy,Qz,Za,go_sem,reduceCtorEq,↓reduceIte,Qa,Qb,Qc,Qd,Qe,Qf,Qg,Qh,Qi,Qj,Qk,Ql,Qm,Qn,Qo,Qp,Qq,Qr]))
      all_goals trace_state
  · have he := chkE_bad hc
    have ht : tOf q = ⟨0, []⟩ := by unfold tOf; rw [if_neg hc]
    have hn : aOf q ps = none := by unfold aOf; rw [if_neg hc]
    have c3 := at_gr h ⟨0, []⟩ (fun x hx => by cases hx) ps (by omega)
    rw [show aOf ⟨0, []⟩ ps = none from by unfold aOf; rw [if_neg (by rw [not_chk_nil]; simp)]] at c3
    rw [ht] at c1
    rw [hn] at c2
    dsimp only [Option.getD_none, Option.isSome_none] at c2 c3
    generalize chkE q = e at *
    repeat' (first | refine Gx rfl ?_ | ((first | refine G_reg ?_ | refine VO_chk ?_ | refine VO_go ?_); simp only [f4_r0,f4_r1,f4_r2,f4_r3,f4_r4,f4_r5,f4_r6,f4_r7,f4_r8,f4_r14,f4_r15,f4_r21,f4_r22,f4_r23,go_sem,reduceCtorEq,↓reduceIte,Qa,Qb,Qc,Qd,Qe,Qf,Qg,Qh,Qi,Qj,Qk,Ql,Qm,Qn,Qo,Qp,Qq,Qr]) | refine VO_end ?_ | refine Sh.intro ?_ | refine ⟨_, cs, Sh.intro ?_⟩ | refine ⟨_, ⟨cs, rfl⟩, Sh.intro ?_⟩ | refine ⟨_, cg, Sh.intro ?_⟩ | refine ⟨_, ⟨cg, rfl⟩, Sh.intro ?_⟩ | refine ⟨_, cp, Sh.intro ?_⟩ | refine ⟨_, ⟨cp, rfl⟩, Sh.intro ?_⟩ | refine ⟨_, c1, Sh.intro ?_⟩ | refine ⟨_, ⟨c1, rfl⟩, Sh.intro ?_⟩ | refine ⟨_, c2, Sh.intro ?_⟩ | refine ⟨_, ⟨c2, rfl⟩, Sh.intro ?_⟩ | refine ⟨_, c3, Sh.intro ?_⟩ | refine ⟨_, ⟨c3, rfl⟩, Sh.intro ?_⟩ | (refine G_cond ?_; simp only [f4_r0,f4_r1,f4_r2,f4_r3,f4_r4,f4_r5,f4_r6,f4_r7,f4_r8,f4_r14,f4_r15,f4_r21,f4_r22,f4_r23,go_sem,reduceCtorEq,↓reduceIte,Qa,Qb,Qc,Qd,Qe,Qf,Qg,Qh,Qi,Qj,Qk,Ql,Qm,Qn,Qo,Qp,Qq,Qr]; first | refine ⟨fun _ => ?_, fun _ => ?_⟩ | skip) | refine And.intro (fun _ => ?_) (fun _ => ?_) | ((first | refine G_fin ?_ | refine G_ret rfl ?_); simp only [f4_r0,f4_r1,f4_r2,f4_r3,f4_r4,f4_r5,f4_r6,f4_r7,f4_r8,f4_r14,f4_r15,f4_r21,f4_r22,f4_r23,or_self,Qs,Qt,Qu,Qv,Qw,Qx,Qy,Qz,Za,go_sem,reduceCtorEq,↓reduceIte,Qa,Qb,Qc,Qd,Qe,Qf,Qg,Qh,Qi,Qj,Qk,Ql,Qm,Qn,Qo,Qp,Qq,Qr]))
    all_goals first | (exfalso; simp_all; done) | (simp_all; done) | trace_state
end Go.Fw.L07
