/- Chapter 8: the law ReachPlaces. -/
import Derived.Test.YtphdiiaiclfjgaaDoorEa
set_option linter.all false
namespace Go.Fw.L07
open Go Go.Fw
open Nat renaming reduceAdd → Qa, reduceSub → Qb, reduceMul → Qc, reduceLeDiff → Qd, reduceLT → Qe, reduceEqDiff → Qf
open Int renaming reduceToNat → Qg, reduceLT → Qh, reduceLE → Qi, reduceGT → Qj, reduceGE → Qk, reduceEq → Ql, reduceNe → Qm, reduceBEq → Qn, reduceBNe → Qo, reduceAdd → Qp, reduceSub → Qq, reduceNeg → Qr
open Go.Fw.V.one renaming injEq → Qs
open Go.Fw.V.agg renaming injEq → Qt
open Go.Fw.V.tup renaming injEq → Qu
open Go.Fw.A.d renaming injEq → Qv
open Go.Fw.D.bool renaming injEq → Qw
open Go.Fw.D.int renaming injEq → Qx
open Go.Fw.D.str renaming injEq → Qy
open Go.Fw.D.sl renaming injEq → Qz
open List.cons renaming injEq → Za
set_option maxRecDepth 4000
variable {gp : Heap}

set_option maxHeartbeats 1000000 in
theorem reach_places (h : Env gp) (g : Gr) : Does Go.Proofs.Tryd.prog gp 6 [g.v] (vb true) := by
  refine f6_in ?_
  simp only [go_sem,reduceCtorEq,↓reduceIte,Qa,Qb,Qc,Qd,Qe,Qf,Qg,Qh,Qi,Qj,Qk,Ql,Qm,Qn,Qo,Qp,Qq,Qr]
  have cs := shown8_ok h
  have cg := cut_gr (gp := gp) g
  have hsm := g.cut_small
  generalize g.cut = q at *
  have c1 := tidy_gr h q hsm
  by_cases hc : chk q = none
  · have hg : Good q := ⟨hc, hsm⟩
    have hgt := hg.tidy
    have hwl := hg.wlen
    have hgl := hg.len
    rw [chkE_ok hc, tOf_good hg] at c1
    have c2 := walk_gr h (tidyG q) hgt.s
    rw [chkE_ok hgt.c, wOf_good hgt, tidy_walk hg] at c2
    have htl := tidyG_len q
    have hroot : (tidyG q).root = 0 := rfl
    have hll : ((List.range (walkL q).length).map (fun n : Nat => (n : Int))).length = (walkL q).length := by simp
    have hat : ∀ i, i < (walkL q).length → ((List.range (walkL q).length).map (fun n : Nat => (n : Int)))[i]? = some (i : Int) := fun i hi => by
      rw [List.getElem?_map, List.getElem?_range hi]; rfl
    generalize (List.range (walkL q).length).map (fun n : Nat => (n : Int)) = l at *
    generalize (walkL q).length = m at *
    repeat' (first | refine Gx rfl ?_ | ((first | refine G_reg ?_ | refine VO_chk ?_ | refine VO_go ?_); simp only [f6_r0,f6_r1,f6_r2,f6_r3,f6_r4,f6_r5,f6_r11,f6_r12,f6_r17,f6_r18,f6_r25,f6_r31,htl,hroot,hll,go_sem,reduceCtorEq,↓reduceIte,Qa,Qb,Qc,Qd,Qe,Qf,Qg,Qh,Qi,Qj,Qk,Ql,Qm,Qn,Qo,Qp,Qq,Qr]) | refine VO_end ?_ | refine Sh.intro ?_ | refine ⟨_, cs, Sh.intro ?_⟩ | refine ⟨_, ⟨cs, rfl⟩, Sh.intro ?_⟩ | refine ⟨_, cg, Sh.intro ?_⟩ | refine ⟨_, ⟨cg, rfl⟩, Sh.intro ?_⟩ | refine ⟨_, c1, Sh.intro ?_⟩ | refine ⟨_, ⟨c1, rfl⟩, Sh.intro ?_⟩ | refine ⟨_, c2, Sh.intro ?_⟩ | refine ⟨_, ⟨c2, rfl⟩, Sh.intro ?_⟩ | (refine G_cond ?_; simp only [f6_r0,f6_r1,f6_r2,f6_r3,f6_r4,f6_r5,f6_r11,f6_r12,f6_r17,f6_r18,f6_r25,f6_r31,htl,hroot,hll,go_sem,reduceCtorEq,↓reduceIte,Qa,Qb,Qc,Qd,Qe,Qf,Qg,Qh,Qi,Qj,Qk,Ql,Qm,Qn,Qo,Qp,Qq,Qr]; first | refine ⟨fun _ => ?_, fun _ => ?_⟩ | skip) | refine And.intro (fun _ => ?_) (fun _ => ?_) | ((first | refine G_fin ?_ | refine G_ret rfl ?_); simp only [f6_r0,f6_r1,f6_r2,f6_r3,f6_r4,f6_r5,f6_r11,f6_r12,f6_r17,f6_r18,f6_r25,f6_r31,htl,hroot,hll,or_self,Qs,Qt,Qu,Qv,Qw,Qx,Qy,Qz,Za,go_sem,reduceCtorEq,↓reduceIte,Qa,Qb,Qc,Qd,Qe,Qf,Qg,Qh,Qi,Qj,Qk,Ql,Qm,Qn,Qo,Qp,Qq,Qr]))
    refine G_weak (fr 58 [(3, vb true), (4, .one (.ptr 0 0)), (6, .one (.d (.sl (ints l)))), (7, vi 0), (8, vi (0 : Nat))]) (by (simp only [go_sem,reduceCtorEq,↓reduceIte,Qa,Qb,Qc,Qd,Qe,Qf,Qg,Qh,Qi,Qj,Qk,Ql,Qm,Qn,Qo,Qp,Qq,Qr]; repeat' (first | refine And.intro ?_ ?_ | exact Or.inl rfl | exact Or.inr rfl | rfl))) ?_
    refine G_loop (fun mz sz => ∃ i : Nat, i ≤ m ∧ mz = m - i ∧ (0 ≤ i) ∧ sz = ⟨fr 58 [(3, vb true), (4, .one (.ptr 0 0)), (6, .one (.d (.sl (ints l)))), (7, vi 0), (8, vi i)], [.cells [.d (.int .i64 0), .d (.sl (nds (tidyG q).l))]]⟩) (m) ⟨0, Nat.zero_le _, (Nat.sub_zero _).symm, ?_, rfl⟩ ?_
    · exact Nat.zero_le _
    rintro _ _ ⟨i, hi, rfl, -, rfl⟩
    simp only [go_sem,reduceCtorEq,↓reduceIte,Qa,Qb,Qc,Qd,Qe,Qf,Qg,Qh,Qi,Qj,Qk,Ql,Qm,Qn,Qo,Qp,Qq,Qr]
    by_cases hil : i < m
    · have hx := hat i hil
      repeat' (first | refine Gx rfl ?_ | ((first | refine G_reg ?_ | refine VO_chk ?_ | refine VO_go ?_); simp only [f6_r0,f6_r1,f6_r2,f6_r3,f6_r4,f6_r5,f6_r11,f6_r12,f6_r17,f6_r18,f6_r25,f6_r31,hll,go_sem,reduceCtorEq,↓reduceIte,Qa,Qb,Qc,Qd,Qe,Qf,Qg,Qh,Qi,Qj,Qk,Ql,Qm,Qn,Qo,Qp,Qq,Qr]) | refine VO_end ?_ | refine Sh.intro ?_ | refine ⟨_, ⟨Int.natCast_nonneg _, (by first | exact map_at hx | (rw [Int.toNat_natCast]; exact map_at hx)), rfl⟩, Sh.intro ?_⟩ | (refine G_cond ?_; simp only [f6_r0,f6_r1,f6_r2,f6_r3,f6_r4,f6_r5,f6_r11,f6_r12,f6_r17,f6_r18,f6_r25,f6_r31,hll,go_sem,reduceCtorEq,↓reduceIte,Qa,Qb,Qc,Qd,Qe,Qf,Qg,Qh,Qi,Qj,Qk,Ql,Qm,Qn,Qo,Qp,Qq,Qr]; first | (refine ⟨fun _ => ?_, fun _ => ?_⟩ <;> try (exfalso; omega)) | skip) | (refine And.intro (fun _ => ?_) (fun _ => ?_) <;> try (exfalso; omega)) | ((first | refine G_fin ?_ | refine G_ret rfl ?_); simp only [f6_r0,f6_r1,f6_r2,f6_r3,f6_r4,f6_r5,f6_r11,f6_r12,f6_r17,f6_r18,f6_r25,f6_r31,hll,or_self,Qs,Qt,Qu,Qv,Qw,Qx,Qy,Qz,Za,go_sem,reduceCtorEq,↓reduceIte,Qa,Qb,Qc,Qd,Qe,Qf,Qg,Qh,Qi,Qj,Qk,Ql,Qm,Qn,Qo,Qp,Qq,Qr]))
      all_goals first | (exfalso; omega) | skip
      refine ⟨inK_nat hil (by unfold lenMax; omega), ?_⟩
      refine G_weak (fr 58 [(3, vb true), (4, .one (.ptr 0 0)), (6, .one (.d (.sl (ints l)))), (7, vi 0), (8, vi (i + 1))]) (by (simp only [go_sem,reduceCtorEq,↓reduceIte,Qa,Qb,Qc,Qd,Qe,Qf,Qg,Qh,Qi,Qj,Qk,Ql,Qm,Qn,Qo,Qp,Qq,Qr]; repeat' (first | refine And.intro ?_ ?_ | exact Or.inl rfl | exact Or.inr rfl | rfl))) ?_
      refine G_again ⟨m - (i + 1), by omega, i + 1, by omega, rfl, ?_, rfl⟩
      exact Nat.zero_le _
    · obtain rfl : m = i := by omega
      repeat' (first | refine Gx rfl ?_ | ((first | refine G_reg ?_ | refine VO_chk ?_ | refine VO_go ?_); simp only [f6_r0,f6_r1,f6_r2,f6_r3,f6_r4,f6_r5,f6_r11,f6_r12,f6_r17,f6_r18,f6_r25,f6_r31,hll,htl,go_sem,reduceCtorEq,↓reduceIte,Qa,Qb,Qc,Qd,Qe,Qf,Qg,Qh,Qi,Qj,Qk,Ql,Qm,Qn,Qo,Qp,Qq,Qr]) | refine VO_end ?_ | refine Sh.intro ?_ | (refine G_cond ?_; simp only [f6_r0,f6_r1,f6_r2,f6_r3,f6_r4,f6_r5,f6_r11,f6_r12,f6_r17,f6_r18,f6_r25,f6_r31,hll,htl,go_sem,reduceCtorEq,↓reduceIte,Qa,Qb,Qc,Qd,Qe,Qf,Qg,Qh,Qi,Qj,Qk,Ql,Qm,Qn,Qo,Qp,Qq,Qr]; first | (refine ⟨fun _ => ?_, fun _ => ?_⟩ <;> try (exfalso; omega)) | skip) | (refine And.intro (fun _ => ?_) (fun _ => ?_) <;> try (exfalso; omega)) | ((first | refine G_fin ?_ | refine G_ret rfl ?_); simp only [f6_r0,f6_r1,f6_r2,f6_r3,f6_r4,f6_r5,f6_r11,f6_r12,f6_r17,f6_r18,f6_r25,f6_r31,hll,htl,or_self,Qs,Qt,Qu,Qv,Qw,Qx,Qy,Qz,Za,go_sem,reduceCtorEq,↓reduceIte,Qa,Qb,Qc,Qd,Qe,Qf,Qg,Qh,Qi,Qj,Qk,Ql,Qm,Qn,Qo,Qp,Qq,Qr]))
      all_goals first | (exfalso; omega) | skip
      all_goals trace_state
  · have he := chkE_bad hc
    have ht : tOf q = ⟨0, []⟩ := by unfold tOf; rw [if_neg hc]
    rw [ht] at c1
    have c2 := walk_gr h ⟨0, []⟩ (fun x hx => by cases hx)
    rw [show wOf ⟨0, []⟩ = [] from by unfold wOf; rw [not_chk_nil]; rfl, show chkE ⟨0, []⟩ = 70 from by unfold chkE; rw [not_chk_nil]; rfl] at c2
    generalize chkE q = e at *
    repeat' (first | refine Gx rfl ?_ | ((first | refine G_reg ?_ | refine VO_chk ?_ | refine VO_go ?_); simp only [f6_r0,f6_r1,f6_r2,f6_r3,f6_r4,f6_r5,f6_r11,f6_r12,f6_r17,f6_r18,f6_r25,f6_r31,go_sem,reduceCtorEq,↓reduceIte,Qa,Qb,Qc,Qd,Qe,Qf,Qg,Qh,Qi,Qj,Qk,Ql,Qm,Qn,Qo,Qp,Qq,Qr]) | refine VO_end ?_ | refine Sh.intro ?_ | refine ⟨_, cs, Sh.intro ?_⟩ | refine ⟨_, ⟨cs, rfl⟩, Sh.intro ?_⟩ | refine ⟨_, cg, Sh.intro ?_⟩ | refine ⟨_, ⟨cg, rfl⟩, Sh.intro ?_⟩ | refine ⟨_, c1, Sh.intro ?_⟩ | refine ⟨_, ⟨c1, rfl⟩, Sh.intro ?_⟩ | refine ⟨_, c2, Sh.intro ?_⟩ | refine ⟨_, ⟨c2, rfl⟩, Sh.intro ?_⟩ | (refine G_cond ?_; simp only [f6_r0,f6_r1,f6_r2,f6_r3,f6_r4,f6_r5,f6_r11,f6_r12,f6_r17,f6_r18,f6_r25,f6_r31,go_sem,reduceCtorEq,↓reduceIte,Qa,Qb,Qc,Qd,Qe,Qf,Qg,Qh,Qi,Qj,Qk,Ql,Qm,Qn,Qo,Qp,Qq,Qr]; first | refine ⟨fun _ => ?_, fun _ => ?_⟩ | skip) | refine And.intro (fun _ => ?_) (fun _ => ?_) | ((first | refine G_fin ?_ | refine G_ret rfl ?_); simp only [f6_r0,f6_r1,f6_r2,f6_r3,f6_r4,f6_r5,f6_r11,f6_r12,f6_r17,f6_r18,f6_r25,f6_r31,or_self,Qs,Qt,Qu,Qv,Qw,Qx,Qy,Qz,Za,go_sem,reduceCtorEq,↓reduceIte,Qa,Qb,Qc,Qd,Qe,Qf,Qg,Qh,Qi,Qj,Qk,Ql,Qm,Qn,Qo,Qp,Qq,Qr]))
    all_goals simp_all
end Go.Fw.L07
