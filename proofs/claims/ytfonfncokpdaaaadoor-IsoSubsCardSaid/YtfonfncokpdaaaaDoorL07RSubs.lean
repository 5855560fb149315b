/- Chapter 9: the law IsoSubs. -/
import Derived.Test.YtfonfncokpdaaaaDoorIb
set_option linter.all false
namespace Go.Fw.L07
open Go Go.Fw
open Nat renaming reduceAdd → Qa, reduceSub → Qb, reduceMul → Qc, reduceLeDiff → Qd, reduceLT → Qe, reduceEqDiff → Qf
open Int renaming reduceToNat → Qg, reduceLT → Qh, reduceLE → Qi, reduceGT → Qj, reduceGE → Qk, reduceEq → Ql, reduceNe → Qm, reduceBEq → Qn, reduceBNe → Qo, reduceAdd → Qp, reduceSub → Qq, reduceNeg → Qr
open Go.Fw.V.one renaming injEq → Qs
open Go.Fw.V.agg renaming injEq → Qt
open Go.Fw.V.tup renaming injEq → Qu
open Go.Fw.A.d renaming injEq → Qv
open Go.Fw.D.bool renaming injEq → Qw
open Go.Fw.D.int renaming injEq → Qx
open Go.Fw.D.str renaming injEq → Qy
open Go.Fw.D.sl renaming injEq → Qz
open List.cons renaming injEq → Za
set_option maxRecDepth 4000
variable {gp : Heap} {ua : Addr}
theorem ints_cut (l : List Int) (n : Nat) : List.take n (ints l) = ints (l.take n) := by simp [ints, List.map_take]
set_option maxHeartbeats 1000000 in
theorem iso_subs (h9 : Env9 gp ua) (g h : Gr) (l : List Int) : Does Go.Proofs.Tryd.prog gp 6 [g.v, h.v, .one (.d (.sl (ints l)))] (vb true) := by
  refine f6_in ?_
  simp only [go_sem,reduceCtorEq,↓reduceIte,Qa,Qb,Qc,Qd,Qe,Qf,Qg,Qh,Qi,Qj,Qk,Ql,Qm,Qn,Qo,Qp,Qq,Qr]
  have cs := shown9_ok h9
  have cg := small9 (gp := gp) g 30
  have ch := small9 (gp := gp) h 30
  have hs := smallG_small g 30
  have hs' := smallG_small h 30
  generalize smallG g 30 = q at *
  generalize smallG h 30 = r at *
  have hpl : (l.take (min l.length 30)).length ≤ 30 := by simp; omega
  have hcut := ints_cut l (min l.length 30)
  have hm : (if (30 : Int) < (l.length : Int) then 30 else (l.length : Int)) = ((min l.length 30 : Nat) : Int) := by split <;> omega
  generalize l.take (min l.length 30) = ps at *
  have c1 := alike_gr h9 q r hs hs'
  have c2 := at_gr h9.e q hs ps (by omega)
  have c3 := at_gr h9.e r hs' ps (by omega)
  by_cases hc : chk q = none ∧ chk r = none
  · have gq : Good q := ⟨hc.1, hs⟩
    have gr : Good r := ⟨hc.2, hs'⟩
    rw [alG_good gq gr, checkE_good gq gr] at c1
    cases ha : alikeG q r with
    | false =>
      rw [ha] at c1
      generalize (aOf q ps).getD 0 = a at *
      generalize (aOf q ps).isSome = x at *
      generalize (aOf r ps).getD 0 = b at *
      generalize (aOf r ps).isSome = y at *
      repeat' (first | refine Gx rfl ?_ | ((first | refine G_reg ?_ | refine G_regv ?_ | refine VO_chk ?_ | refine VO_go ?_ | refine VO_gx ?_); simp only [f6_r0,f6_r1,f6_r2,f6_r3,f6_r4,f6_r5,f6_r6,f6_r7,f6_r8,f6_r9,f6_r15,f6_r16,hcut,go_sem,reduceCtorEq,↓reduceIte,Qa,Qb,Qc,Qd,Qe,Qf,Qg,Qh,Qi,Qj,Qk,Ql,Qm,Qn,Qo,Qp,Qq,Qr]) | refine VO_end ?_ | refine Sh.intro ?_ | refine ⟨_, cs, Sh.intro ?_⟩ | refine ⟨_, ⟨cs, rfl⟩, Sh.intro ?_⟩ | refine ⟨_, cg, Sh.intro ?_⟩ | refine ⟨_, ⟨cg, rfl⟩, Sh.intro ?_⟩ | refine ⟨_, ch, Sh.intro ?_⟩ | refine ⟨_, ⟨ch, rfl⟩, Sh.intro ?_⟩ | refine ⟨_, c1, Sh.intro ?_⟩ | refine ⟨_, ⟨c1, rfl⟩, Sh.intro ?_⟩ | refine ⟨_, c2, Sh.intro ?_⟩ | refine ⟨_, ⟨c2, rfl⟩, Sh.intro ?_⟩ | refine ⟨_, c3, Sh.intro ?_⟩ | refine ⟨_, ⟨c3, rfl⟩, Sh.intro ?_⟩ | refine ⟨0, min l.length 30, ⟨rfl, hm, Nat.zero_le _, Nat.min_le_left _ _, ints_one l⟩, Sh.intro ?_⟩ | (refine G_cond ?_; simp only [f6_r0,f6_r1,f6_r2,f6_r3,f6_r4,f6_r5,f6_r6,f6_r7,f6_r8,f6_r9,f6_r15,f6_r16,hcut,go_sem,reduceCtorEq,↓reduceIte,Qa,Qb,Qc,Qd,Qe,Qf,Qg,Qh,Qi,Qj,Qk,Ql,Qm,Qn,Qo,Qp,Qq,Qr]; first | (refine ⟨fun _ => ?_, fun _ => ?_⟩ <;> try (exfalso; omega)) | skip) | (refine And.intro (fun _ => ?_) (fun _ => ?_) <;> try (exfalso; omega)) | ((first | refine G_fin ?_ | refine G_ret rfl ?_); simp only [f6_r0,f6_r1,f6_r2,f6_r3,f6_r4,f6_r5,f6_r6,f6_r7,f6_r8,f6_r9,f6_r15,f6_r16,hcut,or_self,Qs,Qt,Qu,Qv,Qw,Qx,Qy,Qz,Za,go_sem,reduceCtorEq,↓reduceIte,Qa,Qb,Qc,Qd,Qe,Qf,Qg,Qh,Qi,Qj,Qk,Ql,Qm,Qn,Qo,Qp,Qq,Qr]))
      all_goals first | (exfalso; omega) | rfl | (exfalso; simp_all; done) | trace_state
    | true =>
      rw [ha] at c1
      have hR := iso_of gq gr ha
      rw [aOf_good gq] at c2
      rw [aOf_good gr] at c3
      rcases hR.path gq gr (ps := ps) hR.root with ⟨a, d, p1, p2, p3⟩ | ⟨p1, p2⟩
      · have hin := pairs_in gq gr _ p3
        have gq' : Good ⟨a, q.l⟩ := gq.reroot hin.1
        have gr' : Good ⟨d, r.l⟩ := gr.reroot hin.2
        have c4 := alike_gr h9 ⟨a, q.l⟩ ⟨d, r.l⟩ gq'.s gr'.s
        rw [alG_good gq' gr', checkE_good gq' gr', alike_of gq' gr' (hR.sub p3)] at c4
        rw [show atG q ps = some a from p1] at c2
        rw [show atG r ps = some d from p2] at c3
        simp only [Option.getD_some, Option.isSome_some] at c2 c3
        repeat' (first | refine Gx rfl ?_ | ((first | refine G_reg ?_ | refine G_regv ?_ | refine VO_chk ?_ | refine VO_go ?_ | refine VO_gx ?_); simp only [f6_r0,f6_r1,f6_r2,f6_r3,f6_r4,f6_r5,f6_r6,f6_r7,f6_r8,f6_r9,f6_r15,f6_r16,hcut,go_sem,reduceCtorEq,↓reduceIte,Qa,Qb,Qc,Qd,Qe,Qf,Qg,Qh,Qi,Qj,Qk,Ql,Qm,Qn,Qo,Qp,Qq,Qr]) | refine VO_end ?_ | refine Sh.intro ?_ | refine ⟨_, cs, Sh.intro ?_⟩ | refine ⟨_, ⟨cs, rfl⟩, Sh.intro ?_⟩ | refine ⟨_, cg, Sh.intro ?_⟩ | refine ⟨_, ⟨cg, rfl⟩, Sh.intro ?_⟩ | refine ⟨_, ch, Sh.intro ?_⟩ | refine ⟨_, ⟨ch, rfl⟩, Sh.intro ?_⟩ | refine ⟨_, c1, Sh.intro ?_⟩ | refine ⟨_, ⟨c1, rfl⟩, Sh.intro ?_⟩ | refine ⟨_, c2, Sh.intro ?_⟩ | refine ⟨_, ⟨c2, rfl⟩, Sh.intro ?_⟩ | refine ⟨_, c3, Sh.intro ?_⟩ | refine ⟨_, ⟨c3, rfl⟩, Sh.intro ?_⟩ | refine ⟨_, c4, Sh.intro ?_⟩ | refine ⟨_, ⟨c4, rfl⟩, Sh.intro ?_⟩ | refine ⟨0, min l.length 30, ⟨rfl, hm, Nat.zero_le _, Nat.min_le_left _ _, ints_one l⟩, Sh.intro ?_⟩ | (refine G_cond ?_; simp only [f6_r0,f6_r1,f6_r2,f6_r3,f6_r4,f6_r5,f6_r6,f6_r7,f6_r8,f6_r9,f6_r15,f6_r16,hcut,go_sem,reduceCtorEq,↓reduceIte,Qa,Qb,Qc,Qd,Qe,Qf,Qg,Qh,Qi,Qj,Qk,Ql,Qm,Qn,Qo,Qp,Qq,Qr]; first | (refine ⟨fun _ => ?_, fun _ => ?_⟩ <;> try (exfalso; omega)) | skip) | (refine And.intro (fun _ => ?_) (fun _ => ?_) <;> try (exfalso; omega)) | ((first | refine G_fin ?_ | refine G_ret rfl ?_); simp only [f6_r0,f6_r1,f6_r2,f6_r3,f6_r4,f6_r5,f6_r6,f6_r7,f6_r8,f6_r9,f6_r15,f6_r16,hcut,or_self,Qs,Qt,Qu,Qv,Qw,Qx,Qy,Qz,Za,go_sem,reduceCtorEq,↓reduceIte,Qa,Qb,Qc,Qd,Qe,Qf,Qg,Qh,Qi,Qj,Qk,Ql,Qm,Qn,Qo,Qp,Qq,Qr]))
        all_goals first | (exfalso; omega) | rfl | (exfalso; simp_all; done) | trace_state
      · rw [show atG q ps = none from p1] at c2
        rw [show atG r ps = none from p2] at c3
        simp only [Option.getD_none, Option.isSome_none] at c2 c3
        repeat' (first | refine Gx rfl ?_ | ((first | refine G_reg ?_ | refine G_regv ?_ | refine VO_chk ?_ | refine VO_go ?_ | refine VO_gx ?_); simp only [f6_r0,f6_r1,f6_r2,f6_r3,f6_r4,f6_r5,f6_r6,f6_r7,f6_r8,f6_r9,f6_r15,f6_r16,hcut,go_sem,reduceCtorEq,↓reduceIte,Qa,Qb,Qc,Qd,Qe,Qf,Qg,Qh,Qi,Qj,Qk,Ql,Qm,Qn,Qo,Qp,Qq,Qr]) | refine VO_end ?_ | refine Sh.intro ?_ | refine ⟨_, cs, Sh.intro ?_⟩ | refine ⟨_, ⟨cs, rfl⟩, Sh.intro ?_⟩ | refine ⟨_, cg, Sh.intro ?_⟩ | refine ⟨_, ⟨cg, rfl⟩, Sh.intro ?_⟩ | refine ⟨_, ch, Sh.intro ?_⟩ | refine ⟨_, ⟨ch, rfl⟩, Sh.intro ?_⟩ | refine ⟨_, c1, Sh.intro ?_⟩ | refine ⟨_, ⟨c1, rfl⟩, Sh.intro ?_⟩ | refine ⟨_, c2, Sh.intro ?_⟩ | refine ⟨_, ⟨c2, rfl⟩, Sh.intro ?_⟩ | refine ⟨_, c3, Sh.intro ?_⟩ | refine ⟨_, ⟨c3, rfl⟩, Sh.intro ?_⟩ | refine ⟨0, min l.length 30, ⟨rfl, hm, Nat.zero_le _, Nat.min_le_left _ _, ints_one l⟩, Sh.intro ?_⟩ | (refine G_cond ?_; simp only [f6_r0,f6_r1,f6_r2,f6_r3,f6_r4,f6_r5,f6_r6,f6_r7,f6_r8,f6_r9,f6_r15,f6_r16,hcut,go_sem,reduceCtorEq,↓reduceIte,Qa,Qb,Qc,Qd,Qe,Qf,Qg,Qh,Qi,Qj,Qk,Ql,Qm,Qn,Qo,Qp,Qq,Qr]; first | (refine ⟨fun _ => ?_, fun _ => ?_⟩ <;> try (exfalso; omega)) | skip) | (refine And.intro (fun _ => ?_) (fun _ => ?_) <;> try (exfalso; omega)) | ((first | refine G_fin ?_ | refine G_ret rfl ?_); simp only [f6_r0,f6_r1,f6_r2,f6_r3,f6_r4,f6_r5,f6_r6,f6_r7,f6_r8,f6_r9,f6_r15,f6_r16,hcut,or_self,Qs,Qt,Qu,Qv,Qw,Qx,Qy,Qz,Za,go_sem,reduceCtorEq,↓reduceIte,Qa,Qb,Qc,Qd,Qe,Qf,Qg,Qh,Qi,Qj,Qk,Ql,Qm,Qn,Qo,Qp,Qq,Qr]))
        all_goals first | (exfalso; omega) | rfl | (exfalso; simp_all; done) | trace_state
  · have he : checkE [q, r] ≠ 0 := fun e => hc ((checkE_two q r).1 e)
    have e0 : alG q r = false := by unfold alG; rw [if_neg hc]
    rw [e0] at c1
    generalize checkE [q, r] = e at *
    have hne : (e != 0) = true := by simpa using he
    have hne2 : (e == 0) = false := by simpa using he
    generalize (aOf q ps).getD 0 = a at *
    generalize (aOf q ps).isSome = x at *
    generalize (aOf r ps).getD 0 = b at *
    generalize (aOf r ps).isSome = y at *
    repeat' (first | refine Gx rfl ?_ | ((first | refine G_reg ?_ | refine G_regv ?_ | refine VO_chk ?_ | refine VO_go ?_ | refine VO_gx ?_); simp only [f6_r0,f6_r1,f6_r2,f6_r3,f6_r4,f6_r5,f6_r6,f6_r7,f6_r8,f6_r9,f6_r15,f6_r16,hcut,hne,hne2,go_sem,reduceCtorEq,↓reduceIte,Qa,Qb,Qc,Qd,Qe,Qf,Qg,Qh,Qi,Qj,Qk,Ql,Qm,Qn,Qo,Qp,Qq,Qr]) | refine VO_end ?_ | refine Sh.intro ?_ | refine ⟨_, cs, Sh.intro ?_⟩ | refine ⟨_, ⟨cs, rfl⟩, Sh.intro ?_⟩ | refine ⟨_, cg, Sh.intro ?_⟩ | refine ⟨_, ⟨cg, rfl⟩, Sh.intro ?_⟩ | refine ⟨_, ch, Sh.intro ?_⟩ | refine ⟨_, ⟨ch, rfl⟩, Sh.intro ?_⟩ | refine ⟨_, c1, Sh.intro ?_⟩ | refine ⟨_, ⟨c1, rfl⟩, Sh.intro ?_⟩ | refine ⟨_, c2, Sh.intro ?_⟩ | refine ⟨_, ⟨c2, rfl⟩, Sh.intro ?_⟩ | refine ⟨_, c3, Sh.intro ?_⟩ | refine ⟨_, ⟨c3, rfl⟩, Sh.intro ?_⟩ | refine ⟨0, min l.length 30, ⟨rfl, hm, Nat.zero_le _, Nat.min_le_left _ _, ints_one l⟩, Sh.intro ?_⟩ | (refine G_cond ?_; simp only [f6_r0,f6_r1,f6_r2,f6_r3,f6_r4,f6_r5,f6_r6,f6_r7,f6_r8,f6_r9,f6_r15,f6_r16,hcut,hne,hne2,go_sem,reduceCtorEq,↓reduceIte,Qa,Qb,Qc,Qd,Qe,Qf,Qg,Qh,Qi,Qj,Qk,Ql,Qm,Qn,Qo,Qp,Qq,Qr]; first | (refine ⟨fun _ => ?_, fun _ => ?_⟩ <;> try (exfalso; omega)) | skip) | (refine And.intro (fun _ => ?_) (fun _ => ?_) <;> try (exfalso; omega)) | ((first | refine G_fin ?_ | refine G_ret rfl ?_); simp only [f6_r0,f6_r1,f6_r2,f6_r3,f6_r4,f6_r5,f6_r6,f6_r7,f6_r8,f6_r9,f6_r15,f6_r16,hcut,hne,hne2,or_self,Qs,Qt,Qu,Qv,Qw,Qx,Qy,Qz,Za,go_sem,reduceCtorEq,↓reduceIte,Qa,Qb,Qc,Qd,Qe,Qf,Qg,Qh,Qi,Qj,Qk,Ql,Qm,Qn,Qo,Qp,Qq,Qr]))
    all_goals first | (exfalso; omega) | rfl | (exfalso; simp_all; done) | trace_state
end Go.Fw.L07
