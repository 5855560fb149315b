/- Chapter 7, part 13: the laws on roots and finds. -/
import Derived.Test.YtnampnnphgedhaaDoorLc
set_option linter.all false
namespace Go.Fw.L07
open Go Go.Fw
open Nat renaming reduceAdd → Qa, reduceSub → Qb, reduceMul → Qc, reduceLeDiff → Qd, reduceLT → Qe, reduceEqDiff → Qf
open Int renaming reduceToNat → Qg, reduceLT → Qh, reduceLE → Qi, reduceGT → Qj, reduceGE → Qk, reduceEq → Ql, reduceNe → Qm, reduceBEq → Qn, reduceBNe → Qo, reduceAdd → Qp, reduceSub → Qq, reduceNeg → Qr
open Go.Fw.V.one renaming injEq → Qs
open Go.Fw.V.agg renaming injEq → Qt
open Go.Fw.V.tup renaming injEq → Qu
open Go.Fw.A.d renaming injEq → Qv
open Go.Fw.D.bool renaming injEq → Qw
open Go.Fw.D.int renaming injEq → Qx
open Go.Fw.D.str renaming injEq → Qy
open Go.Fw.D.sl renaming injEq → Qz
open List.cons renaming injEq → Za
set_option maxRecDepth 4000
variable {gp : Heap}

/-! ### What is wrong -/
theorem chk_ok {g : Gr} (h : chk g = none) : g.l.length ≤ 200 ∧ (0 ≤ g.root ∧ g.root < g.l.length) ∧ ∀ x ∈ g.l, nodeR rightS x g.l.length = true := by
  unfold chk checkR at h
  split at h
  · cases h
  · split at h
    · cases h
    · rename_i h1 h2
      refine ⟨by omega, Classical.not_not.1 h2, ?_⟩
      cases e : g.l.findIdx? fun x => !nodeR rightS x g.l.length with
      | none =>
        rw [List.findIdx?_eq_none_iff] at e
        intro x hx; simpa using e x hx
      | some i => rw [e] at h; cases h
theorem chk_of {g : Gr} (h1 : g.l.length ≤ 200) (h2 : 0 ≤ g.root ∧ g.root < g.l.length) (h3 : ∀ x ∈ g.l, nodeR rightS x g.l.length = true) : chk g = none := by
  unfold chk checkR
  rw [if_neg (by omega), if_neg (Classical.not_not.2 h2), List.findIdx?_eq_none_iff.2 fun x hx => by simp [h3 x hx]]
  rfl
theorem chk_bad {g : Gr} (h1 : g.l.length ≤ 200) (h2 : ¬ (0 ≤ g.root ∧ g.root < g.l.length)) : chk g = some (-1, 70) := by
  unfold chk checkR
  rw [if_neg (by omega), if_pos h2]
theorem chk_some {g : Gr} (h : chk g ≠ none) : ∃ a e, chk g = some (a, e) ∧ e ≠ 0 := by
  unfold chk checkR at h ⊢
  split
  · exact ⟨_, _, rfl, by decide⟩
  · split
    · exact ⟨_, _, rfl, by decide⟩
    · cases e : g.l.findIdx? fun x => !nodeR rightS x g.l.length with
      | none => rename_i h1 h2; rw [if_neg h1, if_neg h2, e] at h; exact absurd rfl h
      | some i => exact ⟨_, _, rfl, by decide⟩

theorem arena_roots (h : Env gp) (g : Gr) (root : Int) : Does Go.Proofs.Tryd.prog gp 7 [g.v, vi root] (vb true) := by
  refine f7_in ?_
  simp only [go_sem,reduceCtorEq,↓reduceIte,Qa,Qb,Qc,Qd,Qe,Qf,Qg,Qh,Qi,Qj,Qk,Ql,Qm,Qn,Qo,Qp,Qq,Qr]
  have c1 := chk_gr h g.cut
  have c2 := chk_gr h ⟨root, g.cut.l⟩
  by_cases hc : chk g.cut = none
  · obtain ⟨h1, h2, h3⟩ := chk_ok hc
    rw [hc] at c1
    by_cases hr : 0 ≤ root ∧ root < g.cut.l.length
    · rw [show chk ⟨root, g.cut.l⟩ = none from chk_of h1 hr h3] at c2
      repeat' (first | refine Gx rfl ?_ | ((first | refine G_reg ?_ | refine VO_chk ?_ | refine VO_go ?_); simp only [f7_r0,f7_r1,f7_r2,f7_r3,f7_r4,f7_r5,f7_r6,f7_r12,f7_r13,f7_r19,go_sem,reduceCtorEq,↓reduceIte,Qa,Qb,Qc,Qd,Qe,Qf,Qg,Qh,Qi,Qj,Qk,Ql,Qm,Qn,Qo,Qp,Qq,Qr]) | refine VO_end ?_ | refine Sh.intro ?_ | refine ⟨_, shown_ok h, Sh.intro ?_⟩ | refine ⟨_, ⟨shown_ok h, rfl⟩, Sh.intro ?_⟩ | refine ⟨_, cut_gr g, Sh.intro ?_⟩ | refine ⟨_, ⟨cut_gr g, rfl⟩, Sh.intro ?_⟩ | refine ⟨_, c1, Sh.intro ?_⟩ | refine ⟨_, ⟨c1, rfl⟩, Sh.intro ?_⟩ | refine ⟨_, c2, Sh.intro ?_⟩ | refine ⟨_, ⟨c2, rfl⟩, Sh.intro ?_⟩ | (refine G_cond ?_; simp only [f7_r0,f7_r1,f7_r2,f7_r3,f7_r4,f7_r5,f7_r6,f7_r12,f7_r13,f7_r19,decide_eq_true_eq,decide_eq_false_iff_not,go_sem,reduceCtorEq,↓reduceIte,Qa,Qb,Qc,Qd,Qe,Qf,Qg,Qh,Qi,Qj,Qk,Ql,Qm,Qn,Qo,Qp,Qq,Qr]; first | refine ⟨fun _ => ?_, fun _ => ?_⟩ | skip) | refine And.intro (fun _ => ?_) (fun _ => ?_) | ((first | refine G_fin ?_ | refine G_ret rfl ?_); simp only [f7_r0,f7_r1,f7_r2,f7_r3,f7_r4,f7_r5,f7_r6,f7_r12,f7_r13,f7_r19,or_self,Qs,Qt,Qu,Qv,Qw,Qx,Qy,Qz,Za,go_sem,reduceCtorEq,↓reduceIte,Qa,Qb,Qc,Qd,Qe,Qf,Qg,Qh,Qi,Qj,Qk,Ql,Qm,Qn,Qo,Qp,Qq,Qr]))
      all_goals (exfalso; simp only [decide_eq_true_eq, decide_eq_false_iff_not] at *; omega)
    · rw [show chk ⟨root, g.cut.l⟩ = some (-1, 70) from chk_bad h1 hr] at c2
      repeat' (first | refine Gx rfl ?_ | ((first | refine G_reg ?_ | refine VO_chk ?_ | refine VO_go ?_); simp only [f7_r0,f7_r1,f7_r2,f7_r3,f7_r4,f7_r5,f7_r6,f7_r12,f7_r13,f7_r19,go_sem,reduceCtorEq,↓reduceIte,Qa,Qb,Qc,Qd,Qe,Qf,Qg,Qh,Qi,Qj,Qk,Ql,Qm,Qn,Qo,Qp,Qq,Qr]) | refine VO_end ?_ | refine Sh.intro ?_ | refine ⟨_, shown_ok h, Sh.intro ?_⟩ | refine ⟨_, ⟨shown_ok h, rfl⟩, Sh.intro ?_⟩ | refine ⟨_, cut_gr g, Sh.intro ?_⟩ | refine ⟨_, ⟨cut_gr g, rfl⟩, Sh.intro ?_⟩ | refine ⟨_, c1, Sh.intro ?_⟩ | refine ⟨_, ⟨c1, rfl⟩, Sh.intro ?_⟩ | refine ⟨_, c2, Sh.intro ?_⟩ | refine ⟨_, ⟨c2, rfl⟩, Sh.intro ?_⟩ | (refine G_cond ?_; simp only [f7_r0,f7_r1,f7_r2,f7_r3,f7_r4,f7_r5,f7_r6,f7_r12,f7_r13,f7_r19,decide_eq_true_eq,decide_eq_false_iff_not,go_sem,reduceCtorEq,↓reduceIte,Qa,Qb,Qc,Qd,Qe,Qf,Qg,Qh,Qi,Qj,Qk,Ql,Qm,Qn,Qo,Qp,Qq,Qr]; first | refine ⟨fun _ => ?_, fun _ => ?_⟩ | skip) | refine And.intro (fun _ => ?_) (fun _ => ?_) | ((first | refine G_fin ?_ | refine G_ret rfl ?_); simp only [f7_r0,f7_r1,f7_r2,f7_r3,f7_r4,f7_r5,f7_r6,f7_r12,f7_r13,f7_r19,or_self,Qs,Qt,Qu,Qv,Qw,Qx,Qy,Qz,Za,go_sem,reduceCtorEq,↓reduceIte,Qa,Qb,Qc,Qd,Qe,Qf,Qg,Qh,Qi,Qj,Qk,Ql,Qm,Qn,Qo,Qp,Qq,Qr]))
      all_goals (exfalso; simp only [decide_eq_true_eq, decide_eq_false_iff_not] at *; omega)
  · obtain ⟨a, e, hs, he⟩ := chk_some hc
    rw [hs] at c1
    repeat' (first | refine Gx rfl ?_ | ((first | refine G_reg ?_ | refine VO_chk ?_ | refine VO_go ?_); simp only [f7_r0,f7_r1,f7_r2,f7_r3,f7_r4,f7_r5,f7_r6,f7_r12,f7_r13,f7_r19,go_sem,reduceCtorEq,↓reduceIte,Qa,Qb,Qc,Qd,Qe,Qf,Qg,Qh,Qi,Qj,Qk,Ql,Qm,Qn,Qo,Qp,Qq,Qr]) | refine VO_end ?_ | refine Sh.intro ?_ | refine ⟨_, shown_ok h, Sh.intro ?_⟩ | refine ⟨_, ⟨shown_ok h, rfl⟩, Sh.intro ?_⟩ | refine ⟨_, cut_gr g, Sh.intro ?_⟩ | refine ⟨_, ⟨cut_gr g, rfl⟩, Sh.intro ?_⟩ | refine ⟨_, c1, Sh.intro ?_⟩ | refine ⟨_, ⟨c1, rfl⟩, Sh.intro ?_⟩ | refine ⟨_, c2, Sh.intro ?_⟩ | refine ⟨_, ⟨c2, rfl⟩, Sh.intro ?_⟩ | (refine G_cond ?_; simp only [f7_r0,f7_r1,f7_r2,f7_r3,f7_r4,f7_r5,f7_r6,f7_r12,f7_r13,f7_r19,decide_eq_true_eq,decide_eq_false_iff_not,go_sem,reduceCtorEq,↓reduceIte,Qa,Qb,Qc,Qd,Qe,Qf,Qg,Qh,Qi,Qj,Qk,Ql,Qm,Qn,Qo,Qp,Qq,Qr]; first | refine ⟨fun _ => ?_, fun _ => ?_⟩ | skip) | refine And.intro (fun _ => ?_) (fun _ => ?_) | ((first | refine G_fin ?_ | refine G_ret rfl ?_); simp only [f7_r0,f7_r1,f7_r2,f7_r3,f7_r4,f7_r5,f7_r6,f7_r12,f7_r13,f7_r19,or_self,Qs,Qt,Qu,Qv,Qw,Qx,Qy,Qz,Za,go_sem,reduceCtorEq,↓reduceIte,Qa,Qb,Qc,Qd,Qe,Qf,Qg,Qh,Qi,Qj,Qk,Ql,Qm,Qn,Qo,Qp,Qq,Qr]))
    all_goals (exfalso; simp_all)
end Go.Fw.L07
