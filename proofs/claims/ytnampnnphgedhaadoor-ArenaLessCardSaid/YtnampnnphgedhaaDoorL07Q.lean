/- Chapter 7, part 15: the law on finds. -/
import Derived.Test.YtnampnnphgedhaaDoorL07P
set_option linter.all false
namespace Go.Fw.L07
open Go Go.Fw
open Nat renaming reduceAdd → Qa, reduceSub → Qb, reduceMul → Qc, reduceLeDiff → Qd, reduceLT → Qe, reduceEqDiff → Qf
open Int renaming reduceToNat → Qg, reduceLT → Qh, reduceLE → Qi, reduceGT → Qj, reduceGE → Qk, reduceEq → Ql, reduceNe → Qm, reduceBEq → Qn, reduceBNe → Qo, reduceAdd → Qp, reduceSub → Qq, reduceNeg → Qr
open Go.Fw.V.one renaming injEq → Qs
open Go.Fw.V.agg renaming injEq → Qt
open Go.Fw.V.tup renaming injEq → Qu
open Go.Fw.A.d renaming injEq → Qv
open Go.Fw.D.bool renaming injEq → Qw
open Go.Fw.D.int renaming injEq → Qx
open Go.Fw.D.str renaming injEq → Qy
open Go.Fw.D.sl renaming injEq → Qz
open List.cons renaming injEq → Za
set_option maxRecDepth 4000
variable {gp : Heap}

/-! ### Nodes of right graphs -/
theorem node_at {l : List Nd} {i : Int} (h : 0 ≤ i ∧ i < l.length) : ndAt l i ∈ l := by
  unfold ndAt
  rw [if_pos h]
  have : i.toNat < l.length := by omega
  rw [List.getElem?_eq_getElem this]
  exact List.getElem_mem this
theorem node_off {l : List Nd} {i : Int} (h : ¬ (0 ≤ i ∧ i < l.length)) : ndAt l i = Nd.zero := by unfold ndAt; rw [if_neg h]
theorem map_right {x : Nd} {n : Int} (h : nodeR rightS x n = true) (hk : x.k = 2) : x.keys.length = x.kids.length ∧ x.keys.Nodup ∧ ∀ j ∈ x.kids, 0 ≤ j ∧ j < n := by
  unfold nodeR at h
  rw [hk] at h
  simp [mapR, keysR, kidsIn] at h
  obtain ⟨_, h1, ⟨_, h2⟩, h3⟩ := h
  exact ⟨h1, h2, fun j hj => by simpa using h3 j hj⟩
theorem seq_right {x : Nd} {n : Int} (h : nodeR rightS x n = true) (hk : x.k = 1) : x.keys = [] ∧ ∀ j ∈ x.kids, 0 ≤ j ∧ j < n := by
  unfold nodeR at h
  rw [hk] at h
  simp [seqR, kidsIn] at h
  obtain ⟨_, h1, h3⟩ := h
  exact ⟨h1, fun j hj => by simpa using h3 j hj⟩
theorem zips_key {x : Nd} (h : x.keys.length = x.kids.length) : (zips x).map Pr.key = x.keys := by
  unfold zips
  rw [List.map_zipWith]
  have : (fun a b => (Pr.mk a b).key) = fun (a : Sc) (_ : Int) => a := rfl
  rw [this]
  apply List.ext_getElem?
  intro i
  rw [List.getElem?_zipWith]
  cases ha : x.keys[i]? with
  | none => rfl
  | some a =>
    have hi := (List.getElem?_eq_some_iff.1 ha).1
    obtain ⟨b, hb⟩ := at_lt (l := x.kids) (i := i) (by omega)
    rw [hb]
theorem keysOf_mem {x : Nd} {n : Int} (h : nodeR rightS x n = true) (key : Sc) : key ∈ keysOf x ↔ x.k = 2 ∧ key ∈ x.keys := by
  unfold keysOf pairsOf
  by_cases hk : x.k = 2
  · obtain ⟨h1, _, _⟩ := map_right h hk
    rw [if_pos ⟨hk, h1⟩]
    rw [((srt_perm (zips x)).map Pr.key).mem_iff, zips_key h1]
    simp [hk]
  · rw [if_neg (fun e => hk e.1)]
    simp [hk]
theorem findIn_ok {l : List Sc} {m : List Int} {key : Sc} (h : l.length = m.length) :
    ((findIn l m key).2 = decide (key ∈ l)) ∧ (key ∈ l → ∃ j : Nat, l[j]? = some key ∧ m[j]? = some (findIn l m key).1) ∧ (key ∉ l → (findIn l m key).1 = 0) := by
  unfold findIn
  cases hf : (List.zip l m).find? fun p => decide (p.1 = key) with
  | none =>
    rw [List.find?_eq_none] at hf
    have : key ∉ l := by
      intro hk
      obtain ⟨j, hj⟩ := List.mem_iff_getElem?.1 hk
      have hjl := (List.getElem?_eq_some_iff.1 hj).1
      obtain ⟨b, hb⟩ := at_lt (l := m) (i := j) (by omega)
      have := hf (key, b) (List.mem_of_getElem? (List.getElem?_zip_eq_some.2 ⟨hj, hb⟩))
      simp at this
    simp [this]
  | some p =>
    have hp := List.find?_some hf
    simp only [decide_eq_true_eq] at hp
    obtain ⟨j, hj⟩ := List.mem_iff_getElem?.1 (List.mem_of_find?_eq_some hf)
    rw [List.getElem?_zip_eq_some] at hj
    rw [hp] at hj
    have hk : key ∈ l := List.mem_of_getElem? hj.1
    exact ⟨by simp [hk], fun _ => ⟨j, hj⟩, fun h => absurd hk h⟩
/-- What the law on finds asks. -/
theorem finds_ok {g : Gr} (hc : chk g = none) (i : Int) (key : Sc) :
    ((findOf (ndAt g.l i) key).2 = (keysOf (ndAt g.l i)).any fun y => decide (y = key)) ∧ ((findOf (ndAt g.l i) key).2 = false → (findOf (ndAt g.l i) key).1 = 0) ∧
      0 ≤ (findOf (ndAt g.l i) key).1 ∧ (findOf (ndAt g.l i) key).1 < g.l.length := by
  obtain ⟨h1, h2, h3⟩ := chk_ok hc
  have hany : ∀ x : Nd, ((keysOf x).any fun y => decide (y = key)) = decide (key ∈ keysOf x) := by
    intro x
    rw [Bool.eq_iff_iff]
    simp
  rw [hany]
  by_cases hi : 0 ≤ i ∧ i < g.l.length
  · have hr := h3 _ (node_at hi)
    generalize ndAt g.l i = x at hr ⊢
    have hm := keysOf_mem hr key
    unfold findOf
    by_cases hk : x.k = 2
    · obtain ⟨e1, e2, e3⟩ := map_right hr hk
      obtain ⟨f1, f2, f3⟩ := findIn_ok (key := key) e1
      rw [if_pos hk]
      by_cases hkey : key ∈ x.keys
      · obtain ⟨j, _, hj⟩ := f2 hkey
        have := e3 _ (List.mem_of_getElem? hj)
        exact ⟨by rw [f1]; simp [hm, hk, hkey], fun h => by rw [f1] at h; simp [hkey] at h, this.1, this.2⟩
      · have := f3 hkey
        exact ⟨by rw [f1]; simp [hm, hk, hkey], fun _ => this, by omega, by omega⟩
    · rw [if_neg hk]
      refine ⟨?_, fun _ => rfl, Int.le_refl _, by omega⟩
      have : key ∉ keysOf x := fun h => hk (hm.1 h).1
      simp [this]
  · rw [node_off hi]
    refine ⟨?_, fun _ => rfl, Int.le_refl _, ?_⟩
    · simp [findOf, keysOf, pairsOf, Nd.zero]
    · simp [findOf, Nd.zero]; omega

set_option maxHeartbeats 800000 in
theorem arena_finds (h : Env gp) (g : Gr) (i0 : Int) (key : Sc) : Does Go.Proofs.Tryd.prog gp 6 [g.v, vi i0, key.v] (vb true) := by
  refine f6_in ?_
  simp only [go_sem,reduceCtorEq,↓reduceIte,Qa,Qb,Qc,Qd,Qe,Qf,Qg,Qh,Qi,Qj,Qk,Ql,Qm,Qn,Qo,Qp,Qq,Qr]
  have c1 := chk_gr h g.cut
  by_cases hc : chk g.cut = none
  · rw [hc] at c1
    obtain ⟨f1, f2, f3, f4⟩ := finds_ok hc i0 key.cut
    have c2 := find_key (gp := gp) g.cut i0 key.cut g.cut_small
    have c3 := keys (gp := gp) g.cut i0 g.cut_small
    generalize (findOf (ndAt g.cut.l i0) key.cut).1 = n at *
    generalize (findOf (ndAt g.cut.l i0) key.cut).2 = ok at *
    generalize keysOf (ndAt g.cut.l i0) = l at *
    generalize atE g.cut.l i0 = e at *
    repeat' (first | refine Gx rfl ?_ | ((first | refine G_reg ?_ | refine VO_chk ?_ | refine VO_go ?_); simp only [f6_r0,f6_r1,f6_r2,f6_r3,f6_r4,f6_r5,f6_r6,f6_r12,f6_r13,f6_r14,f6_r15,f6_r16,f6_r21,f6_r23,f6_r29,go_sem,reduceCtorEq,↓reduceIte,Qa,Qb,Qc,Qd,Qe,Qf,Qg,Qh,Qi,Qj,Qk,Ql,Qm,Qn,Qo,Qp,Qq,Qr]) | refine VO_end ?_ | refine Sh.intro ?_ | refine ⟨_, shown_ok h, Sh.intro ?_⟩ | refine ⟨_, ⟨shown_ok h, rfl⟩, Sh.intro ?_⟩ | refine ⟨_, cut_gr g, Sh.intro ?_⟩ | refine ⟨_, ⟨cut_gr g, rfl⟩, Sh.intro ?_⟩ | refine ⟨_, cut_sc key, Sh.intro ?_⟩ | refine ⟨_, ⟨cut_sc key, rfl⟩, Sh.intro ?_⟩ | refine ⟨_, c1, Sh.intro ?_⟩ | refine ⟨_, ⟨c1, rfl⟩, Sh.intro ?_⟩ | refine ⟨_, c2, Sh.intro ?_⟩ | refine ⟨_, ⟨c2, rfl⟩, Sh.intro ?_⟩ | refine ⟨_, c3, Sh.intro ?_⟩ | refine ⟨_, ⟨c3, rfl⟩, Sh.intro ?_⟩ | (refine G_cond ?_; simp only [f6_r0,f6_r1,f6_r2,f6_r3,f6_r4,f6_r5,f6_r6,f6_r12,f6_r13,f6_r14,f6_r15,f6_r16,f6_r21,f6_r23,f6_r29,decide_eq_true_eq,decide_eq_false_iff_not,go_sem,reduceCtorEq,↓reduceIte,Qa,Qb,Qc,Qd,Qe,Qf,Qg,Qh,Qi,Qj,Qk,Ql,Qm,Qn,Qo,Qp,Qq,Qr]; first | refine ⟨fun _ => ?_, fun _ => ?_⟩ | skip) | refine And.intro (fun _ => ?_) (fun _ => ?_) | ((first | refine G_fin ?_ | refine G_ret rfl ?_); simp only [f6_r0,f6_r1,f6_r2,f6_r3,f6_r4,f6_r5,f6_r6,f6_r12,f6_r13,f6_r14,f6_r15,f6_r16,f6_r21,f6_r23,f6_r29,or_self,Qs,Qt,Qu,Qv,Qw,Qx,Qy,Qz,Za,go_sem,reduceCtorEq,↓reduceIte,Qa,Qb,Qc,Qd,Qe,Qf,Qg,Qh,Qi,Qj,Qk,Ql,Qm,Qn,Qo,Qp,Qq,Qr]))
    refine G_len 12 rfl fun hl => ?_
    simp only [List.length_map] at hl
    refine G_weak (fr 81 [(1, vi i0), (3, .one (.ptr 0 0)), (5, .one (.ptr 1 0)), (7, vb true), (10, vi n), (11, vb ok), (12, .one (.d (.sl (scs l)))), (14, vb ((l.take (0 : Nat)).any fun y => decide (y = key.cut))), (15, vi (0 : Nat))]) (by (simp only [go_sem,reduceCtorEq,↓reduceIte,Qa,Qb,Qc,Qd,Qe,Qf,Qg,Qh,Qi,Qj,Qk,Ql,Qm,Qn,Qo,Qp,Qq,Qr]; repeat' (first | refine And.intro ?_ ?_ | exact Or.inl rfl | exact Or.inr rfl | rfl))) ?_
    refine G_loop (fun mz sz => ∃ i : Nat, i ≤ l.length ∧ mz = l.length - i ∧ (0 ≤ i) ∧ sz = ⟨fr 81 [(1, vi i0), (3, .one (.ptr 0 0)), (5, .one (.ptr 1 0)), (7, vb true), (10, vi n), (11, vb ok), (12, .one (.d (.sl (scs l)))), (14, vb ((l.take i).any fun y => decide (y = key.cut))), (15, vi i)], [.cells g.cut.as, .cells key.cut.as]⟩) (l.length) ⟨0, Nat.zero_le _, (Nat.sub_zero _).symm, ?_, rfl⟩ ?_
    · exact Nat.zero_le _
    rintro _ _ ⟨i, hi, rfl, -, rfl⟩
    simp only [go_sem,reduceCtorEq,↓reduceIte,Qa,Qb,Qc,Qd,Qe,Qf,Qg,Qh,Qi,Qj,Qk,Ql,Qm,Qn,Qo,Qp,Qq,Qr]
    by_cases hil : i < l.length
    · obtain ⟨x, hx⟩ := at_lt hil
      have hstep : ((l.take (i + 1)).any fun y => decide (y = key.cut)) = (((l.take i).any fun y => decide (y = key.cut)) || decide (x = key.cut)) := by
        rw [List.take_succ, hx]; simp
      generalize ((l.take i).any fun y => decide (y = key.cut)) = b at hstep ⊢
      cases b with
      | false =>
        repeat' (first | refine Gw rfl ?_ | ((first | refine G_reg ?_ | refine VO_chk ?_ | refine VO_go ?_); simp only [f6_r0,f6_r1,f6_r2,f6_r3,f6_r4,f6_r5,f6_r6,f6_r12,f6_r13,f6_r14,f6_r15,f6_r16,f6_r21,f6_r23,f6_r29,sc_eq,go_sem,reduceCtorEq,↓reduceIte,Qa,Qb,Qc,Qd,Qe,Qf,Qg,Qh,Qi,Qj,Qk,Ql,Qm,Qn,Qo,Qp,Qq,Qr]) | refine VO_end ?_ | refine Sh.intro ?_ | refine ⟨_, ⟨Int.natCast_nonneg _, (by first | exact map_at hx | (rw [Int.toNat_natCast]; exact map_at hx)), rfl⟩, Sh.intro ?_⟩ | (refine G_cond ?_; simp only [f6_r0,f6_r1,f6_r2,f6_r3,f6_r4,f6_r5,f6_r6,f6_r12,f6_r13,f6_r14,f6_r15,f6_r16,f6_r21,f6_r23,f6_r29,sc_eq,decide_eq_true_eq,decide_eq_false_iff_not,go_sem,reduceCtorEq,↓reduceIte,Qa,Qb,Qc,Qd,Qe,Qf,Qg,Qh,Qi,Qj,Qk,Ql,Qm,Qn,Qo,Qp,Qq,Qr]; first | refine ⟨fun _ => ?_, fun _ => ?_⟩ | skip) | refine And.intro (fun _ => ?_) (fun _ => ?_) | ((first | refine G_fin ?_ | refine G_ret rfl ?_); simp only [f6_r0,f6_r1,f6_r2,f6_r3,f6_r4,f6_r5,f6_r6,f6_r12,f6_r13,f6_r14,f6_r15,f6_r16,f6_r21,f6_r23,f6_r29,sc_eq,or_self,Qs,Qt,Qu,Qv,Qw,Qx,Qy,Qz,Za,go_sem,reduceCtorEq,↓reduceIte,Qa,Qb,Qc,Qd,Qe,Qf,Qg,Qh,Qi,Qj,Qk,Ql,Qm,Qn,Qo,Qp,Qq,Qr]))
        all_goals first | (exfalso; omega) | skip
        refine ⟨inK_nat hil hl, ?_⟩
        rw [Bool.false_or] at hstep
        refine G_weak (fr 81 [(1, vi i0), (3, .one (.ptr 0 0)), (5, .one (.ptr 1 0)), (7, vb true), (10, vi n), (11, vb ok), (12, .one (.d (.sl (scs l)))), (14, vb (decide (x = key.cut))), (15, vi (i + 1))]) (by (simp only [go_sem,reduceCtorEq,↓reduceIte,Qa,Qb,Qc,Qd,Qe,Qf,Qg,Qh,Qi,Qj,Qk,Ql,Qm,Qn,Qo,Qp,Qq,Qr]; repeat' (first | refine And.intro ?_ ?_ | exact Or.inl rfl | exact Or.inr rfl | rfl))) ?_
        refine G_again ⟨l.length - (i + 1), by omega, i + 1, by omega, rfl, ?_, by rw [hstep]; rfl⟩
        exact Nat.zero_le _
      | true =>
        repeat' (first | refine Gw rfl ?_ | ((first | refine G_reg ?_ | refine VO_chk ?_ | refine VO_go ?_); simp only [f6_r0,f6_r1,f6_r2,f6_r3,f6_r4,f6_r5,f6_r6,f6_r12,f6_r13,f6_r14,f6_r15,f6_r16,f6_r21,f6_r23,f6_r29,sc_eq,go_sem,reduceCtorEq,↓reduceIte,Qa,Qb,Qc,Qd,Qe,Qf,Qg,Qh,Qi,Qj,Qk,Ql,Qm,Qn,Qo,Qp,Qq,Qr]) | refine VO_end ?_ | refine Sh.intro ?_ | refine ⟨_, ⟨Int.natCast_nonneg _, (by first | exact map_at hx | (rw [Int.toNat_natCast]; exact map_at hx)), rfl⟩, Sh.intro ?_⟩ | (refine G_cond ?_; simp only [f6_r0,f6_r1,f6_r2,f6_r3,f6_r4,f6_r5,f6_r6,f6_r12,f6_r13,f6_r14,f6_r15,f6_r16,f6_r21,f6_r23,f6_r29,sc_eq,decide_eq_true_eq,decide_eq_false_iff_not,go_sem,reduceCtorEq,↓reduceIte,Qa,Qb,Qc,Qd,Qe,Qf,Qg,Qh,Qi,Qj,Qk,Ql,Qm,Qn,Qo,Qp,Qq,Qr]; first | refine ⟨fun _ => ?_, fun _ => ?_⟩ | skip) | refine And.intro (fun _ => ?_) (fun _ => ?_) | ((first | refine G_fin ?_ | refine G_ret rfl ?_); simp only [f6_r0,f6_r1,f6_r2,f6_r3,f6_r4,f6_r5,f6_r6,f6_r12,f6_r13,f6_r14,f6_r15,f6_r16,f6_r21,f6_r23,f6_r29,sc_eq,or_self,Qs,Qt,Qu,Qv,Qw,Qx,Qy,Qz,Za,go_sem,reduceCtorEq,↓reduceIte,Qa,Qb,Qc,Qd,Qe,Qf,Qg,Qh,Qi,Qj,Qk,Ql,Qm,Qn,Qo,Qp,Qq,Qr]))
        all_goals first | (exfalso; omega) | skip
        refine ⟨inK_nat hil hl, ?_⟩
        rw [Bool.true_or] at hstep
        refine G_weak (fr 81 [(1, vi i0), (3, .one (.ptr 0 0)), (5, .one (.ptr 1 0)), (7, vb true), (10, vi n), (11, vb ok), (12, .one (.d (.sl (scs l)))), (14, vb true), (15, vi (i + 1))]) (by (simp only [go_sem,reduceCtorEq,↓reduceIte,Qa,Qb,Qc,Qd,Qe,Qf,Qg,Qh,Qi,Qj,Qk,Ql,Qm,Qn,Qo,Qp,Qq,Qr]; repeat' (first | refine And.intro ?_ ?_ | exact Or.inl rfl | exact Or.inr rfl | rfl))) ?_
        refine G_again ⟨l.length - (i + 1), by omega, i + 1, by omega, rfl, ?_, by rw [hstep]; rfl⟩
        exact Nat.zero_le _
    · obtain rfl : l.length = i := by omega
      rw [List.take_of_length_le (Nat.le_refl _)]
      rw [← f1]
      cases ok with
      | false =>
        obtain rfl := f2 rfl
        repeat' (first | refine Gx rfl ?_ | ((first | refine G_reg ?_ | refine VO_chk ?_ | refine VO_go ?_); simp only [f6_r0,f6_r1,f6_r2,f6_r3,f6_r4,f6_r5,f6_r6,f6_r12,f6_r13,f6_r14,f6_r15,f6_r16,f6_r21,f6_r23,f6_r29,go_sem,reduceCtorEq,↓reduceIte,Qa,Qb,Qc,Qd,Qe,Qf,Qg,Qh,Qi,Qj,Qk,Ql,Qm,Qn,Qo,Qp,Qq,Qr]) | refine VO_end ?_ | refine Sh.intro ?_ | (refine G_cond ?_; simp only [f6_r0,f6_r1,f6_r2,f6_r3,f6_r4,f6_r5,f6_r6,f6_r12,f6_r13,f6_r14,f6_r15,f6_r16,f6_r21,f6_r23,f6_r29,decide_eq_true_eq,decide_eq_false_iff_not,go_sem,reduceCtorEq,↓reduceIte,Qa,Qb,Qc,Qd,Qe,Qf,Qg,Qh,Qi,Qj,Qk,Ql,Qm,Qn,Qo,Qp,Qq,Qr]; first | refine ⟨fun _ => ?_, fun _ => ?_⟩ | skip) | refine And.intro (fun _ => ?_) (fun _ => ?_) | ((first | refine G_fin ?_ | refine G_ret rfl ?_); simp only [f6_r0,f6_r1,f6_r2,f6_r3,f6_r4,f6_r5,f6_r6,f6_r12,f6_r13,f6_r14,f6_r15,f6_r16,f6_r21,f6_r23,f6_r29,or_self,Qs,Qt,Qu,Qv,Qw,Qx,Qy,Qz,Za,go_sem,reduceCtorEq,↓reduceIte,Qa,Qb,Qc,Qd,Qe,Qf,Qg,Qh,Qi,Qj,Qk,Ql,Qm,Qn,Qo,Qp,Qq,Qr]))
        all_goals first | (exfalso; omega) | (simpa using f4) | (exfalso; simp_all; done) | (exfalso; simp at *; omega)
      | true =>
        repeat' (first | refine Gx rfl ?_ | ((first | refine G_reg ?_ | refine VO_chk ?_ | refine VO_go ?_); simp only [f6_r0,f6_r1,f6_r2,f6_r3,f6_r4,f6_r5,f6_r6,f6_r12,f6_r13,f6_r14,f6_r15,f6_r16,f6_r21,f6_r23,f6_r29,go_sem,reduceCtorEq,↓reduceIte,Qa,Qb,Qc,Qd,Qe,Qf,Qg,Qh,Qi,Qj,Qk,Ql,Qm,Qn,Qo,Qp,Qq,Qr]) | refine VO_end ?_ | refine Sh.intro ?_ | (refine G_cond ?_; simp only [f6_r0,f6_r1,f6_r2,f6_r3,f6_r4,f6_r5,f6_r6,f6_r12,f6_r13,f6_r14,f6_r15,f6_r16,f6_r21,f6_r23,f6_r29,decide_eq_true_eq,decide_eq_false_iff_not,go_sem,reduceCtorEq,↓reduceIte,Qa,Qb,Qc,Qd,Qe,Qf,Qg,Qh,Qi,Qj,Qk,Ql,Qm,Qn,Qo,Qp,Qq,Qr]; first | refine ⟨fun _ => ?_, fun _ => ?_⟩ | skip) | refine And.intro (fun _ => ?_) (fun _ => ?_) | ((first | refine G_fin ?_ | refine G_ret rfl ?_); simp only [f6_r0,f6_r1,f6_r2,f6_r3,f6_r4,f6_r5,f6_r6,f6_r12,f6_r13,f6_r14,f6_r15,f6_r16,f6_r21,f6_r23,f6_r29,or_self,Qs,Qt,Qu,Qv,Qw,Qx,Qy,Qz,Za,go_sem,reduceCtorEq,↓reduceIte,Qa,Qb,Qc,Qd,Qe,Qf,Qg,Qh,Qi,Qj,Qk,Ql,Qm,Qn,Qo,Qp,Qq,Qr]))
        all_goals first | (exfalso; omega) | (simpa using f4) | (exfalso; simp_all; done) | (exfalso; simp at *; omega)
  · obtain ⟨a, e, hs, he⟩ := chk_some hc
    rw [hs] at c1
    repeat' (first | refine Gx rfl ?_ | ((first | refine G_reg ?_ | refine VO_chk ?_ | refine VO_go ?_); simp only [f6_r0,f6_r1,f6_r2,f6_r3,f6_r4,f6_r5,f6_r6,f6_r12,f6_r13,f6_r14,f6_r15,f6_r16,f6_r21,f6_r23,f6_r29,go_sem,reduceCtorEq,↓reduceIte,Qa,Qb,Qc,Qd,Qe,Qf,Qg,Qh,Qi,Qj,Qk,Ql,Qm,Qn,Qo,Qp,Qq,Qr]) | refine VO_end ?_ | refine Sh.intro ?_ | refine ⟨_, shown_ok h, Sh.intro ?_⟩ | refine ⟨_, ⟨shown_ok h, rfl⟩, Sh.intro ?_⟩ | refine ⟨_, cut_gr g, Sh.intro ?_⟩ | refine ⟨_, ⟨cut_gr g, rfl⟩, Sh.intro ?_⟩ | refine ⟨_, cut_sc key, Sh.intro ?_⟩ | refine ⟨_, ⟨cut_sc key, rfl⟩, Sh.intro ?_⟩ | refine ⟨_, c1, Sh.intro ?_⟩ | refine ⟨_, ⟨c1, rfl⟩, Sh.intro ?_⟩ | (refine G_cond ?_; simp only [f6_r0,f6_r1,f6_r2,f6_r3,f6_r4,f6_r5,f6_r6,f6_r12,f6_r13,f6_r14,f6_r15,f6_r16,f6_r21,f6_r23,f6_r29,decide_eq_true_eq,decide_eq_false_iff_not,go_sem,reduceCtorEq,↓reduceIte,Qa,Qb,Qc,Qd,Qe,Qf,Qg,Qh,Qi,Qj,Qk,Ql,Qm,Qn,Qo,Qp,Qq,Qr]; first | refine ⟨fun _ => ?_, fun _ => ?_⟩ | skip) | refine And.intro (fun _ => ?_) (fun _ => ?_) | ((first | refine G_fin ?_ | refine G_ret rfl ?_); simp only [f6_r0,f6_r1,f6_r2,f6_r3,f6_r4,f6_r5,f6_r6,f6_r12,f6_r13,f6_r14,f6_r15,f6_r16,f6_r21,f6_r23,f6_r29,or_self,Qs,Qt,Qu,Qv,Qw,Qx,Qy,Qz,Za,go_sem,reduceCtorEq,↓reduceIte,Qa,Qb,Qc,Qd,Qe,Qf,Qg,Qh,Qi,Qj,Qk,Ql,Qm,Qn,Qo,Qp,Qq,Qr]))
    all_goals (exfalso; simp_all)
end Go.Fw.L07
