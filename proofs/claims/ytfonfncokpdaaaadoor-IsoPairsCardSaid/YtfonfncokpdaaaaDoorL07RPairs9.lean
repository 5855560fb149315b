/- Chapter 9: the law IsoPairs. -/
import Derived.Test.YtfonfncokpdaaaaDoorIb
set_option linter.all false
namespace Go.Fw.L07
open Go Go.Fw
open Nat renaming reduceAdd → Qa, reduceSub → Qb, reduceMul → Qc, reduceLeDiff → Qd, reduceLT → Qe, reduceEqDiff → Qf
open Int renaming reduceToNat → Qg, reduceLT → Qh, reduceLE → Qi, reduceGT → Qj, reduceGE → Qk, reduceEq → Ql, reduceNe → Qm, reduceBEq → Qn, reduceBNe → Qo, reduceAdd → Qp, reduceSub → Qq, reduceNeg → Qr
open Go.Fw.V.one renaming injEq → Qs
open Go.Fw.V.agg renaming injEq → Qt
open Go.Fw.V.tup renaming injEq → Qu
open Go.Fw.A.d renaming injEq → Qv
open Go.Fw.D.bool renaming injEq → Qw
open Go.Fw.D.int renaming injEq → Qx
open Go.Fw.D.str renaming injEq → Qy
open Go.Fw.D.sl renaming injEq → Qz
open List.cons renaming injEq → Za
set_option maxRecDepth 4000
variable {gp : Heap} {ua : Addr}
structure PairsOK (q r : Gr) (W : List Pp) (ok : Bool) : Prop where
  pos : 0 < W.length
  head : W[0]? = some (q.root, r.root)
  inn : ∀ p ∈ W, (0 ≤ p.1 ∧ p.1 < q.l.length) ∧ (0 ≤ p.2 ∧ p.2 < r.l.length)
  fit : ∀ (i : Nat) (p : Pp), W[i]? = some p → fitP q r p = (decide ((i : Int) < (W.length : Int) - 1) || ok)
  ne : ∀ (i k : Nat) (p s : Pp), k < i → W[i]? = some p → W[k]? = some s → s ≠ p
  len : W.length ≤ 200000
theorem pairs_ok {q r : Gr} (gq : Good q) (gr : Good r) : PairsOK q r (pairsG q r).1 (pairsG q r).2 := by
  have hw := pairs_pw gq gr
  have hl := prG_len gq.s gr.s
  rw [prG_good gq gr] at hl
  have hin := pairs_in gq gr
  have hn := hw.nodup (by simp)
  have hhead : (pairsG q r).1[0]? = some (q.root, r.root) := by
    by_cases hf : fitP q r (q.root, r.root) = true
    · obtain ⟨t, ht⟩ := (hw.step_inv (by simp) hf).pre
      rw [ht]; rfl
    · have := (hw.stop_inv (by simp) (by simpa using hf)).1
      rw [this]; rfl
  have hfit := hw.fits (by simp)
  generalize (pairsG q r).1 = W at *
  generalize (pairsG q r).2 = ok at *
  refine ⟨(List.getElem?_eq_some_iff.1 hhead).1, hhead, hin, fun i p hp => ?_, fun i k p s hki hp hs e => ?_, hl⟩
  · have hil := (List.getElem?_eq_some_iff.1 hp).1
    rcases hfit with ⟨rfl, h1⟩ | ⟨rfl, v, z, rfl, h2, h3⟩
    · rw [h1 p (List.mem_of_getElem? hp), Bool.or_true]
    · rw [Bool.or_false]
      simp only [List.length_append, List.length_cons, List.length_nil] at hil ⊢
      by_cases h : i < v.length
      · rw [List.getElem?_append_left h] at hp
        rw [h3 p (List.mem_of_getElem? hp), decide_eq_true (by omega)]
      · have : i = v.length := by omega
        subst this
        rw [List.getElem?_append_right (Nat.le_refl _), Nat.sub_self] at hp
        cases hp
        rw [h2, decide_eq_false (by omega)]
  · obtain ⟨g1, g2⟩ := List.getElem?_eq_some_iff.1 hp
    obtain ⟨g3, g4⟩ := List.getElem?_eq_some_iff.1 hs
    exact (List.pairwise_iff_getElem.1 hn k i g3 g1 hki) (g4.trans (e.trans g2.symm))
set_option maxHeartbeats 2000000 in
theorem iso_pairs (h9 : Env9 gp ua) (g h : Gr) : Does Go.Proofs.Tryd.prog gp 5 [g.v, h.v] (vb true) := by
  refine f5_in ?_
  simp only [go_sem,reduceCtorEq,↓reduceIte,Qa,Qb,Qc,Qd,Qe,Qf,Qg,Qh,Qi,Qj,Qk,Ql,Qm,Qn,Qo,Qp,Qq,Qr]
  have cs := shown9_ok h9
  have cg := small9 (gp := gp) g 30
  have ch := small9 (gp := gp) h 30
  have hs := smallG_small g 30
  have hs' := smallG_small h 30
  generalize smallG g 30 = q at *
  generalize smallG h 30 = r at *
  have c1 := pairs_gr h9 q r hs hs'
  by_cases hc : chk q = none ∧ chk r = none
  · have gq : Good q := ⟨hc.1, hs⟩
    have gr : Good r := ⟨hc.2, hs'⟩
    rw [prG_good gq gr, checkE_good gq gr] at c1
    obtain ⟨p1, p2, p3, p4, p5, p6⟩ := pairs_ok gq gr
    have cf := fun (i j : Nat) h1 h2 => fit9 (gp := gp) q r i j hs hs' h1 h2
    generalize (pairsG q r).1 = W at *
    generalize (pairsG q r).2 = ok at *
    repeat' (first | refine Gx rfl ?_ | ((first | refine G_reg ?_ | refine G_regv ?_ | refine VO_chk ?_ | refine VO_go ?_ | refine VO_gx ?_); simp only [f5_r0,f5_r1,f5_r2,f5_r3,f5_r4,f5_r5,f5_r6,f5_r12,f5_r13,f5_r18,f5_r19,f5_r25,f5_r26,f5_r27,f5_r33,f5_r34,f5_r39,f5_r40,f5_r47,f5_r57,f5_r63,go_sem,reduceCtorEq,↓reduceIte,Qa,Qb,Qc,Qd,Qe,Qf,Qg,Qh,Qi,Qj,Qk,Ql,Qm,Qn,Qo,Qp,Qq,Qr]) | refine VO_end ?_ | refine Sh.intro ?_ | refine ⟨_, cs, Sh.intro ?_⟩ | refine ⟨_, ⟨cs, rfl⟩, Sh.intro ?_⟩ | refine ⟨_, cg, Sh.intro ?_⟩ | refine ⟨_, ⟨cg, rfl⟩, Sh.intro ?_⟩ | refine ⟨_, ch, Sh.intro ?_⟩ | refine ⟨_, ⟨ch, rfl⟩, Sh.intro ?_⟩ | refine ⟨_, c1, Sh.intro ?_⟩ | refine ⟨_, ⟨c1, rfl⟩, Sh.intro ?_⟩ | (refine G_cond ?_; simp only [f5_r0,f5_r1,f5_r2,f5_r3,f5_r4,f5_r5,f5_r6,f5_r12,f5_r13,f5_r18,f5_r19,f5_r25,f5_r26,f5_r27,f5_r33,f5_r34,f5_r39,f5_r40,f5_r47,f5_r57,f5_r63,go_sem,reduceCtorEq,↓reduceIte,Qa,Qb,Qc,Qd,Qe,Qf,Qg,Qh,Qi,Qj,Qk,Ql,Qm,Qn,Qo,Qp,Qq,Qr]; first | (refine ⟨fun _ => ?_, fun _ => ?_⟩ <;> try (exfalso; omega)) | skip) | (refine And.intro (fun _ => ?_) (fun _ => ?_) <;> try (exfalso; omega)) | ((first | refine G_fin ?_ | refine G_ret rfl ?_); simp only [f5_r0,f5_r1,f5_r2,f5_r3,f5_r4,f5_r5,f5_r6,f5_r12,f5_r13,f5_r18,f5_r19,f5_r25,f5_r26,f5_r27,f5_r33,f5_r34,f5_r39,f5_r40,f5_r47,f5_r57,f5_r63,or_self,Qs,Qt,Qu,Qv,Qw,Qx,Qy,Qz,Za,go_sem,reduceCtorEq,↓reduceIte,Qa,Qb,Qc,Qd,Qe,Qf,Qg,Qh,Qi,Qj,Qk,Ql,Qm,Qn,Qo,Qp,Qq,Qr]))
    refine G_weak (fr 132 [(2, .one (.ptr 0 0)), (3, .one (.ptr 1 0)), (5, vb true), (6, .one (.d (.sl (pps W)))), (7, vb ok), (9, vi (0 : Nat))]) (by (simp only [go_sem,reduceCtorEq,↓reduceIte,Qa,Qb,Qc,Qd,Qe,Qf,Qg,Qh,Qi,Qj,Qk,Ql,Qm,Qn,Qo,Qp,Qq,Qr]; repeat' (first | refine And.intro ?_ ?_ | exact Or.inl rfl | exact Or.inr rfl | rfl))) ?_
    refine G_loop (fun mz sz => ∃ i : Nat, i ≤ W.length ∧ mz = W.length - i ∧ (0 ≤ i) ∧ sz = ⟨fr 132 [(2, .one (.ptr 0 0)), (3, .one (.ptr 1 0)), (5, vb true), (6, .one (.d (.sl (pps W)))), (7, vb ok), (9, vi i)], [.cells q.as, .cells r.as]⟩) (W.length) ⟨0, Nat.zero_le _, (Nat.sub_zero _).symm, ?_, rfl⟩ ?_
    · exact Nat.zero_le _
    rintro _ _ ⟨i, hi, rfl, -, rfl⟩
    simp only [go_sem,reduceCtorEq,↓reduceIte,Qa,Qb,Qc,Qd,Qe,Qf,Qg,Qh,Qi,Qj,Qk,Ql,Qm,Qn,Qo,Qp,Qq,Qr]
    by_cases hil : i < W.length
    · obtain ⟨p, hp⟩ := at_lt hil
      have hin := p3 p (List.mem_of_getElem? hp)
      have hf := p4 i p hp
      have hne := fun k s hk hsk => p5 i k p s hk hp hsk
      obtain ⟨a, b⟩ := p
      dsimp only at hin
      obtain ⟨a, rfl⟩ := Int.eq_ofNat_of_zero_le hin.1.1
      obtain ⟨b, rfl⟩ := Int.eq_ofNat_of_zero_le hin.2.1
      have c2 := cf a b (by omega) (by omega)
      rw [hf] at c2
      have hd : inK .i64 ((W.length : Int) - 1) := inK_dec (by unfold lenMax; omega)
      by_cases hlast : (i : Int) < (W.length : Int) - 1
      · rw [decide_eq_true hlast, Bool.true_or] at c2
        repeat' (first | refine Gx rfl ?_ | ((first | refine G_reg ?_ | refine G_regv ?_ | refine VO_chk ?_ | refine VO_go ?_ | refine VO_gx ?_); simp only [f5_r0,f5_r1,f5_r2,f5_r3,f5_r4,f5_r5,f5_r6,f5_r12,f5_r13,f5_r18,f5_r19,f5_r25,f5_r26,f5_r27,f5_r33,f5_r34,f5_r39,f5_r40,f5_r47,f5_r57,f5_r63,go_sem,reduceCtorEq,↓reduceIte,Qa,Qb,Qc,Qd,Qe,Qf,Qg,Qh,Qi,Qj,Qk,Ql,Qm,Qn,Qo,Qp,Qq,Qr]) | refine VO_end ?_ | refine Sh.intro ?_ | refine ⟨_, c2, Sh.intro ?_⟩ | refine ⟨_, ⟨c2, rfl⟩, Sh.intro ?_⟩ | refine ⟨_, ⟨Int.natCast_nonneg _, (by first | exact map_at hp | (rw [Int.toNat_natCast]; exact map_at hp)), rfl⟩, Sh.intro ?_⟩ | refine ⟨hd, ?_⟩ | (refine G_cond ?_; simp only [f5_r0,f5_r1,f5_r2,f5_r3,f5_r4,f5_r5,f5_r6,f5_r12,f5_r13,f5_r18,f5_r19,f5_r25,f5_r26,f5_r27,f5_r33,f5_r34,f5_r39,f5_r40,f5_r47,f5_r57,f5_r63,go_sem,reduceCtorEq,↓reduceIte,Qa,Qb,Qc,Qd,Qe,Qf,Qg,Qh,Qi,Qj,Qk,Ql,Qm,Qn,Qo,Qp,Qq,Qr]; first | (refine ⟨fun _ => ?_, fun _ => ?_⟩ <;> try (exfalso; omega)) | skip) | (refine And.intro (fun _ => ?_) (fun _ => ?_) <;> try (exfalso; omega)) | ((first | refine G_fin ?_ | refine G_ret rfl ?_); simp only [f5_r0,f5_r1,f5_r2,f5_r3,f5_r4,f5_r5,f5_r6,f5_r12,f5_r13,f5_r18,f5_r19,f5_r25,f5_r26,f5_r27,f5_r33,f5_r34,f5_r39,f5_r40,f5_r47,f5_r57,f5_r63,or_self,Qs,Qt,Qu,Qv,Qw,Qx,Qy,Qz,Za,go_sem,reduceCtorEq,↓reduceIte,Qa,Qb,Qc,Qd,Qe,Qf,Qg,Qh,Qi,Qj,Qk,Ql,Qm,Qn,Qo,Qp,Qq,Qr]))
        all_goals first | (exfalso; omega) | skip
        refine G_weak (fr 132 [(2, .one (.ptr 0 0)), (3, .one (.ptr 1 0)), (5, vb true), (6, .one (.d (.sl (pps W)))), (7, vb ok), (9, vi i), (11, vi (0 : Nat))]) (by (simp only [go_sem,reduceCtorEq,↓reduceIte,Qa,Qb,Qc,Qd,Qe,Qf,Qg,Qh,Qi,Qj,Qk,Ql,Qm,Qn,Qo,Qp,Qq,Qr]; repeat' (first | refine And.intro ?_ ?_ | exact Or.inl rfl | exact Or.inr rfl | rfl))) ?_
        refine G_loop (fun mz sz => ∃ j : Nat, j ≤ i ∧ mz = i - j ∧ (0 ≤ j) ∧ sz = ⟨fr 132 [(2, .one (.ptr 0 0)), (3, .one (.ptr 1 0)), (5, vb true), (6, .one (.d (.sl (pps W)))), (7, vb ok), (9, vi i), (11, vi j)], [.cells q.as, .cells r.as]⟩) (i) ⟨0, Nat.zero_le _, (Nat.sub_zero _).symm, ?_, rfl⟩ ?_
        · exact Nat.zero_le _
        rintro _ _ ⟨j, hj, rfl, -, rfl⟩
        simp only [go_sem,reduceCtorEq,↓reduceIte,Qa,Qb,Qc,Qd,Qe,Qf,Qg,Qh,Qi,Qj,Qk,Ql,Qm,Qn,Qo,Qp,Qq,Qr]
        by_cases hjl : j < i
        · obtain ⟨s, hsj⟩ := at_lt (l := W) (i := j) (by omega)
          have hq : (s.1 == (a : Int) && s.2 == (b : Int)) = false := by
            rw [pp_eq s ((a : Int), (b : Int))]
            exact decide_eq_false (hne j s hjl hsj)
          repeat' (first | refine Gx rfl ?_ | ((first | refine G_reg ?_ | refine G_regv ?_ | refine VO_chk ?_ | refine VO_go ?_ | refine VO_gx ?_); simp only [f5_r0,f5_r1,f5_r2,f5_r3,f5_r4,f5_r5,f5_r6,f5_r12,f5_r13,f5_r18,f5_r19,f5_r25,f5_r26,f5_r27,f5_r33,f5_r34,f5_r39,f5_r40,f5_r47,f5_r57,f5_r63,hq,go_sem,reduceCtorEq,↓reduceIte,Qa,Qb,Qc,Qd,Qe,Qf,Qg,Qh,Qi,Qj,Qk,Ql,Qm,Qn,Qo,Qp,Qq,Qr]) | refine VO_end ?_ | refine Sh.intro ?_ | refine ⟨_, ⟨Int.natCast_nonneg _, (by first | exact map_at hp | (rw [Int.toNat_natCast]; exact map_at hp)), rfl⟩, Sh.intro ?_⟩ | refine ⟨_, ⟨Int.natCast_nonneg _, (by first | exact map_at hsj | (rw [Int.toNat_natCast]; exact map_at hsj)), rfl⟩, Sh.intro ?_⟩ | (refine G_cond ?_; simp only [f5_r0,f5_r1,f5_r2,f5_r3,f5_r4,f5_r5,f5_r6,f5_r12,f5_r13,f5_r18,f5_r19,f5_r25,f5_r26,f5_r27,f5_r33,f5_r34,f5_r39,f5_r40,f5_r47,f5_r57,f5_r63,hq,go_sem,reduceCtorEq,↓reduceIte,Qa,Qb,Qc,Qd,Qe,Qf,Qg,Qh,Qi,Qj,Qk,Ql,Qm,Qn,Qo,Qp,Qq,Qr]; first | (refine ⟨fun _ => ?_, fun _ => ?_⟩ <;> try (exfalso; omega)) | skip) | (refine And.intro (fun _ => ?_) (fun _ => ?_) <;> try (exfalso; omega)) | ((first | refine G_fin ?_ | refine G_ret rfl ?_); simp only [f5_r0,f5_r1,f5_r2,f5_r3,f5_r4,f5_r5,f5_r6,f5_r12,f5_r13,f5_r18,f5_r19,f5_r25,f5_r26,f5_r27,f5_r33,f5_r34,f5_r39,f5_r40,f5_r47,f5_r57,f5_r63,hq,or_self,Qs,Qt,Qu,Qv,Qw,Qx,Qy,Qz,Za,go_sem,reduceCtorEq,↓reduceIte,Qa,Qb,Qc,Qd,Qe,Qf,Qg,Qh,Qi,Qj,Qk,Ql,Qm,Qn,Qo,Qp,Qq,Qr]))
          all_goals first | (exfalso; omega) | skip
          refine ⟨inK_nat hjl (by unfold lenMax; omega), ?_⟩
          refine G_weak (fr 132 [(2, .one (.ptr 0 0)), (3, .one (.ptr 1 0)), (5, vb true), (6, .one (.d (.sl (pps W)))), (7, vb ok), (9, vi i), (11, vi (j + 1))]) (by (simp only [go_sem,reduceCtorEq,↓reduceIte,Qa,Qb,Qc,Qd,Qe,Qf,Qg,Qh,Qi,Qj,Qk,Ql,Qm,Qn,Qo,Qp,Qq,Qr]; repeat' (first | refine And.intro ?_ ?_ | exact Or.inl rfl | exact Or.inr rfl | rfl))) ?_
          refine G_again ⟨i - (j + 1), by omega, j + 1, by omega, rfl, ?_, rfl⟩
          exact Nat.zero_le _
        · obtain rfl : i = j := by omega
          repeat' (first | refine Gx rfl ?_ | ((first | refine G_reg ?_ | refine G_regv ?_ | refine VO_chk ?_ | refine VO_go ?_ | refine VO_gx ?_); simp only [f5_r0,f5_r1,f5_r2,f5_r3,f5_r4,f5_r5,f5_r6,f5_r12,f5_r13,f5_r18,f5_r19,f5_r25,f5_r26,f5_r27,f5_r33,f5_r34,f5_r39,f5_r40,f5_r47,f5_r57,f5_r63,go_sem,reduceCtorEq,↓reduceIte,Qa,Qb,Qc,Qd,Qe,Qf,Qg,Qh,Qi,Qj,Qk,Ql,Qm,Qn,Qo,Qp,Qq,Qr]) | refine VO_end ?_ | refine Sh.intro ?_ | (refine G_cond ?_; simp only [f5_r0,f5_r1,f5_r2,f5_r3,f5_r4,f5_r5,f5_r6,f5_r12,f5_r13,f5_r18,f5_r19,f5_r25,f5_r26,f5_r27,f5_r33,f5_r34,f5_r39,f5_r40,f5_r47,f5_r57,f5_r63,go_sem,reduceCtorEq,↓reduceIte,Qa,Qb,Qc,Qd,Qe,Qf,Qg,Qh,Qi,Qj,Qk,Ql,Qm,Qn,Qo,Qp,Qq,Qr]; first | (refine ⟨fun _ => ?_, fun _ => ?_⟩ <;> try (exfalso; omega)) | skip) | (refine And.intro (fun _ => ?_) (fun _ => ?_) <;> try (exfalso; omega)) | ((first | refine G_fin ?_ | refine G_ret rfl ?_); simp only [f5_r0,f5_r1,f5_r2,f5_r3,f5_r4,f5_r5,f5_r6,f5_r12,f5_r13,f5_r18,f5_r19,f5_r25,f5_r26,f5_r27,f5_r33,f5_r34,f5_r39,f5_r40,f5_r47,f5_r57,f5_r63,or_self,Qs,Qt,Qu,Qv,Qw,Qx,Qy,Qz,Za,go_sem,reduceCtorEq,↓reduceIte,Qa,Qb,Qc,Qd,Qe,Qf,Qg,Qh,Qi,Qj,Qk,Ql,Qm,Qn,Qo,Qp,Qq,Qr]))
          all_goals first | (exfalso; omega) | skip
          refine ⟨inK_nat hil (by unfold lenMax; omega), ?_⟩
          refine G_weak (fr 132 [(2, .one (.ptr 0 0)), (3, .one (.ptr 1 0)), (5, vb true), (6, .one (.d (.sl (pps W)))), (7, vb ok), (9, vi (i + 1))]) (by (simp only [go_sem,reduceCtorEq,↓reduceIte,Qa,Qb,Qc,Qd,Qe,Qf,Qg,Qh,Qi,Qj,Qk,Ql,Qm,Qn,Qo,Qp,Qq,Qr]; repeat' (first | refine And.intro ?_ ?_ | exact Or.inl rfl | exact Or.inr rfl | rfl))) ?_
          refine G_again ⟨W.length - (i + 1), by omega, i + 1, by omega, rfl, ?_, rfl⟩
          exact Nat.zero_le _
      · rw [decide_eq_false hlast, Bool.false_or] at c2
        repeat' (first | refine Gx rfl ?_ | ((first | refine G_reg ?_ | refine G_regv ?_ | refine VO_chk ?_ | refine VO_go ?_ | refine VO_gx ?_); simp only [f5_r0,f5_r1,f5_r2,f5_r3,f5_r4,f5_r5,f5_r6,f5_r12,f5_r13,f5_r18,f5_r19,f5_r25,f5_r26,f5_r27,f5_r33,f5_r34,f5_r39,f5_r40,f5_r47,f5_r57,f5_r63,go_sem,reduceCtorEq,↓reduceIte,Qa,Qb,Qc,Qd,Qe,Qf,Qg,Qh,Qi,Qj,Qk,Ql,Qm,Qn,Qo,Qp,Qq,Qr]) | refine VO_end ?_ | refine Sh.intro ?_ | refine ⟨_, c2, Sh.intro ?_⟩ | refine ⟨_, ⟨c2, rfl⟩, Sh.intro ?_⟩ | refine ⟨_, ⟨Int.natCast_nonneg _, (by first | exact map_at hp | (rw [Int.toNat_natCast]; exact map_at hp)), rfl⟩, Sh.intro ?_⟩ | refine ⟨hd, ?_⟩ | (refine G_cond ?_; simp only [f5_r0,f5_r1,f5_r2,f5_r3,f5_r4,f5_r5,f5_r6,f5_r12,f5_r13,f5_r18,f5_r19,f5_r25,f5_r26,f5_r27,f5_r33,f5_r34,f5_r39,f5_r40,f5_r47,f5_r57,f5_r63,go_sem,reduceCtorEq,↓reduceIte,Qa,Qb,Qc,Qd,Qe,Qf,Qg,Qh,Qi,Qj,Qk,Ql,Qm,Qn,Qo,Qp,Qq,Qr]; first | (refine ⟨fun _ => ?_, fun _ => ?_⟩ <;> try (exfalso; omega)) | skip) | (refine And.intro (fun _ => ?_) (fun _ => ?_) <;> try (exfalso; omega)) | ((first | refine G_fin ?_ | refine G_ret rfl ?_); simp only [f5_r0,f5_r1,f5_r2,f5_r3,f5_r4,f5_r5,f5_r6,f5_r12,f5_r13,f5_r18,f5_r19,f5_r25,f5_r26,f5_r27,f5_r33,f5_r34,f5_r39,f5_r40,f5_r47,f5_r57,f5_r63,or_self,Qs,Qt,Qu,Qv,Qw,Qx,Qy,Qz,Za,go_sem,reduceCtorEq,↓reduceIte,Qa,Qb,Qc,Qd,Qe,Qf,Qg,Qh,Qi,Qj,Qk,Ql,Qm,Qn,Qo,Qp,Qq,Qr]))
        all_goals first | (exfalso; omega) | skip
        refine G_weak (fr 132 [(2, .one (.ptr 0 0)), (3, .one (.ptr 1 0)), (5, vb true), (6, .one (.d (.sl (pps W)))), (7, vb ok), (9, vi i), (11, vi (0 : Nat))]) (by (simp only [go_sem,reduceCtorEq,↓reduceIte,Qa,Qb,Qc,Qd,Qe,Qf,Qg,Qh,Qi,Qj,Qk,Ql,Qm,Qn,Qo,Qp,Qq,Qr]; repeat' (first | refine And.intro ?_ ?_ | exact Or.inl rfl | exact Or.inr rfl | rfl))) ?_
        refine G_loop (fun mz sz => ∃ j : Nat, j ≤ i ∧ mz = i - j ∧ (0 ≤ j) ∧ sz = ⟨fr 132 [(2, .one (.ptr 0 0)), (3, .one (.ptr 1 0)), (5, vb true), (6, .one (.d (.sl (pps W)))), (7, vb ok), (9, vi i), (11, vi j)], [.cells q.as, .cells r.as]⟩) (i) ⟨0, Nat.zero_le _, (Nat.sub_zero _).symm, ?_, rfl⟩ ?_
        · exact Nat.zero_le _
        rintro _ _ ⟨j, hj, rfl, -, rfl⟩
        simp only [go_sem,reduceCtorEq,↓reduceIte,Qa,Qb,Qc,Qd,Qe,Qf,Qg,Qh,Qi,Qj,Qk,Ql,Qm,Qn,Qo,Qp,Qq,Qr]
        by_cases hjl : j < i
        · obtain ⟨s, hsj⟩ := at_lt (l := W) (i := j) (by omega)
          have hq : (s.1 == (a : Int) && s.2 == (b : Int)) = false := by
            rw [pp_eq s ((a : Int), (b : Int))]
            exact decide_eq_false (hne j s hjl hsj)
          repeat' (first | refine Gx rfl ?_ | ((first | refine G_reg ?_ | refine G_regv ?_ | refine VO_chk ?_ | refine VO_go ?_ | refine VO_gx ?_); simp only [f5_r0,f5_r1,f5_r2,f5_r3,f5_r4,f5_r5,f5_r6,f5_r12,f5_r13,f5_r18,f5_r19,f5_r25,f5_r26,f5_r27,f5_r33,f5_r34,f5_r39,f5_r40,f5_r47,f5_r57,f5_r63,hq,go_sem,reduceCtorEq,↓reduceIte,Qa,Qb,Qc,Qd,Qe,Qf,Qg,Qh,Qi,Qj,Qk,Ql,Qm,Qn,Qo,Qp,Qq,Qr]) | refine VO_end ?_ | refine Sh.intro ?_ | refine ⟨_, ⟨Int.natCast_nonneg _, (by first | exact map_at hp | (rw [Int.toNat_natCast]; exact map_at hp)), rfl⟩, Sh.intro ?_⟩ | refine ⟨_, ⟨Int.natCast_nonneg _, (by first | exact map_at hsj | (rw [Int.toNat_natCast]; exact map_at hsj)), rfl⟩, Sh.intro ?_⟩ | (refine G_cond ?_; simp only [f5_r0,f5_r1,f5_r2,f5_r3,f5_r4,f5_r5,f5_r6,f5_r12,f5_r13,f5_r18,f5_r19,f5_r25,f5_r26,f5_r27,f5_r33,f5_r34,f5_r39,f5_r40,f5_r47,f5_r57,f5_r63,hq,go_sem,reduceCtorEq,↓reduceIte,Qa,Qb,Qc,Qd,Qe,Qf,Qg,Qh,Qi,Qj,Qk,Ql,Qm,Qn,Qo,Qp,Qq,Qr]; first | (refine ⟨fun _ => ?_, fun _ => ?_⟩ <;> try (exfalso; omega)) | skip) | (refine And.intro (fun _ => ?_) (fun _ => ?_) <;> try (exfalso; omega)) | ((first | refine G_fin ?_ | refine G_ret rfl ?_); simp only [f5_r0,f5_r1,f5_r2,f5_r3,f5_r4,f5_r5,f5_r6,f5_r12,f5_r13,f5_r18,f5_r19,f5_r25,f5_r26,f5_r27,f5_r33,f5_r34,f5_r39,f5_r40,f5_r47,f5_r57,f5_r63,hq,or_self,Qs,Qt,Qu,Qv,Qw,Qx,Qy,Qz,Za,go_sem,reduceCtorEq,↓reduceIte,Qa,Qb,Qc,Qd,Qe,Qf,Qg,Qh,Qi,Qj,Qk,Ql,Qm,Qn,Qo,Qp,Qq,Qr]))
          all_goals first | (exfalso; omega) | skip
          refine ⟨inK_nat hjl (by unfold lenMax; omega), ?_⟩
          refine G_weak (fr 132 [(2, .one (.ptr 0 0)), (3, .one (.ptr 1 0)), (5, vb true), (6, .one (.d (.sl (pps W)))), (7, vb ok), (9, vi i), (11, vi (j + 1))]) (by (simp only [go_sem,reduceCtorEq,↓reduceIte,Qa,Qb,Qc,Qd,Qe,Qf,Qg,Qh,Qi,Qj,Qk,Ql,Qm,Qn,Qo,Qp,Qq,Qr]; repeat' (first | refine And.intro ?_ ?_ | exact Or.inl rfl | exact Or.inr rfl | rfl))) ?_
          refine G_again ⟨i - (j + 1), by omega, j + 1, by omega, rfl, ?_, rfl⟩
          exact Nat.zero_le _
        · obtain rfl : i = j := by omega
          repeat' (first | refine Gx rfl ?_ | ((first | refine G_reg ?_ | refine G_regv ?_ | refine VO_chk ?_ | refine VO_go ?_ | refine VO_gx ?_); simp only [f5_r0,f5_r1,f5_r2,f5_r3,f5_r4,f5_r5,f5_r6,f5_r12,f5_r13,f5_r18,f5_r19,f5_r25,f5_r26,f5_r27,f5_r33,f5_r34,f5_r39,f5_r40,f5_r47,f5_r57,f5_r63,go_sem,reduceCtorEq,↓reduceIte,Qa,Qb,Qc,Qd,Qe,Qf,Qg,Qh,Qi,Qj,Qk,Ql,Qm,Qn,Qo,Qp,Qq,Qr]) | refine VO_end ?_ | refine Sh.intro ?_ | (refine G_cond ?_; simp only [f5_r0,f5_r1,f5_r2,f5_r3,f5_r4,f5_r5,f5_r6,f5_r12,f5_r13,f5_r18,f5_r19,f5_r25,f5_r26,f5_r27,f5_r33,f5_r34,f5_r39,f5_r40,f5_r47,f5_r57,f5_r63,go_sem,reduceCtorEq,↓reduceIte,Qa,Qb,Qc,Qd,Qe,Qf,Qg,Qh,Qi,Qj,Qk,Ql,Qm,Qn,Qo,Qp,Qq,Qr]; first | (refine ⟨fun _ => ?_, fun _ => ?_⟩ <;> try (exfalso; omega)) | skip) | (refine And.intro (fun _ => ?_) (fun _ => ?_) <;> try (exfalso; omega)) | ((first | refine G_fin ?_ | refine G_ret rfl ?_); simp only [f5_r0,f5_r1,f5_r2,f5_r3,f5_r4,f5_r5,f5_r6,f5_r12,f5_r13,f5_r18,f5_r19,f5_r25,f5_r26,f5_r27,f5_r33,f5_r34,f5_r39,f5_r40,f5_r47,f5_r57,f5_r63,or_self,Qs,Qt,Qu,Qv,Qw,Qx,Qy,Qz,Za,go_sem,reduceCtorEq,↓reduceIte,Qa,Qb,Qc,Qd,Qe,Qf,Qg,Qh,Qi,Qj,Qk,Ql,Qm,Qn,Qo,Qp,Qq,Qr]))
          all_goals first | (exfalso; omega) | skip
          refine ⟨inK_nat hil (by unfold lenMax; omega), ?_⟩
          refine G_weak (fr 132 [(2, .one (.ptr 0 0)), (3, .one (.ptr 1 0)), (5, vb true), (6, .one (.d (.sl (pps W)))), (7, vb ok), (9, vi (i + 1))]) (by (simp only [go_sem,reduceCtorEq,↓reduceIte,Qa,Qb,Qc,Qd,Qe,Qf,Qg,Qh,Qi,Qj,Qk,Ql,Qm,Qn,Qo,Qp,Qq,Qr]; repeat' (first | refine And.intro ?_ ?_ | exact Or.inl rfl | exact Or.inr rfl | rfl))) ?_
          refine G_again ⟨W.length - (i + 1), by omega, i + 1, by omega, rfl, ?_, rfl⟩
          exact Nat.zero_le _
    · obtain rfl : W.length = i := by omega
      repeat' (first | refine Gx rfl ?_ | ((first | refine G_reg ?_ | refine G_regv ?_ | refine VO_chk ?_ | refine VO_go ?_ | refine VO_gx ?_); simp only [f5_r0,f5_r1,f5_r2,f5_r3,f5_r4,f5_r5,f5_r6,f5_r12,f5_r13,f5_r18,f5_r19,f5_r25,f5_r26,f5_r27,f5_r33,f5_r34,f5_r39,f5_r40,f5_r47,f5_r57,f5_r63,go_sem,reduceCtorEq,↓reduceIte,Qa,Qb,Qc,Qd,Qe,Qf,Qg,Qh,Qi,Qj,Qk,Ql,Qm,Qn,Qo,Qp,Qq,Qr]) | refine VO_end ?_ | refine Sh.intro ?_ | (refine G_cond ?_; simp only [f5_r0,f5_r1,f5_r2,f5_r3,f5_r4,f5_r5,f5_r6,f5_r12,f5_r13,f5_r18,f5_r19,f5_r25,f5_r26,f5_r27,f5_r33,f5_r34,f5_r39,f5_r40,f5_r47,f5_r57,f5_r63,go_sem,reduceCtorEq,↓reduceIte,Qa,Qb,Qc,Qd,Qe,Qf,Qg,Qh,Qi,Qj,Qk,Ql,Qm,Qn,Qo,Qp,Qq,Qr]; first | (refine ⟨fun _ => ?_, fun _ => ?_⟩ <;> try (exfalso; omega)) | skip) | (refine And.intro (fun _ => ?_) (fun _ => ?_) <;> try (exfalso; omega)) | ((first | refine G_fin ?_ | refine G_ret rfl ?_); simp only [f5_r0,f5_r1,f5_r2,f5_r3,f5_r4,f5_r5,f5_r6,f5_r12,f5_r13,f5_r18,f5_r19,f5_r25,f5_r26,f5_r27,f5_r33,f5_r34,f5_r39,f5_r40,f5_r47,f5_r57,f5_r63,or_self,Qs,Qt,Qu,Qv,Qw,Qx,Qy,Qz,Za,go_sem,reduceCtorEq,↓reduceIte,Qa,Qb,Qc,Qd,Qe,Qf,Qg,Qh,Qi,Qj,Qk,Ql,Qm,Qn,Qo,Qp,Qq,Qr]))
      all_goals first | (exfalso; omega) | skip
      refine ⟨_, ⟨map_at p2, rfl⟩, Sh.intro ?_⟩
      repeat' (first | refine Gx rfl ?_ | ((first | refine G_reg ?_ | refine G_regv ?_ | refine VO_chk ?_ | refine VO_go ?_ | refine VO_gx ?_); simp only [f5_r0,f5_r1,f5_r2,f5_r3,f5_r4,f5_r5,f5_r6,f5_r12,f5_r13,f5_r18,f5_r19,f5_r25,f5_r26,f5_r27,f5_r33,f5_r34,f5_r39,f5_r40,f5_r47,f5_r57,f5_r63,go_sem,reduceCtorEq,↓reduceIte,Qa,Qb,Qc,Qd,Qe,Qf,Qg,Qh,Qi,Qj,Qk,Ql,Qm,Qn,Qo,Qp,Qq,Qr]) | refine VO_end ?_ | refine Sh.intro ?_ | (refine G_cond ?_; simp only [f5_r0,f5_r1,f5_r2,f5_r3,f5_r4,f5_r5,f5_r6,f5_r12,f5_r13,f5_r18,f5_r19,f5_r25,f5_r26,f5_r27,f5_r33,f5_r34,f5_r39,f5_r40,f5_r47,f5_r57,f5_r63,go_sem,reduceCtorEq,↓reduceIte,Qa,Qb,Qc,Qd,Qe,Qf,Qg,Qh,Qi,Qj,Qk,Ql,Qm,Qn,Qo,Qp,Qq,Qr]; first | (refine ⟨fun _ => ?_, fun _ => ?_⟩ <;> try (exfalso; omega)) | skip) | (refine And.intro (fun _ => ?_) (fun _ => ?_) <;> try (exfalso; omega)) | ((first | refine G_fin ?_ | refine G_ret rfl ?_); simp only [f5_r0,f5_r1,f5_r2,f5_r3,f5_r4,f5_r5,f5_r6,f5_r12,f5_r13,f5_r18,f5_r19,f5_r25,f5_r26,f5_r27,f5_r33,f5_r34,f5_r39,f5_r40,f5_r47,f5_r57,f5_r63,or_self,Qs,Qt,Qu,Qv,Qw,Qx,Qy,Qz,Za,go_sem,reduceCtorEq,↓reduceIte,Qa,Qb,Qc,Qd,Qe,Qf,Qg,Qh,Qi,Qj,Qk,Ql,Qm,Qn,Qo,Qp,Qq,Qr]))
      all_goals first | (exfalso; omega) | rfl | simp
  · have he : checkE [q, r] ≠ 0 := fun e => hc ((checkE_two q r).1 e)
    have e0 : prG q r = ([], false) := by unfold prG; rw [if_neg hc]
    rw [e0] at c1
    generalize checkE [q, r] = e at *
    have hne : (e != 0) = true := by simpa using he
    repeat' (first | refine Gx rfl ?_ | ((first | refine G_reg ?_ | refine G_regv ?_ | refine VO_chk ?_ | refine VO_go ?_ | refine VO_gx ?_); simp only [f5_r0,f5_r1,f5_r2,f5_r3,f5_r4,f5_r5,f5_r6,f5_r12,f5_r13,f5_r18,f5_r19,f5_r25,f5_r26,f5_r27,f5_r33,f5_r34,f5_r39,f5_r40,f5_r47,f5_r57,f5_r63,hne,go_sem,reduceCtorEq,↓reduceIte,Qa,Qb,Qc,Qd,Qe,Qf,Qg,Qh,Qi,Qj,Qk,Ql,Qm,Qn,Qo,Qp,Qq,Qr]) | refine VO_end ?_ | refine Sh.intro ?_ | refine ⟨_, cs, Sh.intro ?_⟩ | refine ⟨_, ⟨cs, rfl⟩, Sh.intro ?_⟩ | refine ⟨_, cg, Sh.intro ?_⟩ | refine ⟨_, ⟨cg, rfl⟩, Sh.intro ?_⟩ | refine ⟨_, ch, Sh.intro ?_⟩ | refine ⟨_, ⟨ch, rfl⟩, Sh.intro ?_⟩ | refine ⟨_, c1, Sh.intro ?_⟩ | refine ⟨_, ⟨c1, rfl⟩, Sh.intro ?_⟩ | (refine G_cond ?_; simp only [f5_r0,f5_r1,f5_r2,f5_r3,f5_r4,f5_r5,f5_r6,f5_r12,f5_r13,f5_r18,f5_r19,f5_r25,f5_r26,f5_r27,f5_r33,f5_r34,f5_r39,f5_r40,f5_r47,f5_r57,f5_r63,hne,go_sem,reduceCtorEq,↓reduceIte,Qa,Qb,Qc,Qd,Qe,Qf,Qg,Qh,Qi,Qj,Qk,Ql,Qm,Qn,Qo,Qp,Qq,Qr]; first | (refine ⟨fun _ => ?_, fun _ => ?_⟩ <;> try (exfalso; omega)) | skip) | (refine And.intro (fun _ => ?_) (fun _ => ?_) <;> try (exfalso; omega)) | ((first | refine G_fin ?_ | refine G_ret rfl ?_); simp only [f5_r0,f5_r1,f5_r2,f5_r3,f5_r4,f5_r5,f5_r6,f5_r12,f5_r13,f5_r18,f5_r19,f5_r25,f5_r26,f5_r27,f5_r33,f5_r34,f5_r39,f5_r40,f5_r47,f5_r57,f5_r63,hne,or_self,Qs,Qt,Qu,Qv,Qw,Qx,Qy,Qz,Za,go_sem,reduceCtorEq,↓reduceIte,Qa,Qb,Qc,Qd,Qe,Qf,Qg,Qh,Qi,Qj,Qk,Ql,Qm,Qn,Qo,Qp,Qq,Qr]))
    all_goals first | (exfalso; omega) | rfl | trace_state
end Go.Fw.L07
