/- Chapter 8: the law ReachWalk. -/
import Derived.Test.YtphdiiaiclfjgaaDoorEa
set_option linter.all false
namespace Go.Fw.L07
open Go Go.Fw
open Nat renaming reduceAdd → Qa, reduceSub → Qb, reduceMul → Qc, reduceLeDiff → Qd, reduceLT → Qe, reduceEqDiff → Qf
open Int renaming reduceToNat → Qg, reduceLT → Qh, reduceLE → Qi, reduceGT → Qj, reduceGE → Qk, reduceEq → Ql, reduceNe → Qm, reduceBEq → Qn, reduceBNe → Qo, reduceAdd → Qp, reduceSub → Qq, reduceNeg → Qr
open Go.Fw.V.one renaming injEq → Qs
open Go.Fw.V.agg renaming injEq → Qt
open Go.Fw.V.tup renaming injEq → Qu
open Go.Fw.A.d renaming injEq → Qv
open Go.Fw.D.bool renaming injEq → Qw
open Go.Fw.D.int renaming injEq → Qx
open Go.Fw.D.str renaming injEq → Qy
open Go.Fw.D.sl renaming injEq → Qz
open List.cons renaming injEq → Za
set_option maxRecDepth 4000
variable {gp : Heap}

/-- Has one of the first k nodes of a walk this kid? -/
def fromN (q : Gr) (l : List Int) (i : Nat) (y : Int) (k : Nat) : Bool := ((i : Int) == 0) || (l.take k).any fun p => decide (inI (ndAt q.l p).kids y ≥ 0)
theorem fromN_all {q : Gr} (hg : Good q) {i : Nat} {y : Int} (hy : (walkL q)[i]? = some y) : fromN q (walkL q) i y i = true := by
  unfold fromN
  by_cases h0 : i = 0
  · subst h0; rfl
  · obtain ⟨m, p, hm, hp, hk⟩ := hg.from hy (by omega)
    rw [Bool.or_eq_true]
    right
    rw [List.any_eq_true]
    refine ⟨p, ?_, ?_⟩
    · rw [List.mem_take_iff_getElem]
      obtain ⟨h1, h2⟩ := List.getElem?_eq_some_iff.1 hp
      exact ⟨m, by omega, h2⟩
    · have hpr := hg.wIn p (List.mem_of_getElem? hp)
      have : y ∈ (ndAt q.l p).kids := (kidsOf_perm (hg.node hpr) y).1 hk
      exact decide_eq_true (inI_mem.2 this)

set_option maxHeartbeats 2000000 in
theorem reach_walk (h : Env gp) (g : Gr) : Does Go.Proofs.Tryd.prog gp 5 [g.v] (vb true) := by
  refine f5_in ?_
  simp only [go_sem,reduceCtorEq,↓reduceIte,Qa,Qb,Qc,Qd,Qe,Qf,Qg,Qh,Qi,Qj,Qk,Ql,Qm,Qn,Qo,Qp,Qq,Qr]
  have cs := shown8_ok h
  have cg := cut_gr (gp := gp) g
  have hsm := g.cut_small
  generalize g.cut = q at *
  have c1 := walk_gr h q hsm
  by_cases hc : chk q = none
  · have hg : Good q := ⟨hc, hsm⟩
    have hwl := hg.wlen
    have hgl := hg.len
    have hwi := hg.wIn
    have hcl := hg.wclosed
    have hnd := hg.wnodup
    have hfr := fun i y => fromN_all hg (i := i) (y := y)
    rw [chkE_ok hc, wOf_good hg] at c1
    obtain ⟨tl, htl⟩ := hg.whead
    have h0 : (walkL q)[0]? = some q.root := by rw [htl]; rfl
    have hpos : 0 < (walkL q).length := by rw [htl]; simp
    have c3 := fun y => in_l (gp := gp) (walkL q) y (by omega)
    generalize walkL q = l at *
    have node : ∀ y ∈ l, ∃ (m : Nat) (x : Nd), y = m ∧ q.l[m]? = some x ∧ ndAt q.l y = x ∧ x.kids.length ≤ 12 ∧ ∀ j ∈ x.kids, j ∈ l := fun y hy => by
      have hr := hwi y hy
      obtain ⟨m, rfl⟩ := Int.eq_ofNat_of_zero_le hr.1
      obtain ⟨x, hx⟩ := at_lt (l := q.l) (i := m) (by omega)
      have hn : ndAt q.l m = x := by unfold ndAt; rw [if_pos hr, Int.toNat_natCast, hx]; rfl
      refine ⟨m, x, rfl, hx, hn, (hsm x (List.mem_of_getElem? hx)).2, fun j hj => hcl m hy j ?_⟩
      rw [← hn] at hj
      exact (kidsOf_perm (hg.node hr) j).2 hj
    have hl0 : ((l.length : Int) == 0) = false := by simp; exact List.ne_nil_of_length_pos hpos
    repeat' (first | refine Gx rfl ?_ | ((first | refine G_reg ?_ | refine VO_chk ?_ | refine VO_go ?_); simp only [f5_r0,f5_r1,f5_r2,f5_r3,f5_r4,f5_r5,f5_r11,f5_r12,f5_r18,f5_r19,f5_r24,f5_r25,f5_r31,f5_r32,f5_r33,f5_r38,f5_r40,f5_r46,f5_r47,f5_r53,f5_r54,f5_r55,f5_r60,f5_r61,f5_r68,f5_r80,f5_r86,hl0,go_sem,reduceCtorEq,↓reduceIte,Qa,Qb,Qc,Qd,Qe,Qf,Qg,Qh,Qi,Qj,Qk,Ql,Qm,Qn,Qo,Qp,Qq,Qr]) | refine VO_end ?_ | refine Sh.intro ?_ | refine ⟨_, cs, Sh.intro ?_⟩ | refine ⟨_, ⟨cs, rfl⟩, Sh.intro ?_⟩ | refine ⟨_, cg, Sh.intro ?_⟩ | refine ⟨_, ⟨cg, rfl⟩, Sh.intro ?_⟩ | refine ⟨_, c1, Sh.intro ?_⟩ | refine ⟨_, ⟨c1, rfl⟩, Sh.intro ?_⟩ | refine ⟨_, ⟨map_at h0, rfl⟩, Sh.intro ?_⟩ | (refine G_cond ?_; simp only [f5_r0,f5_r1,f5_r2,f5_r3,f5_r4,f5_r5,f5_r11,f5_r12,f5_r18,f5_r19,f5_r24,f5_r25,f5_r31,f5_r32,f5_r33,f5_r38,f5_r40,f5_r46,f5_r47,f5_r53,f5_r54,f5_r55,f5_r60,f5_r61,f5_r68,f5_r80,f5_r86,hl0,go_sem,reduceCtorEq,↓reduceIte,Qa,Qb,Qc,Qd,Qe,Qf,Qg,Qh,Qi,Qj,Qk,Ql,Qm,Qn,Qo,Qp,Qq,Qr]; first | (refine ⟨fun _ => ?_, fun _ => ?_⟩ <;> try (exfalso; omega)) | skip) | (refine And.intro (fun _ => ?_) (fun _ => ?_) <;> try (exfalso; omega)) | ((first | refine G_fin ?_ | refine G_ret rfl ?_); simp only [f5_r0,f5_r1,f5_r2,f5_r3,f5_r4,f5_r5,f5_r11,f5_r12,f5_r18,f5_r19,f5_r24,f5_r25,f5_r31,f5_r32,f5_r33,f5_r38,f5_r40,f5_r46,f5_r47,f5_r53,f5_r54,f5_r55,f5_r60,f5_r61,f5_r68,f5_r80,f5_r86,hl0,or_self,Qs,Qt,Qu,Qv,Qw,Qx,Qy,Qz,Za,go_sem,reduceCtorEq,↓reduceIte,Qa,Qb,Qc,Qd,Qe,Qf,Qg,Qh,Qi,Qj,Qk,Ql,Qm,Qn,Qo,Qp,Qq,Qr]))
    all_goals first | (exfalso; omega) | skip
    refine G_weak (fr 119 [(1, .one (.ptr 0 0)), (3, vb true), (4, .one (.d (.sl (ints l)))), (6, vi (0 : Nat))]) (by (simp only [go_sem,reduceCtorEq,↓reduceIte,Qa,Qb,Qc,Qd,Qe,Qf,Qg,Qh,Qi,Qj,Qk,Ql,Qm,Qn,Qo,Qp,Qq,Qr]; repeat' (first | refine And.intro ?_ ?_ | exact Or.inl rfl | exact Or.inr rfl | rfl))) ?_
    refine G_loop (fun mz sz => ∃ i : Nat, i ≤ l.length ∧ mz = l.length - i ∧ (0 ≤ i) ∧ sz = ⟨fr 119 [(1, .one (.ptr 0 0)), (3, vb true), (4, .one (.d (.sl (ints l)))), (6, vi i)], [.cells q.as]⟩) (l.length) ⟨0, Nat.zero_le _, (Nat.sub_zero _).symm, ?_, rfl⟩ ?_
    · exact Nat.zero_le _
    rintro _ _ ⟨i, hi, rfl, -, rfl⟩
    simp only [go_sem,reduceCtorEq,↓reduceIte,Qa,Qb,Qc,Qd,Qe,Qf,Qg,Qh,Qi,Qj,Qk,Ql,Qm,Qn,Qo,Qp,Qq,Qr]
    by_cases hil : i < l.length
    · obtain ⟨y, hy⟩ := at_lt hil
      have hin := inI_at hnd hy
      have hfi := hfr i y hy
      have hym := List.mem_of_getElem? hy
      have hyr := hwi y hym
      have c4 := c3 y
      rw [hin] at c4
      repeat' (first | refine Gx rfl ?_ | ((first | refine G_reg ?_ | refine VO_chk ?_ | refine VO_go ?_); simp only [f5_r0,f5_r1,f5_r2,f5_r3,f5_r4,f5_r5,f5_r11,f5_r12,f5_r18,f5_r19,f5_r24,f5_r25,f5_r31,f5_r32,f5_r33,f5_r38,f5_r40,f5_r46,f5_r47,f5_r53,f5_r54,f5_r55,f5_r60,f5_r61,f5_r68,f5_r80,f5_r86,go_sem,reduceCtorEq,↓reduceIte,Qa,Qb,Qc,Qd,Qe,Qf,Qg,Qh,Qi,Qj,Qk,Ql,Qm,Qn,Qo,Qp,Qq,Qr]) | refine VO_end ?_ | refine Sh.intro ?_ | refine ⟨_, c4, Sh.intro ?_⟩ | refine ⟨_, ⟨c4, rfl⟩, Sh.intro ?_⟩ | refine ⟨_, ⟨Int.natCast_nonneg _, (by first | exact map_at hy | (rw [Int.toNat_natCast]; exact map_at hy)), rfl⟩, Sh.intro ?_⟩ | (refine G_cond ?_; simp only [f5_r0,f5_r1,f5_r2,f5_r3,f5_r4,f5_r5,f5_r11,f5_r12,f5_r18,f5_r19,f5_r24,f5_r25,f5_r31,f5_r32,f5_r33,f5_r38,f5_r40,f5_r46,f5_r47,f5_r53,f5_r54,f5_r55,f5_r60,f5_r61,f5_r68,f5_r80,f5_r86,go_sem,reduceCtorEq,↓reduceIte,Qa,Qb,Qc,Qd,Qe,Qf,Qg,Qh,Qi,Qj,Qk,Ql,Qm,Qn,Qo,Qp,Qq,Qr]; first | (refine ⟨fun _ => ?_, fun _ => ?_⟩ <;> try (exfalso; omega)) | skip) | (refine And.intro (fun _ => ?_) (fun _ => ?_) <;> try (exfalso; omega)) | ((first | refine G_fin ?_ | refine G_ret rfl ?_); simp only [f5_r0,f5_r1,f5_r2,f5_r3,f5_r4,f5_r5,f5_r11,f5_r12,f5_r18,f5_r19,f5_r24,f5_r25,f5_r31,f5_r32,f5_r33,f5_r38,f5_r40,f5_r46,f5_r47,f5_r53,f5_r54,f5_r55,f5_r60,f5_r61,f5_r68,f5_r80,f5_r86,or_self,Qs,Qt,Qu,Qv,Qw,Qx,Qy,Qz,Za,go_sem,reduceCtorEq,↓reduceIte,Qa,Qb,Qc,Qd,Qe,Qf,Qg,Qh,Qi,Qj,Qk,Ql,Qm,Qn,Qo,Qp,Qq,Qr]))
      all_goals first | (exfalso; omega) | skip
      have e0 : ((i : Int) == 0) = fromN q l i y 0 := by simp [fromN]
      rw [e0]
      refine G_weak (fr 119 [(1, .one (.ptr 0 0)), (3, vb true), (4, .one (.d (.sl (ints l)))), (6, vi i), (7, vb (fromN q l i y (0 : Nat))), (8, vi (0 : Nat))]) (by (simp only [go_sem,reduceCtorEq,↓reduceIte,Qa,Qb,Qc,Qd,Qe,Qf,Qg,Qh,Qi,Qj,Qk,Ql,Qm,Qn,Qo,Qp,Qq,Qr]; repeat' (first | refine And.intro ?_ ?_ | exact Or.inl rfl | exact Or.inr rfl | rfl))) ?_
      refine G_loop (fun mz sz => ∃ j : Nat, j ≤ i ∧ mz = i - j ∧ (0 ≤ j) ∧ sz = ⟨fr 119 [(1, .one (.ptr 0 0)), (3, vb true), (4, .one (.d (.sl (ints l)))), (6, vi i), (7, vb (fromN q l i y j)), (8, vi j)], [.cells q.as]⟩) (i) ⟨0, Nat.zero_le _, (Nat.sub_zero _).symm, ?_, rfl⟩ ?_
      · exact Nat.zero_le _
      rintro _ _ ⟨j, hj, rfl, -, rfl⟩
      simp only [go_sem,reduceCtorEq,↓reduceIte,Qa,Qb,Qc,Qd,Qe,Qf,Qg,Qh,Qi,Qj,Qk,Ql,Qm,Qn,Qo,Qp,Qq,Qr]
      by_cases hjl : j < i
      · obtain ⟨p, hp⟩ := at_lt (l := l) (i := j) (by omega)
        obtain ⟨m, x, rfl, hx, hn, hkl, _⟩ := node p (List.mem_of_getElem? hp)
        have hstep : fromN q l i y (j + 1) = (fromN q l i y j || decide (inI x.kids y ≥ 0)) := by
          unfold fromN
          rw [List.take_succ, hp]
          simp [hn, Bool.or_assoc]
        have c5 := in_l (gp := gp) x.kids y (by omega)
        generalize fromN q l i y j = b at *
        cases b with
        | false =>
          repeat' (first | refine Gx rfl ?_ | ((first | refine G_reg ?_ | refine VO_chk ?_ | refine VO_go ?_); simp only [f5_r0,f5_r1,f5_r2,f5_r3,f5_r4,f5_r5,f5_r11,f5_r12,f5_r18,f5_r19,f5_r24,f5_r25,f5_r31,f5_r32,f5_r33,f5_r38,f5_r40,f5_r46,f5_r47,f5_r53,f5_r54,f5_r55,f5_r60,f5_r61,f5_r68,f5_r80,f5_r86,go_sem,reduceCtorEq,↓reduceIte,Qa,Qb,Qc,Qd,Qe,Qf,Qg,Qh,Qi,Qj,Qk,Ql,Qm,Qn,Qo,Qp,Qq,Qr]) | refine VO_end ?_ | refine Sh.intro ?_ | refine ⟨_, c5, Sh.intro ?_⟩ | refine ⟨_, ⟨c5, rfl⟩, Sh.intro ?_⟩ | refine ⟨_, ⟨Int.natCast_nonneg _, (by first | exact map_at hx | (rw [Int.toNat_natCast]; exact map_at hx)), rfl⟩, Sh.intro ?_⟩ | refine ⟨_, ⟨Int.natCast_nonneg _, (by first | exact map_at hp | (rw [Int.toNat_natCast]; exact map_at hp)), rfl⟩, Sh.intro ?_⟩ | refine ⟨_, ⟨Int.natCast_nonneg _, (by first | exact map_at hy | (rw [Int.toNat_natCast]; exact map_at hy)), rfl⟩, Sh.intro ?_⟩ | (refine G_cond ?_; simp only [f5_r0,f5_r1,f5_r2,f5_r3,f5_r4,f5_r5,f5_r11,f5_r12,f5_r18,f5_r19,f5_r24,f5_r25,f5_r31,f5_r32,f5_r33,f5_r38,f5_r40,f5_r46,f5_r47,f5_r53,f5_r54,f5_r55,f5_r60,f5_r61,f5_r68,f5_r80,f5_r86,go_sem,reduceCtorEq,↓reduceIte,Qa,Qb,Qc,Qd,Qe,Qf,Qg,Qh,Qi,Qj,Qk,Ql,Qm,Qn,Qo,Qp,Qq,Qr]; first | refine ⟨fun _ => ?_, fun _ => ?_⟩ | skip) | refine And.intro (fun _ => ?_) (fun _ => ?_) | ((first | refine G_fin ?_ | refine G_ret rfl ?_); simp only [f5_r0,f5_r1,f5_r2,f5_r3,f5_r4,f5_r5,f5_r11,f5_r12,f5_r18,f5_r19,f5_r24,f5_r25,f5_r31,f5_r32,f5_r33,f5_r38,f5_r40,f5_r46,f5_r47,f5_r53,f5_r54,f5_r55,f5_r60,f5_r61,f5_r68,f5_r80,f5_r86,or_self,Qs,Qt,Qu,Qv,Qw,Qx,Qy,Qz,Za,go_sem,reduceCtorEq,↓reduceIte,Qa,Qb,Qc,Qd,Qe,Qf,Qg,Qh,Qi,Qj,Qk,Ql,Qm,Qn,Qo,Qp,Qq,Qr]))
          · refine ⟨inK_nat hjl (by unfold lenMax; omega), ?_⟩
            refine G_weak (fr 119 [(1, .one (.ptr 0 0)), (3, vb true), (4, .one (.d (.sl (ints l)))), (6, vi i), (7, vb (decide (inI x.kids y ≥ 0))), (8, vi (j + 1))]) (by (simp only [go_sem,reduceCtorEq,↓reduceIte,Qa,Qb,Qc,Qd,Qe,Qf,Qg,Qh,Qi,Qj,Qk,Ql,Qm,Qn,Qo,Qp,Qq,Qr]; repeat' (first | refine And.intro ?_ ?_ | exact Or.inl rfl | exact Or.inr rfl | rfl))) ?_
            refine G_again ⟨i - (j + 1), by omega, j + 1, by omega, rfl, ?_, by rw [hstep]; rfl⟩
            exact Nat.zero_le _
          · exfalso; omega
        | true =>
          repeat' (first | refine Gx rfl ?_ | ((first | refine G_reg ?_ | refine VO_chk ?_ | refine VO_go ?_); simp only [f5_r0,f5_r1,f5_r2,f5_r3,f5_r4,f5_r5,f5_r11,f5_r12,f5_r18,f5_r19,f5_r24,f5_r25,f5_r31,f5_r32,f5_r33,f5_r38,f5_r40,f5_r46,f5_r47,f5_r53,f5_r54,f5_r55,f5_r60,f5_r61,f5_r68,f5_r80,f5_r86,go_sem,reduceCtorEq,↓reduceIte,Qa,Qb,Qc,Qd,Qe,Qf,Qg,Qh,Qi,Qj,Qk,Ql,Qm,Qn,Qo,Qp,Qq,Qr]) | refine VO_end ?_ | refine Sh.intro ?_ | refine ⟨_, c5, Sh.intro ?_⟩ | refine ⟨_, ⟨c5, rfl⟩, Sh.intro ?_⟩ | refine ⟨_, ⟨Int.natCast_nonneg _, (by first | exact map_at hx | (rw [Int.toNat_natCast]; exact map_at hx)), rfl⟩, Sh.intro ?_⟩ | refine ⟨_, ⟨Int.natCast_nonneg _, (by first | exact map_at hp | (rw [Int.toNat_natCast]; exact map_at hp)), rfl⟩, Sh.intro ?_⟩ | refine ⟨_, ⟨Int.natCast_nonneg _, (by first | exact map_at hy | (rw [Int.toNat_natCast]; exact map_at hy)), rfl⟩, Sh.intro ?_⟩ | (refine G_cond ?_; simp only [f5_r0,f5_r1,f5_r2,f5_r3,f5_r4,f5_r5,f5_r11,f5_r12,f5_r18,f5_r19,f5_r24,f5_r25,f5_r31,f5_r32,f5_r33,f5_r38,f5_r40,f5_r46,f5_r47,f5_r53,f5_r54,f5_r55,f5_r60,f5_r61,f5_r68,f5_r80,f5_r86,go_sem,reduceCtorEq,↓reduceIte,Qa,Qb,Qc,Qd,Qe,Qf,Qg,Qh,Qi,Qj,Qk,Ql,Qm,Qn,Qo,Qp,Qq,Qr]; first | refine ⟨fun _ => ?_, fun _ => ?_⟩ | skip) | refine And.intro (fun _ => ?_) (fun _ => ?_) | ((first | refine G_fin ?_ | refine G_ret rfl ?_); simp only [f5_r0,f5_r1,f5_r2,f5_r3,f5_r4,f5_r5,f5_r11,f5_r12,f5_r18,f5_r19,f5_r24,f5_r25,f5_r31,f5_r32,f5_r33,f5_r38,f5_r40,f5_r46,f5_r47,f5_r53,f5_r54,f5_r55,f5_r60,f5_r61,f5_r68,f5_r80,f5_r86,or_self,Qs,Qt,Qu,Qv,Qw,Qx,Qy,Qz,Za,go_sem,reduceCtorEq,↓reduceIte,Qa,Qb,Qc,Qd,Qe,Qf,Qg,Qh,Qi,Qj,Qk,Ql,Qm,Qn,Qo,Qp,Qq,Qr]))
          · refine ⟨inK_nat hjl (by unfold lenMax; omega), ?_⟩
            refine G_weak (fr 119 [(1, .one (.ptr 0 0)), (3, vb true), (4, .one (.d (.sl (ints l)))), (6, vi i), (7, vb true), (8, vi (j + 1))]) (by (simp only [go_sem,reduceCtorEq,↓reduceIte,Qa,Qb,Qc,Qd,Qe,Qf,Qg,Qh,Qi,Qj,Qk,Ql,Qm,Qn,Qo,Qp,Qq,Qr]; repeat' (first | refine And.intro ?_ ?_ | exact Or.inl rfl | exact Or.inr rfl | rfl))) ?_
            refine G_again ⟨i - (j + 1), by omega, j + 1, by omega, rfl, ?_, by rw [hstep]; rfl⟩
            exact Nat.zero_le _
          · exfalso; omega
      · obtain rfl : i = j := by omega
        rw [hfi]
        obtain ⟨m, x, rfl, hx, hn, hkl, hkm⟩ := node y hym
        repeat' (first | refine Gx rfl ?_ | ((first | refine G_reg ?_ | refine VO_chk ?_ | refine VO_go ?_); simp only [f5_r0,f5_r1,f5_r2,f5_r3,f5_r4,f5_r5,f5_r11,f5_r12,f5_r18,f5_r19,f5_r24,f5_r25,f5_r31,f5_r32,f5_r33,f5_r38,f5_r40,f5_r46,f5_r47,f5_r53,f5_r54,f5_r55,f5_r60,f5_r61,f5_r68,f5_r80,f5_r86,go_sem,reduceCtorEq,↓reduceIte,Qa,Qb,Qc,Qd,Qe,Qf,Qg,Qh,Qi,Qj,Qk,Ql,Qm,Qn,Qo,Qp,Qq,Qr]) | refine VO_end ?_ | refine Sh.intro ?_ | refine ⟨_, ⟨Int.natCast_nonneg _, (by first | exact map_at hx | (rw [Int.toNat_natCast]; exact map_at hx)), rfl⟩, Sh.intro ?_⟩ | refine ⟨_, ⟨Int.natCast_nonneg _, (by first | exact map_at hy | (rw [Int.toNat_natCast]; exact map_at hy)), rfl⟩, Sh.intro ?_⟩ | (refine G_cond ?_; simp only [f5_r0,f5_r1,f5_r2,f5_r3,f5_r4,f5_r5,f5_r11,f5_r12,f5_r18,f5_r19,f5_r24,f5_r25,f5_r31,f5_r32,f5_r33,f5_r38,f5_r40,f5_r46,f5_r47,f5_r53,f5_r54,f5_r55,f5_r60,f5_r61,f5_r68,f5_r80,f5_r86,go_sem,reduceCtorEq,↓reduceIte,Qa,Qb,Qc,Qd,Qe,Qf,Qg,Qh,Qi,Qj,Qk,Ql,Qm,Qn,Qo,Qp,Qq,Qr]; first | (refine ⟨fun _ => ?_, fun _ => ?_⟩ <;> try (exfalso; omega)) | skip) | (refine And.intro (fun _ => ?_) (fun _ => ?_) <;> try (exfalso; omega)) | ((first | refine G_fin ?_ | refine G_ret rfl ?_); simp only [f5_r0,f5_r1,f5_r2,f5_r3,f5_r4,f5_r5,f5_r11,f5_r12,f5_r18,f5_r19,f5_r24,f5_r25,f5_r31,f5_r32,f5_r33,f5_r38,f5_r40,f5_r46,f5_r47,f5_r53,f5_r54,f5_r55,f5_r60,f5_r61,f5_r68,f5_r80,f5_r86,or_self,Qs,Qt,Qu,Qv,Qw,Qx,Qy,Qz,Za,go_sem,reduceCtorEq,↓reduceIte,Qa,Qb,Qc,Qd,Qe,Qf,Qg,Qh,Qi,Qj,Qk,Ql,Qm,Qn,Qo,Qp,Qq,Qr]))
        all_goals first | (exfalso; omega) | skip
        refine G_weak (fr 119 [(1, .one (.ptr 0 0)), (3, vb true), (4, .one (.d (.sl (ints l)))), (6, vi i), (9, .one (.d (.sl (ints x.kids)))), (10, vi (0 : Nat))]) (by (simp only [go_sem,reduceCtorEq,↓reduceIte,Qa,Qb,Qc,Qd,Qe,Qf,Qg,Qh,Qi,Qj,Qk,Ql,Qm,Qn,Qo,Qp,Qq,Qr]; repeat' (first | refine And.intro ?_ ?_ | exact Or.inl rfl | exact Or.inr rfl | rfl))) ?_
        refine G_loop (fun mz sz => ∃ j : Nat, j ≤ x.kids.length ∧ mz = x.kids.length - j ∧ (0 ≤ j) ∧ sz = ⟨fr 119 [(1, .one (.ptr 0 0)), (3, vb true), (4, .one (.d (.sl (ints l)))), (6, vi i), (9, .one (.d (.sl (ints x.kids)))), (10, vi j)], [.cells q.as]⟩) (x.kids.length) ⟨0, Nat.zero_le _, (Nat.sub_zero _).symm, ?_, rfl⟩ ?_
        · exact Nat.zero_le _
        rintro _ _ ⟨j, hj, rfl, -, rfl⟩
        simp only [go_sem,reduceCtorEq,↓reduceIte,Qa,Qb,Qc,Qd,Qe,Qf,Qg,Qh,Qi,Qj,Qk,Ql,Qm,Qn,Qo,Qp,Qq,Qr]
        by_cases hjl : j < x.kids.length
        · obtain ⟨z, hz⟩ := at_lt hjl
          have hzm := inI_mem.2 (hkm z (List.mem_of_getElem? hz))
          have c5 := c3 z
          repeat' (first | refine Gx rfl ?_ | ((first | refine G_reg ?_ | refine VO_chk ?_ | refine VO_go ?_); simp only [f5_r0,f5_r1,f5_r2,f5_r3,f5_r4,f5_r5,f5_r11,f5_r12,f5_r18,f5_r19,f5_r24,f5_r25,f5_r31,f5_r32,f5_r33,f5_r38,f5_r40,f5_r46,f5_r47,f5_r53,f5_r54,f5_r55,f5_r60,f5_r61,f5_r68,f5_r80,f5_r86,go_sem,reduceCtorEq,↓reduceIte,Qa,Qb,Qc,Qd,Qe,Qf,Qg,Qh,Qi,Qj,Qk,Ql,Qm,Qn,Qo,Qp,Qq,Qr]) | refine VO_end ?_ | refine Sh.intro ?_ | refine ⟨_, c5, Sh.intro ?_⟩ | refine ⟨_, ⟨c5, rfl⟩, Sh.intro ?_⟩ | refine ⟨_, ⟨Int.natCast_nonneg _, (by first | exact map_at hz | (rw [Int.toNat_natCast]; exact map_at hz)), rfl⟩, Sh.intro ?_⟩ | (refine G_cond ?_; simp only [f5_r0,f5_r1,f5_r2,f5_r3,f5_r4,f5_r5,f5_r11,f5_r12,f5_r18,f5_r19,f5_r24,f5_r25,f5_r31,f5_r32,f5_r33,f5_r38,f5_r40,f5_r46,f5_r47,f5_r53,f5_r54,f5_r55,f5_r60,f5_r61,f5_r68,f5_r80,f5_r86,go_sem,reduceCtorEq,↓reduceIte,Qa,Qb,Qc,Qd,Qe,Qf,Qg,Qh,Qi,Qj,Qk,Ql,Qm,Qn,Qo,Qp,Qq,Qr]; first | (refine ⟨fun _ => ?_, fun _ => ?_⟩ <;> try (exfalso; omega)) | skip) | (refine And.intro (fun _ => ?_) (fun _ => ?_) <;> try (exfalso; omega)) | ((first | refine G_fin ?_ | refine G_ret rfl ?_); simp only [f5_r0,f5_r1,f5_r2,f5_r3,f5_r4,f5_r5,f5_r11,f5_r12,f5_r18,f5_r19,f5_r24,f5_r25,f5_r31,f5_r32,f5_r33,f5_r38,f5_r40,f5_r46,f5_r47,f5_r53,f5_r54,f5_r55,f5_r60,f5_r61,f5_r68,f5_r80,f5_r86,or_self,Qs,Qt,Qu,Qv,Qw,Qx,Qy,Qz,Za,go_sem,reduceCtorEq,↓reduceIte,Qa,Qb,Qc,Qd,Qe,Qf,Qg,Qh,Qi,Qj,Qk,Ql,Qm,Qn,Qo,Qp,Qq,Qr]))
          all_goals first | (exfalso; omega) | skip
          refine ⟨inK_nat hjl (by unfold lenMax; omega), ?_⟩
          refine G_weak (fr 119 [(1, .one (.ptr 0 0)), (3, vb true), (4, .one (.d (.sl (ints l)))), (6, vi i), (9, .one (.d (.sl (ints x.kids)))), (10, vi (j + 1))]) (by (simp only [go_sem,reduceCtorEq,↓reduceIte,Qa,Qb,Qc,Qd,Qe,Qf,Qg,Qh,Qi,Qj,Qk,Ql,Qm,Qn,Qo,Qp,Qq,Qr]; repeat' (first | refine And.intro ?_ ?_ | exact Or.inl rfl | exact Or.inr rfl | rfl))) ?_
          refine G_again ⟨x.kids.length - (j + 1), by omega, j + 1, by omega, rfl, ?_, rfl⟩
          exact Nat.zero_le _
        · obtain rfl : x.kids.length = j := by omega
          repeat' (first | refine Gx rfl ?_ | ((first | refine G_reg ?_ | refine VO_chk ?_ | refine VO_go ?_); simp only [f5_r0,f5_r1,f5_r2,f5_r3,f5_r4,f5_r5,f5_r11,f5_r12,f5_r18,f5_r19,f5_r24,f5_r25,f5_r31,f5_r32,f5_r33,f5_r38,f5_r40,f5_r46,f5_r47,f5_r53,f5_r54,f5_r55,f5_r60,f5_r61,f5_r68,f5_r80,f5_r86,go_sem,reduceCtorEq,↓reduceIte,Qa,Qb,Qc,Qd,Qe,Qf,Qg,Qh,Qi,Qj,Qk,Ql,Qm,Qn,Qo,Qp,Qq,Qr]) | refine VO_end ?_ | refine Sh.intro ?_ | (refine G_cond ?_; simp only [f5_r0,f5_r1,f5_r2,f5_r3,f5_r4,f5_r5,f5_r11,f5_r12,f5_r18,f5_r19,f5_r24,f5_r25,f5_r31,f5_r32,f5_r33,f5_r38,f5_r40,f5_r46,f5_r47,f5_r53,f5_r54,f5_r55,f5_r60,f5_r61,f5_r68,f5_r80,f5_r86,go_sem,reduceCtorEq,↓reduceIte,Qa,Qb,Qc,Qd,Qe,Qf,Qg,Qh,Qi,Qj,Qk,Ql,Qm,Qn,Qo,Qp,Qq,Qr]; first | (refine ⟨fun _ => ?_, fun _ => ?_⟩ <;> try (exfalso; omega)) | skip) | (refine And.intro (fun _ => ?_) (fun _ => ?_) <;> try (exfalso; omega)) | ((first | refine G_fin ?_ | refine G_ret rfl ?_); simp only [f5_r0,f5_r1,f5_r2,f5_r3,f5_r4,f5_r5,f5_r11,f5_r12,f5_r18,f5_r19,f5_r24,f5_r25,f5_r31,f5_r32,f5_r33,f5_r38,f5_r40,f5_r46,f5_r47,f5_r53,f5_r54,f5_r55,f5_r60,f5_r61,f5_r68,f5_r80,f5_r86,or_self,Qs,Qt,Qu,Qv,Qw,Qx,Qy,Qz,Za,go_sem,reduceCtorEq,↓reduceIte,Qa,Qb,Qc,Qd,Qe,Qf,Qg,Qh,Qi,Qj,Qk,Ql,Qm,Qn,Qo,Qp,Qq,Qr]))
          all_goals first | (exfalso; omega) | skip
          refine ⟨inK_nat hil (by unfold lenMax; omega), ?_⟩
          refine G_weak (fr 119 [(1, .one (.ptr 0 0)), (3, vb true), (4, .one (.d (.sl (ints l)))), (6, vi (i + 1))]) (by (simp only [go_sem,reduceCtorEq,↓reduceIte,Qa,Qb,Qc,Qd,Qe,Qf,Qg,Qh,Qi,Qj,Qk,Ql,Qm,Qn,Qo,Qp,Qq,Qr]; repeat' (first | refine And.intro ?_ ?_ | exact Or.inl rfl | exact Or.inr rfl | rfl))) ?_
          refine G_again ⟨l.length - (i + 1), by omega, i + 1, by omega, rfl, ?_, rfl⟩
          exact Nat.zero_le _
    · obtain rfl : l.length = i := by omega
      repeat' (first | refine Gx rfl ?_ | ((first | refine G_reg ?_ | refine VO_chk ?_ | refine VO_go ?_); simp only [f5_r0,f5_r1,f5_r2,f5_r3,f5_r4,f5_r5,f5_r11,f5_r12,f5_r18,f5_r19,f5_r24,f5_r25,f5_r31,f5_r32,f5_r33,f5_r38,f5_r40,f5_r46,f5_r47,f5_r53,f5_r54,f5_r55,f5_r60,f5_r61,f5_r68,f5_r80,f5_r86,go_sem,reduceCtorEq,↓reduceIte,Qa,Qb,Qc,Qd,Qe,Qf,Qg,Qh,Qi,Qj,Qk,Ql,Qm,Qn,Qo,Qp,Qq,Qr]) | refine VO_end ?_ | refine Sh.intro ?_ | (refine G_cond ?_; simp only [f5_r0,f5_r1,f5_r2,f5_r3,f5_r4,f5_r5,f5_r11,f5_r12,f5_r18,f5_r19,f5_r24,f5_r25,f5_r31,f5_r32,f5_r33,f5_r38,f5_r40,f5_r46,f5_r47,f5_r53,f5_r54,f5_r55,f5_r60,f5_r61,f5_r68,f5_r80,f5_r86,go_sem,reduceCtorEq,↓reduceIte,Qa,Qb,Qc,Qd,Qe,Qf,Qg,Qh,Qi,Qj,Qk,Ql,Qm,Qn,Qo,Qp,Qq,Qr]; first | (refine ⟨fun _ => ?_, fun _ => ?_⟩ <;> try (exfalso; omega)) | skip) | (refine And.intro (fun _ => ?_) (fun _ => ?_) <;> try (exfalso; omega)) | ((first | refine G_fin ?_ | refine G_ret rfl ?_); simp only [f5_r0,f5_r1,f5_r2,f5_r3,f5_r4,f5_r5,f5_r11,f5_r12,f5_r18,f5_r19,f5_r24,f5_r25,f5_r31,f5_r32,f5_r33,f5_r38,f5_r40,f5_r46,f5_r47,f5_r53,f5_r54,f5_r55,f5_r60,f5_r61,f5_r68,f5_r80,f5_r86,or_self,Qs,Qt,Qu,Qv,Qw,Qx,Qy,Qz,Za,go_sem,reduceCtorEq,↓reduceIte,Qa,Qb,Qc,Qd,Qe,Qf,Qg,Qh,Qi,Qj,Qk,Ql,Qm,Qn,Qo,Qp,Qq,Qr]))
  · have he := chkE_bad hc
    have hw : wOf q = [] := by unfold wOf; rw [if_neg hc]
    rw [hw] at c1
    generalize chkE q = e at *
    repeat' (first | refine Gx rfl ?_ | ((first | refine G_reg ?_ | refine VO_chk ?_ | refine VO_go ?_); simp only [f5_r0,f5_r1,f5_r2,f5_r3,f5_r4,f5_r5,f5_r11,f5_r12,f5_r18,f5_r19,f5_r24,f5_r25,f5_r31,f5_r32,f5_r33,f5_r38,f5_r40,f5_r46,f5_r47,f5_r53,f5_r54,f5_r55,f5_r60,f5_r61,f5_r68,f5_r80,f5_r86,go_sem,reduceCtorEq,↓reduceIte,Qa,Qb,Qc,Qd,Qe,Qf,Qg,Qh,Qi,Qj,Qk,Ql,Qm,Qn,Qo,Qp,Qq,Qr]) | refine VO_end ?_ | refine Sh.intro ?_ | refine ⟨_, cs, Sh.intro ?_⟩ | refine ⟨_, ⟨cs, rfl⟩, Sh.intro ?_⟩ | refine ⟨_, cg, Sh.intro ?_⟩ | refine ⟨_, ⟨cg, rfl⟩, Sh.intro ?_⟩ | refine ⟨_, c1, Sh.intro ?_⟩ | refine ⟨_, ⟨c1, rfl⟩, Sh.intro ?_⟩ | (refine G_cond ?_; simp only [f5_r0,f5_r1,f5_r2,f5_r3,f5_r4,f5_r5,f5_r11,f5_r12,f5_r18,f5_r19,f5_r24,f5_r25,f5_r31,f5_r32,f5_r33,f5_r38,f5_r40,f5_r46,f5_r47,f5_r53,f5_r54,f5_r55,f5_r60,f5_r61,f5_r68,f5_r80,f5_r86,go_sem,reduceCtorEq,↓reduceIte,Qa,Qb,Qc,Qd,Qe,Qf,Qg,Qh,Qi,Qj,Qk,Ql,Qm,Qn,Qo,Qp,Qq,Qr]; first | refine ⟨fun _ => ?_, fun _ => ?_⟩ | skip) | refine And.intro (fun _ => ?_) (fun _ => ?_) | ((first | refine G_fin ?_ | refine G_ret rfl ?_); simp only [f5_r0,f5_r1,f5_r2,f5_r3,f5_r4,f5_r5,f5_r11,f5_r12,f5_r18,f5_r19,f5_r24,f5_r25,f5_r31,f5_r32,f5_r33,f5_r38,f5_r40,f5_r46,f5_r47,f5_r53,f5_r54,f5_r55,f5_r60,f5_r61,f5_r68,f5_r80,f5_r86,or_self,Qs,Qt,Qu,Qv,Qw,Qx,Qy,Qz,Za,go_sem,reduceCtorEq,↓reduceIte,Qa,Qb,Qc,Qd,Qe,Qf,Qg,Qh,Qi,Qj,Qk,Ql,Qm,Qn,Qo,Qp,Qq,Qr]))
    all_goals first | (exfalso; simp_all; done) | (simp_all; done) | trace_state
end Go.Fw.L07
