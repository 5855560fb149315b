/- Chapter 12: the law WalkDepths. -/
import Derived.Test.YtfonfncokpdaaaaGreatDoorL07RAnch
set_option linter.all false
namespace Go.Fw.L07
open Go Go.Fw
open Nat renaming reduceAdd → Qa, reduceSub → Qb, reduceMul → Qc, reduceLeDiff → Qd, reduceLT → Qe, reduceEqDiff → Qf
open Int renaming reduceToNat → Qg, reduceLT → Qh, reduceLE → Qi, reduceGT → Qj, reduceGE → Qk, reduceEq → Ql, reduceNe → Qm, reduceBEq → Qn, reduceBNe → Qo, reduceAdd → Qp, reduceSub → Qq, reduceNeg → Qr
open Go.Fw.V.one renaming injEq → Qs
open Go.Fw.V.agg renaming injEq → Qt
open Go.Fw.V.tup renaming injEq → Qu
open Go.Fw.A.d renaming injEq → Qv
open Go.Fw.D.bool renaming injEq → Qw
open Go.Fw.D.int renaming injEq → Qx
open Go.Fw.D.str renaming injEq → Qy
open Go.Fw.D.sl renaming injEq → Qz
open List.cons renaming injEq → Za
set_option maxRecDepth 4000
variable {gp : Heap}

/-- A flag, with what is told of the first n. -/
def orN (P : Nat → Bool) (b : Bool) : Nat → Bool
  | 0 => b
  | n + 1 => orN P b n || P n
theorem orN_base {P : Nat → Bool} : ∀ n, orN P true n = true
  | 0 => rfl
  | n + 1 => by simp [orN, orN_base n]
theorem orN_hit {P : Nat → Bool} {b : Bool} {m : Nat} (h : P m = true) : ∀ n, m < n → orN P b n = true
  | 0, hm => by omega
  | n + 1, hm => by
    simp only [orN]
    by_cases e : m = n
    · subst e; simp [h]
    · simp [orN_hit h n (by omega)]
/-- Has a node another one as a kid, that is one deeper? -/
def fromP (g : Gr) (ds : List Int) (i j : Nat) : Bool := ((g.l[j]?).getD Nd.zero).kids.any fun k => k == (i : Int) && (ds[i]?).getD 0 == (ds[j]?).getD 0 + 1
def fromB (g : Gr) (ds : List Int) (i j : Nat) : Bool := orN (fromP g ds i) ((i : Int) == 0) j
theorem fromB_ok {g : Gr} (hg : Tdy g) {i : Nat} (hi : i < g.l.length) : fromB g (depL g) i i = true := by
  unfold fromB
  by_cases h0 : i = 0
  · subst h0; rfl
  · obtain ⟨j, y, h1, h2, h3, h4⟩ := hg.dep_ok.2 i (by omega) hi
    refine orN_hit (m := j) ?_ i h1
    obtain ⟨x, hx⟩ := at_lt (l := g.l) (i := j) (by omega)
    rw [hg.kd hx] at h2
    unfold fromP
    rw [hx, h3, h4, List.any_eq_true]
    exact ⟨_, h2, by simp⟩
theorem dep_r {g : Gr} (hg : Tdy g) : ∀ (i : Nat) (y : Int), (depL g)[i]? = some y → 1 ≤ y ∧ y ≤ i + 1 := by
  intro i
  induction i using Nat.strongRecOn with
  | ind i ih =>
    intro y hy
    by_cases h0 : i = 0
    · subst h0
      have := hg.dep_ok.1
      rw [this] at hy; cases hy; omega
    · have hi := (List.getElem?_eq_some_iff.1 hy).1
      rw [hg.dep_len] at hi
      obtain ⟨j, z, h1, h2, h3, h4⟩ := hg.dep_ok.2 i (by omega) hi
      have := ih j h1 z h3
      rw [h4] at hy; cases hy; omega

set_option maxHeartbeats 4000000 in
theorem walk_depths (h : Env gp) (g : Gr) : Does Go.Proofs.Tryz.prog gp 5 [g.v] (vb true) := by
  refine f5_in ?_
  simp only [go_sem,reduceCtorEq,↓reduceIte,Qa,Qb,Qc,Qd,Qe,Qf,Qg,Qh,Qi,Qj,Qk,Ql,Qm,Qn,Qo,Qp,Qq,Qr]
  have cs := shown12_ok h
  have ct := tidied_g h g true
  have hsm := g.cut_small
  by_cases hc : chk g.cut = none
  · rw [tidied_t hc] at ct
    have hq : Tdy (tidyG g.cut) := Good.tdy ⟨hc, hsm⟩
    generalize tidyG g.cut = q at *
    have c1 := depths_g h hq
    have hl := hq.good.len
    have hpos := hq.pos
    have hdl := hq.dep_len
    have hd0 := hq.dep_ok.1
    have hdr := dep_r hq
    have hok : ∀ i, i < q.l.length → fromB q (depL q) i i = true := fun i hi => fromB_ok hq hi
    generalize depL q = ds at *
    have hsq := hq.good.s
    have hne1 : ((ds.length : Int) != (q.l.length : Int)) = false := by rw [hdl]; simp
    have hne0 : ((ds.length : Int) == 0) = false := by rw [beq_eq_false_iff_ne]; omega
    repeat' (first | refine Gx rfl ?_ | ((first | refine G_reg ?_ | refine VO_chk ?_ | refine VO_go ?_ | refine VO_gx ?_); simp only [f5_r0,f5_r1,f5_r2,f5_r3,f5_r4,f5_r5,f5_r11,f5_r12,f5_r18,f5_r19,f5_r24,f5_r25,f5_r26,f5_r31,f5_r32,f5_r37,f5_r39,f5_r46,f5_r52,f5_r53,f5_r62,f5_r68,hne1,hne0,go_sem,reduceCtorEq,↓reduceIte,Qa,Qb,Qc,Qd,Qe,Qf,Qg,Qh,Qi,Qj,Qk,Ql,Qm,Qn,Qo,Qp,Qq,Qr]) | refine VO_end ?_ | refine Sh.intro ?_ | refine ⟨_, cs, Sh.intro ?_⟩ | refine ⟨_, ⟨cs, rfl⟩, Sh.intro ?_⟩ | refine ⟨_, ct, Sh.intro ?_⟩ | refine ⟨_, ⟨ct, rfl⟩, Sh.intro ?_⟩ | refine ⟨_, c1, Sh.intro ?_⟩ | refine ⟨_, ⟨c1, rfl⟩, Sh.intro ?_⟩ | (refine G_cond ?_; simp only [f5_r0,f5_r1,f5_r2,f5_r3,f5_r4,f5_r5,f5_r11,f5_r12,f5_r18,f5_r19,f5_r24,f5_r25,f5_r26,f5_r31,f5_r32,f5_r37,f5_r39,f5_r46,f5_r52,f5_r53,f5_r62,f5_r68,hne1,hne0,go_sem,reduceCtorEq,↓reduceIte,Qa,Qb,Qc,Qd,Qe,Qf,Qg,Qh,Qi,Qj,Qk,Ql,Qm,Qn,Qo,Qp,Qq,Qr]; first | (refine ⟨fun _ => ?_, fun _ => ?_⟩ <;> try (exfalso; omega)) | skip) | (refine And.intro (fun _ => ?_) (fun _ => ?_) <;> try (exfalso; omega)) | ((first | refine G_fin ?_ | refine G_ret rfl ?_); simp only [f5_r0,f5_r1,f5_r2,f5_r3,f5_r4,f5_r5,f5_r11,f5_r12,f5_r18,f5_r19,f5_r24,f5_r25,f5_r26,f5_r31,f5_r32,f5_r37,f5_r39,f5_r46,f5_r52,f5_r53,f5_r62,f5_r68,hne1,hne0,or_self,Qs,Qt,Qu,Qv,Qw,Qx,Qy,Qz,Za,go_sem,reduceCtorEq,↓reduceIte,Qa,Qb,Qc,Qd,Qe,Qf,Qg,Qh,Qi,Qj,Qk,Ql,Qm,Qn,Qo,Qp,Qq,Qr]))
    refine ⟨_, ⟨map_at hd0, rfl⟩, Sh.intro ?_⟩
    repeat' (first | refine Gx rfl ?_ | ((first | refine G_reg ?_ | refine VO_chk ?_ | refine VO_go ?_ | refine VO_gx ?_); simp only [f5_r0,f5_r1,f5_r2,f5_r3,f5_r4,f5_r5,f5_r11,f5_r12,f5_r18,f5_r19,f5_r24,f5_r25,f5_r26,f5_r31,f5_r32,f5_r37,f5_r39,f5_r46,f5_r52,f5_r53,f5_r62,f5_r68,go_sem,reduceCtorEq,↓reduceIte,Qa,Qb,Qc,Qd,Qe,Qf,Qg,Qh,Qi,Qj,Qk,Ql,Qm,Qn,Qo,Qp,Qq,Qr]) | refine VO_end ?_ | refine Sh.intro ?_ | (refine G_cond ?_; simp only [f5_r0,f5_r1,f5_r2,f5_r3,f5_r4,f5_r5,f5_r11,f5_r12,f5_r18,f5_r19,f5_r24,f5_r25,f5_r26,f5_r31,f5_r32,f5_r37,f5_r39,f5_r46,f5_r52,f5_r53,f5_r62,f5_r68,go_sem,reduceCtorEq,↓reduceIte,Qa,Qb,Qc,Qd,Qe,Qf,Qg,Qh,Qi,Qj,Qk,Ql,Qm,Qn,Qo,Qp,Qq,Qr]; first | (refine ⟨fun _ => ?_, fun _ => ?_⟩ <;> try (exfalso; omega)) | skip) | (refine And.intro (fun _ => ?_) (fun _ => ?_) <;> try (exfalso; omega)) | ((first | refine G_fin ?_ | refine G_ret rfl ?_); simp only [f5_r0,f5_r1,f5_r2,f5_r3,f5_r4,f5_r5,f5_r11,f5_r12,f5_r18,f5_r19,f5_r24,f5_r25,f5_r26,f5_r31,f5_r32,f5_r37,f5_r39,f5_r46,f5_r52,f5_r53,f5_r62,f5_r68,or_self,Qs,Qt,Qu,Qv,Qw,Qx,Qy,Qz,Za,go_sem,reduceCtorEq,↓reduceIte,Qa,Qb,Qc,Qd,Qe,Qf,Qg,Qh,Qi,Qj,Qk,Ql,Qm,Qn,Qo,Qp,Qq,Qr]))
    all_goals first | (exfalso; omega) | skip
    refine G_weak (fr 96 [(1, .one (.ptr 0 0)), (3, vb true), (4, .one (.d (.sl (ints ds)))), (6, vi (0 : Nat))]) (by (simp only [go_sem,reduceCtorEq,↓reduceIte,Qa,Qb,Qc,Qd,Qe,Qf,Qg,Qh,Qi,Qj,Qk,Ql,Qm,Qn,Qo,Qp,Qq,Qr]; repeat' (first | refine And.intro ?_ ?_ | exact Or.inl rfl | exact Or.inr rfl | rfl))) ?_
    refine G_loop (fun mz sz => ∃ i : Nat, i ≤ q.l.length ∧ mz = q.l.length - i ∧ (0 ≤ i) ∧ sz = ⟨fr 96 [(1, .one (.ptr 0 0)), (3, vb true), (4, .one (.d (.sl (ints ds)))), (6, vi i)], [.cells q.as]⟩) (q.l.length) ⟨0, Nat.zero_le _, (Nat.sub_zero _).symm, ?_, rfl⟩ ?_
    · exact Nat.zero_le _
    rintro _ _ ⟨i, hi, rfl, -, rfl⟩
    simp only [go_sem,reduceCtorEq,↓reduceIte,Qa,Qb,Qc,Qd,Qe,Qf,Qg,Qh,Qi,Qj,Qk,Ql,Qm,Qn,Qo,Qp,Qq,Qr]
    by_cases hil : i < q.l.length
    · obtain ⟨di, hdi⟩ := at_lt (l := ds) (i := i) (by omega)
      have hoki := hok i hil
      repeat' (first | refine Gx rfl ?_ | ((first | refine G_reg ?_ | refine VO_chk ?_ | refine VO_go ?_ | refine VO_gx ?_); simp only [f5_r0,f5_r1,f5_r2,f5_r3,f5_r4,f5_r5,f5_r11,f5_r12,f5_r18,f5_r19,f5_r24,f5_r25,f5_r26,f5_r31,f5_r32,f5_r37,f5_r39,f5_r46,f5_r52,f5_r53,f5_r62,f5_r68,go_sem,reduceCtorEq,↓reduceIte,Qa,Qb,Qc,Qd,Qe,Qf,Qg,Qh,Qi,Qj,Qk,Ql,Qm,Qn,Qo,Qp,Qq,Qr]) | refine VO_end ?_ | refine Sh.intro ?_ | (refine G_cond ?_; simp only [f5_r0,f5_r1,f5_r2,f5_r3,f5_r4,f5_r5,f5_r11,f5_r12,f5_r18,f5_r19,f5_r24,f5_r25,f5_r26,f5_r31,f5_r32,f5_r37,f5_r39,f5_r46,f5_r52,f5_r53,f5_r62,f5_r68,go_sem,reduceCtorEq,↓reduceIte,Qa,Qb,Qc,Qd,Qe,Qf,Qg,Qh,Qi,Qj,Qk,Ql,Qm,Qn,Qo,Qp,Qq,Qr]; first | (refine ⟨fun _ => ?_, fun _ => ?_⟩ <;> try (exfalso; omega)) | skip) | (refine And.intro (fun _ => ?_) (fun _ => ?_) <;> try (exfalso; omega)) | ((first | refine G_fin ?_ | refine G_ret rfl ?_); simp only [f5_r0,f5_r1,f5_r2,f5_r3,f5_r4,f5_r5,f5_r11,f5_r12,f5_r18,f5_r19,f5_r24,f5_r25,f5_r26,f5_r31,f5_r32,f5_r37,f5_r39,f5_r46,f5_r52,f5_r53,f5_r62,f5_r68,or_self,Qs,Qt,Qu,Qv,Qw,Qx,Qy,Qz,Za,go_sem,reduceCtorEq,↓reduceIte,Qa,Qb,Qc,Qd,Qe,Qf,Qg,Qh,Qi,Qj,Qk,Ql,Qm,Qn,Qo,Qp,Qq,Qr]))
      all_goals first | (exfalso; omega) | skip
      rw [show ((i : Int) == 0) = fromB q ds i 0 from rfl]
      refine G_weak (fr 96 [(1, .one (.ptr 0 0)), (3, vb true), (4, .one (.d (.sl (ints ds)))), (6, vi i), (7, vb (fromB q ds i (0 : Nat))), (8, vi (0 : Nat))]) (by (simp only [go_sem,reduceCtorEq,↓reduceIte,Qa,Qb,Qc,Qd,Qe,Qf,Qg,Qh,Qi,Qj,Qk,Ql,Qm,Qn,Qo,Qp,Qq,Qr]; repeat' (first | refine And.intro ?_ ?_ | exact Or.inl rfl | exact Or.inr rfl | rfl))) ?_
      refine G_loop (fun mz sz => ∃ j : Nat, j ≤ i ∧ mz = i - j ∧ (0 ≤ j) ∧ sz = ⟨fr 96 [(1, .one (.ptr 0 0)), (3, vb true), (4, .one (.d (.sl (ints ds)))), (6, vi i), (7, vb (fromB q ds i j)), (8, vi j)], [.cells q.as]⟩) (i) ⟨0, Nat.zero_le _, (Nat.sub_zero _).symm, ?_, rfl⟩ ?_
      · exact Nat.zero_le _
      rintro _ _ ⟨j, hj, rfl, -, rfl⟩
      simp only [go_sem,reduceCtorEq,↓reduceIte,Qa,Qb,Qc,Qd,Qe,Qf,Qg,Qh,Qi,Qj,Qk,Ql,Qm,Qn,Qo,Qp,Qq,Qr]
      by_cases hjl : j < i
      · obtain ⟨x, hx⟩ := at_lt (l := q.l) (i := j) (by omega)
        obtain ⟨dj, hdj⟩ := at_lt (l := ds) (i := j) (by omega)
        have hs : fromB q ds i (j + 1) = (fromB q ds i j || x.kids.any fun k => k == (i : Int) && di == dj + 1) := by
          show (fromB q ds i j || fromP q ds i j) = _
          simp only [fromP, hx, hdi, hdj, Option.getD_some]
        generalize fromB q ds i j = b0 at *
        have hkl : x.kids.length < lenMax := by have := (hsq x (List.mem_of_getElem? hx)).2; unfold lenMax; omega
        repeat' (first | refine Gx rfl ?_ | ((first | refine G_reg ?_ | refine VO_chk ?_ | refine VO_go ?_ | refine VO_gx ?_); simp only [f5_r0,f5_r1,f5_r2,f5_r3,f5_r4,f5_r5,f5_r11,f5_r12,f5_r18,f5_r19,f5_r24,f5_r25,f5_r26,f5_r31,f5_r32,f5_r37,f5_r39,f5_r46,f5_r52,f5_r53,f5_r62,f5_r68,go_sem,reduceCtorEq,↓reduceIte,Qa,Qb,Qc,Qd,Qe,Qf,Qg,Qh,Qi,Qj,Qk,Ql,Qm,Qn,Qo,Qp,Qq,Qr]) | refine VO_end ?_ | refine Sh.intro ?_ | refine ⟨_, ⟨Int.natCast_nonneg _, (by first | exact map_at hx | (rw [Int.toNat_natCast]; exact map_at hx)), rfl⟩, Sh.intro ?_⟩ | (refine G_cond ?_; simp only [f5_r0,f5_r1,f5_r2,f5_r3,f5_r4,f5_r5,f5_r11,f5_r12,f5_r18,f5_r19,f5_r24,f5_r25,f5_r26,f5_r31,f5_r32,f5_r37,f5_r39,f5_r46,f5_r52,f5_r53,f5_r62,f5_r68,go_sem,reduceCtorEq,↓reduceIte,Qa,Qb,Qc,Qd,Qe,Qf,Qg,Qh,Qi,Qj,Qk,Ql,Qm,Qn,Qo,Qp,Qq,Qr]; first | (refine ⟨fun _ => ?_, fun _ => ?_⟩ <;> try (exfalso; omega)) | skip) | (refine And.intro (fun _ => ?_) (fun _ => ?_) <;> try (exfalso; omega)) | ((first | refine G_fin ?_ | refine G_ret rfl ?_); simp only [f5_r0,f5_r1,f5_r2,f5_r3,f5_r4,f5_r5,f5_r11,f5_r12,f5_r18,f5_r19,f5_r24,f5_r25,f5_r26,f5_r31,f5_r32,f5_r37,f5_r39,f5_r46,f5_r52,f5_r53,f5_r62,f5_r68,or_self,Qs,Qt,Qu,Qv,Qw,Qx,Qy,Qz,Za,go_sem,reduceCtorEq,↓reduceIte,Qa,Qb,Qc,Qd,Qe,Qf,Qg,Qh,Qi,Qj,Qk,Ql,Qm,Qn,Qo,Qp,Qq,Qr]))
        all_goals first | (exfalso; omega) | skip
        have h0 : b0 = (b0 || (x.kids.take 0).any fun k => k == (i : Int) && di == dj + 1) := by simp
        rw [h0]
        refine G_weak (fr 96 [(1, .one (.ptr 0 0)), (3, vb true), (4, .one (.d (.sl (ints ds)))), (6, vi i), (7, vb (b0 || (x.kids.take 0).any fun k => k == (i : Int) && di == dj + 1)), (8, vi j), (9, vi (0 : Nat))]) (by (simp only [go_sem,reduceCtorEq,↓reduceIte,Qa,Qb,Qc,Qd,Qe,Qf,Qg,Qh,Qi,Qj,Qk,Ql,Qm,Qn,Qo,Qp,Qq,Qr]; repeat' (first | refine And.intro ?_ ?_ | exact Or.inl rfl | exact Or.inr rfl | rfl))) ?_
        refine G_loop (fun mz sz => ∃ k : Nat, k ≤ x.kids.length ∧ mz = x.kids.length - k ∧ sz = ⟨fr 96 [(1, .one (.ptr 0 0)), (3, vb true), (4, .one (.d (.sl (ints ds)))), (6, vi i), (7, vb (b0 || (x.kids.take k).any fun k => k == (i : Int) && di == dj + 1)), (8, vi j), (9, vi k)], [.cells q.as]⟩) _ ⟨0, Nat.zero_le _, rfl, rfl⟩ ?_
        rintro _ _ ⟨k, hk, rfl, rfl⟩
        simp only [go_sem,reduceCtorEq,↓reduceIte,Qa,Qb,Qc,Qd,Qe,Qf,Qg,Qh,Qi,Qj,Qk,Ql,Qm,Qn,Qo,Qp,Qq,Qr]
        by_cases hkl2 : k < x.kids.length
        · obtain ⟨y, hy⟩ := at_lt hkl2
          have hs2 : (b0 || (x.kids.take (k + 1)).any fun k => k == (i : Int) && di == dj + 1) = ((b0 || (x.kids.take k).any fun k => k == (i : Int) && di == dj + 1) || (y == (i : Int) && di == dj + 1)) := by
            simp only [List.take_succ, hy]; simp [Bool.or_assoc]
          generalize (b0 || (x.kids.take k).any fun k => k == (i : Int) && di == dj + 1) = b1 at *
          have hr := hdr j dj hdj
          cases b1 with
          | false =>
            by_cases hyi : y = (i : Int)
            · have hyb : (y == (i : Int)) = true := by rw [hyi]; simp
              repeat' (first | refine Gx rfl ?_ | ((first | refine G_reg ?_ | refine VO_chk ?_ | refine VO_go ?_ | refine VO_gx ?_); simp only [f5_r0,f5_r1,f5_r2,f5_r3,f5_r4,f5_r5,f5_r11,f5_r12,f5_r18,f5_r19,f5_r24,f5_r25,f5_r26,f5_r31,f5_r32,f5_r37,f5_r39,f5_r46,f5_r52,f5_r53,f5_r62,f5_r68,hyb,go_sem,reduceCtorEq,↓reduceIte,Qa,Qb,Qc,Qd,Qe,Qf,Qg,Qh,Qi,Qj,Qk,Ql,Qm,Qn,Qo,Qp,Qq,Qr]) | refine VO_end ?_ | refine Sh.intro ?_ | refine ⟨_, ⟨Int.natCast_nonneg _, (by first | exact map_at hx | (rw [Int.toNat_natCast]; exact map_at hx)), rfl⟩, Sh.intro ?_⟩ | refine ⟨_, ⟨Int.natCast_nonneg _, (by first | exact map_at hy | (rw [Int.toNat_natCast]; exact map_at hy)), rfl⟩, Sh.intro ?_⟩ | refine ⟨_, ⟨Int.natCast_nonneg _, (by first | exact map_at hdi | (rw [Int.toNat_natCast]; exact map_at hdi)), rfl⟩, Sh.intro ?_⟩ | refine ⟨_, ⟨Int.natCast_nonneg _, (by first | exact map_at hdj | (rw [Int.toNat_natCast]; exact map_at hdj)), rfl⟩, Sh.intro ?_⟩ | refine ⟨inK_small (by omega) (by omega), ?_⟩ | (refine G_cond ?_; simp only [f5_r0,f5_r1,f5_r2,f5_r3,f5_r4,f5_r5,f5_r11,f5_r12,f5_r18,f5_r19,f5_r24,f5_r25,f5_r26,f5_r31,f5_r32,f5_r37,f5_r39,f5_r46,f5_r52,f5_r53,f5_r62,f5_r68,hyb,go_sem,reduceCtorEq,↓reduceIte,Qa,Qb,Qc,Qd,Qe,Qf,Qg,Qh,Qi,Qj,Qk,Ql,Qm,Qn,Qo,Qp,Qq,Qr]; first | (refine ⟨fun _ => ?_, fun _ => ?_⟩ <;> try (exfalso; omega)) | skip) | (refine And.intro (fun _ => ?_) (fun _ => ?_) <;> try (exfalso; omega)) | ((first | refine G_fin ?_ | refine G_ret rfl ?_); simp only [f5_r0,f5_r1,f5_r2,f5_r3,f5_r4,f5_r5,f5_r11,f5_r12,f5_r18,f5_r19,f5_r24,f5_r25,f5_r26,f5_r31,f5_r32,f5_r37,f5_r39,f5_r46,f5_r52,f5_r53,f5_r62,f5_r68,hyb,or_self,Qs,Qt,Qu,Qv,Qw,Qx,Qy,Qz,Za,go_sem,reduceCtorEq,↓reduceIte,Qa,Qb,Qc,Qd,Qe,Qf,Qg,Qh,Qi,Qj,Qk,Ql,Qm,Qn,Qo,Qp,Qq,Qr]))
              all_goals first | (exfalso; omega) | skip
              have e7 : (di == dj + 1) = (b0 || (x.kids.take (k + 1)).any fun k => k == (i : Int) && di == dj + 1) := by rw [hs2, hyb]; rfl
              refine ⟨inK_nat hkl2 hkl, ?_⟩
              refine G_weak (fr 96 [(1, .one (.ptr 0 0)), (3, vb true), (4, .one (.d (.sl (ints ds)))), (6, vi i), (7, vb (di == dj + 1)), (8, vi j), (9, vi (k + 1 : Nat))]) (by (simp only [go_sem,reduceCtorEq,↓reduceIte,Qa,Qb,Qc,Qd,Qe,Qf,Qg,Qh,Qi,Qj,Qk,Ql,Qm,Qn,Qo,Qp,Qq,Qr]; repeat' (first | refine And.intro ?_ ?_ | exact Or.inl rfl | exact Or.inr rfl | rfl))) ?_
              rw [show (7, vb (di == dj + 1)) = ((7, vb (b0 || (x.kids.take (k + 1)).any fun k => k == (i : Int) && di == dj + 1)) : Nat × V) from by rw [← e7]]
              exact G_again ⟨x.kids.length - (k + 1), by omega, k + 1, by omega, rfl, rfl⟩
            · have hyb : (y == (i : Int)) = false := by rw [beq_eq_false_iff_ne]; exact hyi
              repeat' (first | refine Gx rfl ?_ | ((first | refine G_reg ?_ | refine VO_chk ?_ | refine VO_go ?_ | refine VO_gx ?_); simp only [f5_r0,f5_r1,f5_r2,f5_r3,f5_r4,f5_r5,f5_r11,f5_r12,f5_r18,f5_r19,f5_r24,f5_r25,f5_r26,f5_r31,f5_r32,f5_r37,f5_r39,f5_r46,f5_r52,f5_r53,f5_r62,f5_r68,hyb,go_sem,reduceCtorEq,↓reduceIte,Qa,Qb,Qc,Qd,Qe,Qf,Qg,Qh,Qi,Qj,Qk,Ql,Qm,Qn,Qo,Qp,Qq,Qr]) | refine VO_end ?_ | refine Sh.intro ?_ | refine ⟨_, ⟨Int.natCast_nonneg _, (by first | exact map_at hx | (rw [Int.toNat_natCast]; exact map_at hx)), rfl⟩, Sh.intro ?_⟩ | refine ⟨_, ⟨Int.natCast_nonneg _, (by first | exact map_at hy | (rw [Int.toNat_natCast]; exact map_at hy)), rfl⟩, Sh.intro ?_⟩ | (refine G_cond ?_; simp only [f5_r0,f5_r1,f5_r2,f5_r3,f5_r4,f5_r5,f5_r11,f5_r12,f5_r18,f5_r19,f5_r24,f5_r25,f5_r26,f5_r31,f5_r32,f5_r37,f5_r39,f5_r46,f5_r52,f5_r53,f5_r62,f5_r68,hyb,go_sem,reduceCtorEq,↓reduceIte,Qa,Qb,Qc,Qd,Qe,Qf,Qg,Qh,Qi,Qj,Qk,Ql,Qm,Qn,Qo,Qp,Qq,Qr]; first | (refine ⟨fun _ => ?_, fun _ => ?_⟩ <;> try (exfalso; omega)) | skip) | (refine And.intro (fun _ => ?_) (fun _ => ?_) <;> try (exfalso; omega)) | ((first | refine G_fin ?_ | refine G_ret rfl ?_); simp only [f5_r0,f5_r1,f5_r2,f5_r3,f5_r4,f5_r5,f5_r11,f5_r12,f5_r18,f5_r19,f5_r24,f5_r25,f5_r26,f5_r31,f5_r32,f5_r37,f5_r39,f5_r46,f5_r52,f5_r53,f5_r62,f5_r68,hyb,or_self,Qs,Qt,Qu,Qv,Qw,Qx,Qy,Qz,Za,go_sem,reduceCtorEq,↓reduceIte,Qa,Qb,Qc,Qd,Qe,Qf,Qg,Qh,Qi,Qj,Qk,Ql,Qm,Qn,Qo,Qp,Qq,Qr]))
              all_goals first | (exfalso; omega) | skip
              have e7 : false = (b0 || (x.kids.take (k + 1)).any fun k => k == (i : Int) && di == dj + 1) := by rw [hs2, hyb]; rfl
              refine ⟨inK_nat hkl2 hkl, ?_⟩
              refine G_weak (fr 96 [(1, .one (.ptr 0 0)), (3, vb true), (4, .one (.d (.sl (ints ds)))), (6, vi i), (7, vb false), (8, vi j), (9, vi (k + 1 : Nat))]) (by (simp only [go_sem,reduceCtorEq,↓reduceIte,Qa,Qb,Qc,Qd,Qe,Qf,Qg,Qh,Qi,Qj,Qk,Ql,Qm,Qn,Qo,Qp,Qq,Qr]; repeat' (first | refine And.intro ?_ ?_ | exact Or.inl rfl | exact Or.inr rfl | rfl))) ?_
              rw [show vb false = vb (b0 || (x.kids.take (k + 1)).any fun k => k == (i : Int) && di == dj + 1) from by rw [← e7]]
              exact G_again ⟨x.kids.length - (k + 1), by omega, k + 1, by omega, rfl, rfl⟩
          | true =>
            repeat' (first | refine Gx rfl ?_ | ((first | refine G_reg ?_ | refine VO_chk ?_ | refine VO_go ?_ | refine VO_gx ?_); simp only [f5_r0,f5_r1,f5_r2,f5_r3,f5_r4,f5_r5,f5_r11,f5_r12,f5_r18,f5_r19,f5_r24,f5_r25,f5_r26,f5_r31,f5_r32,f5_r37,f5_r39,f5_r46,f5_r52,f5_r53,f5_r62,f5_r68,go_sem,reduceCtorEq,↓reduceIte,Qa,Qb,Qc,Qd,Qe,Qf,Qg,Qh,Qi,Qj,Qk,Ql,Qm,Qn,Qo,Qp,Qq,Qr]) | refine VO_end ?_ | refine Sh.intro ?_ | refine ⟨_, ⟨Int.natCast_nonneg _, (by first | exact map_at hx | (rw [Int.toNat_natCast]; exact map_at hx)), rfl⟩, Sh.intro ?_⟩ | refine ⟨_, ⟨Int.natCast_nonneg _, (by first | exact map_at hy | (rw [Int.toNat_natCast]; exact map_at hy)), rfl⟩, Sh.intro ?_⟩ | (refine G_cond ?_; simp only [f5_r0,f5_r1,f5_r2,f5_r3,f5_r4,f5_r5,f5_r11,f5_r12,f5_r18,f5_r19,f5_r24,f5_r25,f5_r26,f5_r31,f5_r32,f5_r37,f5_r39,f5_r46,f5_r52,f5_r53,f5_r62,f5_r68,go_sem,reduceCtorEq,↓reduceIte,Qa,Qb,Qc,Qd,Qe,Qf,Qg,Qh,Qi,Qj,Qk,Ql,Qm,Qn,Qo,Qp,Qq,Qr]; first | (refine ⟨fun _ => ?_, fun _ => ?_⟩ <;> try (exfalso; omega)) | skip) | (refine And.intro (fun _ => ?_) (fun _ => ?_) <;> try (exfalso; omega)) | ((first | refine G_fin ?_ | refine G_ret rfl ?_); simp only [f5_r0,f5_r1,f5_r2,f5_r3,f5_r4,f5_r5,f5_r11,f5_r12,f5_r18,f5_r19,f5_r24,f5_r25,f5_r26,f5_r31,f5_r32,f5_r37,f5_r39,f5_r46,f5_r52,f5_r53,f5_r62,f5_r68,or_self,Qs,Qt,Qu,Qv,Qw,Qx,Qy,Qz,Za,go_sem,reduceCtorEq,↓reduceIte,Qa,Qb,Qc,Qd,Qe,Qf,Qg,Qh,Qi,Qj,Qk,Ql,Qm,Qn,Qo,Qp,Qq,Qr]))
            all_goals first | (exfalso; omega) | skip
            have e7 : true = (b0 || (x.kids.take (k + 1)).any fun k => k == (i : Int) && di == dj + 1) := by rw [hs2]; rfl
            refine ⟨inK_nat hkl2 hkl, ?_⟩
            refine G_weak (fr 96 [(1, .one (.ptr 0 0)), (3, vb true), (4, .one (.d (.sl (ints ds)))), (6, vi i), (7, vb true), (8, vi j), (9, vi (k + 1 : Nat))]) (by (simp only [go_sem,reduceCtorEq,↓reduceIte,Qa,Qb,Qc,Qd,Qe,Qf,Qg,Qh,Qi,Qj,Qk,Ql,Qm,Qn,Qo,Qp,Qq,Qr]; repeat' (first | refine And.intro ?_ ?_ | exact Or.inl rfl | exact Or.inr rfl | rfl))) ?_
            rw [show (7, vb true) = ((7, vb (b0 || (x.kids.take (k + 1)).any fun k => k == (i : Int) && di == dj + 1)) : Nat × V) from by rw [← e7]]
            exact G_again ⟨x.kids.length - (k + 1), by omega, k + 1, by omega, rfl, rfl⟩
        · obtain rfl : x.kids.length = k := by omega
          rw [List.take_of_length_le (Nat.le_refl x.kids.length), ← hs]
          repeat' (first | refine Gx rfl ?_ | ((first | refine G_reg ?_ | refine VO_chk ?_ | refine VO_go ?_ | refine VO_gx ?_); simp only [f5_r0,f5_r1,f5_r2,f5_r3,f5_r4,f5_r5,f5_r11,f5_r12,f5_r18,f5_r19,f5_r24,f5_r25,f5_r26,f5_r31,f5_r32,f5_r37,f5_r39,f5_r46,f5_r52,f5_r53,f5_r62,f5_r68,go_sem,reduceCtorEq,↓reduceIte,Qa,Qb,Qc,Qd,Qe,Qf,Qg,Qh,Qi,Qj,Qk,Ql,Qm,Qn,Qo,Qp,Qq,Qr]) | refine VO_end ?_ | refine Sh.intro ?_ | refine ⟨_, ⟨Int.natCast_nonneg _, (by first | exact map_at hx | (rw [Int.toNat_natCast]; exact map_at hx)), rfl⟩, Sh.intro ?_⟩ | (refine G_cond ?_; simp only [f5_r0,f5_r1,f5_r2,f5_r3,f5_r4,f5_r5,f5_r11,f5_r12,f5_r18,f5_r19,f5_r24,f5_r25,f5_r26,f5_r31,f5_r32,f5_r37,f5_r39,f5_r46,f5_r52,f5_r53,f5_r62,f5_r68,go_sem,reduceCtorEq,↓reduceIte,Qa,Qb,Qc,Qd,Qe,Qf,Qg,Qh,Qi,Qj,Qk,Ql,Qm,Qn,Qo,Qp,Qq,Qr]; first | (refine ⟨fun _ => ?_, fun _ => ?_⟩ <;> try (exfalso; omega)) | skip) | (refine And.intro (fun _ => ?_) (fun _ => ?_) <;> try (exfalso; omega)) | ((first | refine G_fin ?_ | refine G_ret rfl ?_); simp only [f5_r0,f5_r1,f5_r2,f5_r3,f5_r4,f5_r5,f5_r11,f5_r12,f5_r18,f5_r19,f5_r24,f5_r25,f5_r26,f5_r31,f5_r32,f5_r37,f5_r39,f5_r46,f5_r52,f5_r53,f5_r62,f5_r68,or_self,Qs,Qt,Qu,Qv,Qw,Qx,Qy,Qz,Za,go_sem,reduceCtorEq,↓reduceIte,Qa,Qb,Qc,Qd,Qe,Qf,Qg,Qh,Qi,Qj,Qk,Ql,Qm,Qn,Qo,Qp,Qq,Qr]))
          all_goals first | (exfalso; omega) | skip
          refine ⟨inK_nat (by omega : j < q.l.length) (by unfold lenMax; omega), ?_⟩
          refine G_weak (fr 96 [(1, .one (.ptr 0 0)), (3, vb true), (4, .one (.d (.sl (ints ds)))), (6, vi i), (7, vb (fromB q ds i (j + 1))), (8, vi (j + 1))]) (by (simp only [go_sem,reduceCtorEq,↓reduceIte,Qa,Qb,Qc,Qd,Qe,Qf,Qg,Qh,Qi,Qj,Qk,Ql,Qm,Qn,Qo,Qp,Qq,Qr]; repeat' (first | refine And.intro ?_ ?_ | exact Or.inl rfl | exact Or.inr rfl | rfl))) ?_
          refine G_again ⟨i - (j + 1), by omega, j + 1, by omega, rfl, ?_, rfl⟩
          exact Nat.zero_le _
      · obtain rfl : i = j := by omega
        rw [hoki]
        repeat' (first | refine Gx rfl ?_ | ((first | refine G_reg ?_ | refine VO_chk ?_ | refine VO_go ?_ | refine VO_gx ?_); simp only [f5_r0,f5_r1,f5_r2,f5_r3,f5_r4,f5_r5,f5_r11,f5_r12,f5_r18,f5_r19,f5_r24,f5_r25,f5_r26,f5_r31,f5_r32,f5_r37,f5_r39,f5_r46,f5_r52,f5_r53,f5_r62,f5_r68,go_sem,reduceCtorEq,↓reduceIte,Qa,Qb,Qc,Qd,Qe,Qf,Qg,Qh,Qi,Qj,Qk,Ql,Qm,Qn,Qo,Qp,Qq,Qr]) | refine VO_end ?_ | refine Sh.intro ?_ | (refine G_cond ?_; simp only [f5_r0,f5_r1,f5_r2,f5_r3,f5_r4,f5_r5,f5_r11,f5_r12,f5_r18,f5_r19,f5_r24,f5_r25,f5_r26,f5_r31,f5_r32,f5_r37,f5_r39,f5_r46,f5_r52,f5_r53,f5_r62,f5_r68,go_sem,reduceCtorEq,↓reduceIte,Qa,Qb,Qc,Qd,Qe,Qf,Qg,Qh,Qi,Qj,Qk,Ql,Qm,Qn,Qo,Qp,Qq,Qr]; first | (refine ⟨fun _ => ?_, fun _ => ?_⟩ <;> try (exfalso; omega)) | skip) | (refine And.intro (fun _ => ?_) (fun _ => ?_) <;> try (exfalso; omega)) | ((first | refine G_fin ?_ | refine G_ret rfl ?_); simp only [f5_r0,f5_r1,f5_r2,f5_r3,f5_r4,f5_r5,f5_r11,f5_r12,f5_r18,f5_r19,f5_r24,f5_r25,f5_r26,f5_r31,f5_r32,f5_r37,f5_r39,f5_r46,f5_r52,f5_r53,f5_r62,f5_r68,or_self,Qs,Qt,Qu,Qv,Qw,Qx,Qy,Qz,Za,go_sem,reduceCtorEq,↓reduceIte,Qa,Qb,Qc,Qd,Qe,Qf,Qg,Qh,Qi,Qj,Qk,Ql,Qm,Qn,Qo,Qp,Qq,Qr]))
        all_goals first | (exfalso; omega) | skip
        refine ⟨inK_nat hil (by unfold lenMax; omega), ?_⟩
        refine G_weak (fr 96 [(1, .one (.ptr 0 0)), (3, vb true), (4, .one (.d (.sl (ints ds)))), (6, vi (i + 1))]) (by (simp only [go_sem,reduceCtorEq,↓reduceIte,Qa,Qb,Qc,Qd,Qe,Qf,Qg,Qh,Qi,Qj,Qk,Ql,Qm,Qn,Qo,Qp,Qq,Qr]; repeat' (first | refine And.intro ?_ ?_ | exact Or.inl rfl | exact Or.inr rfl | rfl))) ?_
        refine G_again ⟨q.l.length - (i + 1), by omega, i + 1, by omega, rfl, ?_, rfl⟩
        exact Nat.zero_le _
    · obtain rfl : q.l.length = i := by omega
      repeat' (first | refine Gx rfl ?_ | ((first | refine G_reg ?_ | refine VO_chk ?_ | refine VO_go ?_ | refine VO_gx ?_); simp only [f5_r0,f5_r1,f5_r2,f5_r3,f5_r4,f5_r5,f5_r11,f5_r12,f5_r18,f5_r19,f5_r24,f5_r25,f5_r26,f5_r31,f5_r32,f5_r37,f5_r39,f5_r46,f5_r52,f5_r53,f5_r62,f5_r68,go_sem,reduceCtorEq,↓reduceIte,Qa,Qb,Qc,Qd,Qe,Qf,Qg,Qh,Qi,Qj,Qk,Ql,Qm,Qn,Qo,Qp,Qq,Qr]) | refine VO_end ?_ | refine Sh.intro ?_ | (refine G_cond ?_; simp only [f5_r0,f5_r1,f5_r2,f5_r3,f5_r4,f5_r5,f5_r11,f5_r12,f5_r18,f5_r19,f5_r24,f5_r25,f5_r26,f5_r31,f5_r32,f5_r37,f5_r39,f5_r46,f5_r52,f5_r53,f5_r62,f5_r68,go_sem,reduceCtorEq,↓reduceIte,Qa,Qb,Qc,Qd,Qe,Qf,Qg,Qh,Qi,Qj,Qk,Ql,Qm,Qn,Qo,Qp,Qq,Qr]; first | (refine ⟨fun _ => ?_, fun _ => ?_⟩ <;> try (exfalso; omega)) | skip) | (refine And.intro (fun _ => ?_) (fun _ => ?_) <;> try (exfalso; omega)) | ((first | refine G_fin ?_ | refine G_ret rfl ?_); simp only [f5_r0,f5_r1,f5_r2,f5_r3,f5_r4,f5_r5,f5_r11,f5_r12,f5_r18,f5_r19,f5_r24,f5_r25,f5_r26,f5_r31,f5_r32,f5_r37,f5_r39,f5_r46,f5_r52,f5_r53,f5_r62,f5_r68,or_self,Qs,Qt,Qu,Qv,Qw,Qx,Qy,Qz,Za,go_sem,reduceCtorEq,↓reduceIte,Qa,Qb,Qc,Qd,Qe,Qf,Qg,Qh,Qi,Qj,Qk,Ql,Qm,Qn,Qo,Qp,Qq,Qr]))
      all_goals first | (exfalso; omega) | trace_state
  · rw [tidied_n hc] at ct
    have hn : ¬ (chk g.cut = none ∧ g.cut = tidyG g.cut) := fun e => hc e.1
    generalize g.cut = q at *
    have c1 := depths_bad h hsm hn
    repeat' (first | refine Gx rfl ?_ | ((first | refine G_reg ?_ | refine VO_chk ?_ | refine VO_go ?_ | refine VO_gx ?_); simp only [f5_r0,f5_r1,f5_r2,f5_r3,f5_r4,f5_r5,f5_r11,f5_r12,f5_r18,f5_r19,f5_r24,f5_r25,f5_r26,f5_r31,f5_r32,f5_r37,f5_r39,f5_r46,f5_r52,f5_r53,f5_r62,f5_r68,go_sem,reduceCtorEq,↓reduceIte,Qa,Qb,Qc,Qd,Qe,Qf,Qg,Qh,Qi,Qj,Qk,Ql,Qm,Qn,Qo,Qp,Qq,Qr]) | refine VO_end ?_ | refine Sh.intro ?_ | refine ⟨_, cs, Sh.intro ?_⟩ | refine ⟨_, ⟨cs, rfl⟩, Sh.intro ?_⟩ | refine ⟨_, ct, Sh.intro ?_⟩ | refine ⟨_, ⟨ct, rfl⟩, Sh.intro ?_⟩ | refine ⟨_, c1, Sh.intro ?_⟩ | refine ⟨_, ⟨c1, rfl⟩, Sh.intro ?_⟩ | (refine G_cond ?_; simp only [f5_r0,f5_r1,f5_r2,f5_r3,f5_r4,f5_r5,f5_r11,f5_r12,f5_r18,f5_r19,f5_r24,f5_r25,f5_r26,f5_r31,f5_r32,f5_r37,f5_r39,f5_r46,f5_r52,f5_r53,f5_r62,f5_r68,go_sem,reduceCtorEq,↓reduceIte,Qa,Qb,Qc,Qd,Qe,Qf,Qg,Qh,Qi,Qj,Qk,Ql,Qm,Qn,Qo,Qp,Qq,Qr]; first | (refine ⟨fun _ => ?_, fun _ => ?_⟩ <;> try (exfalso; omega)) | skip) | (refine And.intro (fun _ => ?_) (fun _ => ?_) <;> try (exfalso; omega)) | ((first | refine G_fin ?_ | refine G_ret rfl ?_); simp only [f5_r0,f5_r1,f5_r2,f5_r3,f5_r4,f5_r5,f5_r11,f5_r12,f5_r18,f5_r19,f5_r24,f5_r25,f5_r26,f5_r31,f5_r32,f5_r37,f5_r39,f5_r46,f5_r52,f5_r53,f5_r62,f5_r68,or_self,Qs,Qt,Qu,Qv,Qw,Qx,Qy,Qz,Za,go_sem,reduceCtorEq,↓reduceIte,Qa,Qb,Qc,Qd,Qe,Qf,Qg,Qh,Qi,Qj,Qk,Ql,Qm,Qn,Qo,Qp,Qq,Qr]))
    all_goals trace_state
end Go.Fw.L07
