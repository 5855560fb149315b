/- Chapter 12: the law WalkSums. -/
import Derived.Test.YtfonfncokpdaaaaGreatDoorEb
set_option linter.all false
namespace Go.Fw.L07
open Go Go.Fw
open Nat renaming reduceAdd → Qa, reduceSub → Qb, reduceMul → Qc, reduceLeDiff → Qd, reduceLT → Qe, reduceEqDiff → Qf
open Int renaming reduceToNat → Qg, reduceLT → Qh, reduceLE → Qi, reduceGT → Qj, reduceGE → Qk, reduceEq → Ql, reduceNe → Qm, reduceBEq → Qn, reduceBNe → Qo, reduceAdd → Qp, reduceSub → Qq, reduceNeg → Qr
open Go.Fw.V.one renaming injEq → Qs
open Go.Fw.V.agg renaming injEq → Qt
open Go.Fw.V.tup renaming injEq → Qu
open Go.Fw.A.d renaming injEq → Qv
open Go.Fw.D.bool renaming injEq → Qw
open Go.Fw.D.int renaming injEq → Qx
open Go.Fw.D.str renaming injEq → Qy
open Go.Fw.D.sl renaming injEq → Qz
open List.cons renaming injEq → Za
set_option maxRecDepth 4000
variable {gp : Heap}

def sumF (g : Gr) (j : Nat) : Int := ((g.l[j]?).map fun x => (x.kids.length : Int)).getD 0 - ((usesL g)[j]?).getD 0
theorem sumN_sub (f g : Nat → Int) : ∀ n, sumN (fun i => f i - g i) n = sumN f n - sumN g n
  | 0 => rfl
  | n + 1 => by simp only [sumN, sumN_sub f g n]; omega
theorem sumN_bound {f : Nat → Int} {c : Int} {n : Nat} (h : ∀ j, j < n → -c ≤ f j ∧ f j ≤ c) : ∀ i, i ≤ n → -(c * i) ≤ sumN f i ∧ sumN f i ≤ c * i
  | 0, _ => by simp [sumN]
  | i + 1, hi => by
    have h1 := sumN_bound h i (by omega)
    have h2 := h i (by omega)
    simp only [sumN]
    have : c * ((i + 1 : Nat) : Int) = c * (i : Int) + c := by rw [Int.natCast_add, Int.mul_add]; simp
    omega
theorem sums_all {g : Gr} (hg : Tdy g) : 1 + sumN (sumF g) g.l.length = 0 := by
  have h1 : sumN (sumF g) g.l.length = sumN (fun j => ((g.l[j]?).map fun x => (x.kids.length : Int)).getD 0) g.l.length - sumN (fun j => ((usesL g)[j]?).getD 0) g.l.length := sumN_sub _ _ _
  have h2 : sumN (fun j => ((usesL g)[j]?).getD 0) g.l.length = ((0 :: flat g).length : Int) := by
    rw [← sumN_count (n := g.l.length) (ks := 0 :: flat g) (fun k hk => by
      rcases List.mem_cons.1 hk with rfl | hk
      · have := hg.pos; omega
      · exact hg.flatIn k hk)]
    apply sumN_congr
    intro i hi
    unfold usesL
    rw [cnt_at _ hi]; rfl
  have h3 := flat_len g.l
  rw [h1, h2, ← h3]
  simp [flat]; omega
/-- What a graph, tidied, is. -/
theorem tidied_t {g : Gr} (hc : chk g.cut = none) : tidied g true = tidyG g.cut := by unfold tidied; rw [if_pos ⟨rfl, hc⟩]
theorem tidied_n {g : Gr} (hc : ¬ chk g.cut = none) : tidied g true = g.cut := by unfold tidied; rw [if_neg fun e => hc e.2]
theorem cnt_r {n : Nat} {ks : List Int} {j : Nat} {y : Int} (h : (cnt n ks)[j]? = some y) : 0 ≤ y ∧ y ≤ ks.length := by
  have hj := (List.getElem?_eq_some_iff.1 h).1
  rw [cnt_len] at hj
  rw [cnt_at _ hj] at h
  cases h
  have := List.count_le_length (a := (j : Int)) (l := ks)
  omega
theorem inK_small {x : Int} (h : -1000000000 ≤ x) (h' : x ≤ 1000000000) : inK .i64 x := by simp [inK, IntKind.min, IntKind.max, IntKind.signed, IntKind.bits]; omega

set_option maxHeartbeats 1000000 in
theorem walk_sums (h : Env gp) (g : Gr) : Does Go.Proofs.Tryz.prog gp 3 [g.v] (vb true) := by
  refine f3_in ?_
  simp only [go_sem,reduceCtorEq,↓reduceIte,Qa,Qb,Qc,Qd,Qe,Qf,Qg,Qh,Qi,Qj,Qk,Ql,Qm,Qn,Qo,Qp,Qq,Qr]
  have cs := shown12_ok h
  have ct := tidied_g h g true
  have hsm := g.cut_small
  by_cases hc : chk g.cut = none
  · rw [tidied_t hc] at ct
    have hq : Tdy (tidyG g.cut) := Good.tdy ⟨hc, hsm⟩
    generalize tidyG g.cut = q at *
    have c1 := uses_g h hq
    have c2 := tidy_is h q hq.good.s
    rw [show decide (chk q = none ∧ q = tidyG q) = true from decide_eq_true ⟨hq.good.c, hq.self⟩] at c2
    have hl := hq.good.len
    have hu : (usesL q).length = q.l.length := cnt_len _ _
    have hall := sums_all hq
    have hfl : (flat q).length ≤ 12 * q.l.length := flat_small fun x hx => (hq.good.s x hx).2
    have hb : ∀ j, j < q.l.length → -10000 ≤ sumF q j ∧ sumF q j ≤ 10000 := by
      intro j hj
      obtain ⟨x, hx⟩ := at_lt hj
      obtain ⟨y, hy⟩ := at_lt (l := usesL q) (i := j) (by omega)
      have h1 := cnt_r hy
      have h2 := (hq.good.s x (List.mem_of_getElem? hx)).2
      simp only [List.length_cons] at h1
      simp only [sumF, hx, hy, Option.map_some, Option.getD_some]
      omega
    have hbd := fun i => sumN_bound hb i
    have hup : ∀ (i : Nat) (y : Int), (usesL q)[i]? = some y → 1 ≤ y := by
      intro i y hy
      have hi := (List.getElem?_eq_some_iff.1 hy).1
      rw [hu] at hi
      unfold usesL at hy
      rw [cnt_at _ hi] at hy
      cases hy
      have := hq.uses_pos hi
      omega
    have hst : ∀ (i : Nat) (x : Nd) (y : Int), q.l[i]? = some x → (usesL q)[i]? = some y → sumF q i = x.kids.length - y := by
      intro i x y hx hy
      simp only [sumF, hx, hy, Option.map_some, Option.getD_some]
    generalize usesL q = us at *
    have hsq := hq.good.s
    have hne : ((us.length : Int) != (q.l.length : Int)) = false := by rw [hu]; simp
    repeat' (first | refine Gx rfl ?_ | ((first | refine G_reg ?_ | refine VO_chk ?_ | refine VO_go ?_ | refine VO_gx ?_); simp only [f3_r0,f3_r1,f3_r2,f3_r3,f3_r4,f3_r5,f3_r11,f3_r12,f3_r18,f3_r19,f3_r20,f3_r25,f3_r26,f3_r32,f3_r35,f3_r41,hne,go_sem,reduceCtorEq,↓reduceIte,Qa,Qb,Qc,Qd,Qe,Qf,Qg,Qh,Qi,Qj,Qk,Ql,Qm,Qn,Qo,Qp,Qq,Qr]) | refine VO_end ?_ | refine Sh.intro ?_ | refine ⟨_, cs, Sh.intro ?_⟩ | refine ⟨_, ⟨cs, rfl⟩, Sh.intro ?_⟩ | refine ⟨_, ct, Sh.intro ?_⟩ | refine ⟨_, ⟨ct, rfl⟩, Sh.intro ?_⟩ | refine ⟨_, c1, Sh.intro ?_⟩ | refine ⟨_, ⟨c1, rfl⟩, Sh.intro ?_⟩ | (refine G_cond ?_; simp only [f3_r0,f3_r1,f3_r2,f3_r3,f3_r4,f3_r5,f3_r11,f3_r12,f3_r18,f3_r19,f3_r20,f3_r25,f3_r26,f3_r32,f3_r35,f3_r41,hne,go_sem,reduceCtorEq,↓reduceIte,Qa,Qb,Qc,Qd,Qe,Qf,Qg,Qh,Qi,Qj,Qk,Ql,Qm,Qn,Qo,Qp,Qq,Qr]; first | (refine ⟨fun _ => ?_, fun _ => ?_⟩ <;> try (exfalso; omega)) | skip) | (refine And.intro (fun _ => ?_) (fun _ => ?_) <;> try (exfalso; omega)) | ((first | refine G_fin ?_ | refine G_ret rfl ?_); simp only [f3_r0,f3_r1,f3_r2,f3_r3,f3_r4,f3_r5,f3_r11,f3_r12,f3_r18,f3_r19,f3_r20,f3_r25,f3_r26,f3_r32,f3_r35,f3_r41,hne,or_self,Qs,Qt,Qu,Qv,Qw,Qx,Qy,Qz,Za,go_sem,reduceCtorEq,↓reduceIte,Qa,Qb,Qc,Qd,Qe,Qf,Qg,Qh,Qi,Qj,Qk,Ql,Qm,Qn,Qo,Qp,Qq,Qr]))
    all_goals first | (exfalso; omega) | skip
    refine G_weak (fr 69 [(1, .one (.ptr 0 0)), (3, vb true), (4, .one (.d (.sl (ints us)))), (6, vi (1 + sumN (sumF q) (0 : Nat))), (7, vi (0 : Nat))]) (by (simp only [go_sem,reduceCtorEq,↓reduceIte,Qa,Qb,Qc,Qd,Qe,Qf,Qg,Qh,Qi,Qj,Qk,Ql,Qm,Qn,Qo,Qp,Qq,Qr]; repeat' (first | refine And.intro ?_ ?_ | exact Or.inl rfl | exact Or.inr rfl | rfl))) ?_
    refine G_loop (fun mz sz => ∃ i : Nat, i ≤ q.l.length ∧ mz = q.l.length - i ∧ (0 ≤ i) ∧ sz = ⟨fr 69 [(1, .one (.ptr 0 0)), (3, vb true), (4, .one (.d (.sl (ints us)))), (6, vi (1 + sumN (sumF q) i)), (7, vi i)], [.cells q.as]⟩) (q.l.length) ⟨0, Nat.zero_le _, (Nat.sub_zero _).symm, ?_, rfl⟩ ?_
    · exact Nat.zero_le _
    rintro _ _ ⟨i, hi, rfl, -, rfl⟩
    simp only [go_sem,reduceCtorEq,↓reduceIte,Qa,Qb,Qc,Qd,Qe,Qf,Qg,Qh,Qi,Qj,Qk,Ql,Qm,Qn,Qo,Qp,Qq,Qr]
    by_cases hil : i < q.l.length
    · obtain ⟨x, hx⟩ := at_lt hil
      obtain ⟨y, hy⟩ := at_lt (l := us) (i := i) (by omega)
      have hxk := (hsq x (List.mem_of_getElem? hx)).2
      have hy1 := hup i y hy
      have hs1 := hst i x y hx hy
      have hb1 := hbd i (by omega)
      have hb2 := hb i hil
      have hnx : sumN (sumF q) (i + 1) = sumN (sumF q) i + sumF q i := rfl
      generalize sumN (sumF q) i = s at *
      repeat' (first | refine Gx rfl ?_ | ((first | refine G_reg ?_ | refine VO_chk ?_ | refine VO_go ?_ | refine VO_gx ?_); simp only [f3_r0,f3_r1,f3_r2,f3_r3,f3_r4,f3_r5,f3_r11,f3_r12,f3_r18,f3_r19,f3_r20,f3_r25,f3_r26,f3_r32,f3_r35,f3_r41,go_sem,reduceCtorEq,↓reduceIte,Qa,Qb,Qc,Qd,Qe,Qf,Qg,Qh,Qi,Qj,Qk,Ql,Qm,Qn,Qo,Qp,Qq,Qr]) | refine VO_end ?_ | refine Sh.intro ?_ | refine ⟨_, ⟨Int.natCast_nonneg _, (by first | exact map_at hx | (rw [Int.toNat_natCast]; exact map_at hx)), rfl⟩, Sh.intro ?_⟩ | refine ⟨_, ⟨Int.natCast_nonneg _, (by first | exact map_at hy | (rw [Int.toNat_natCast]; exact map_at hy)), rfl⟩, Sh.intro ?_⟩ | refine ⟨inK_small (by omega) (by omega), ?_⟩ | (refine G_cond ?_; simp only [f3_r0,f3_r1,f3_r2,f3_r3,f3_r4,f3_r5,f3_r11,f3_r12,f3_r18,f3_r19,f3_r20,f3_r25,f3_r26,f3_r32,f3_r35,f3_r41,go_sem,reduceCtorEq,↓reduceIte,Qa,Qb,Qc,Qd,Qe,Qf,Qg,Qh,Qi,Qj,Qk,Ql,Qm,Qn,Qo,Qp,Qq,Qr]; first | (refine ⟨fun _ => ?_, fun _ => ?_⟩ <;> try (exfalso; omega)) | skip) | (refine And.intro (fun _ => ?_) (fun _ => ?_) <;> try (exfalso; omega)) | ((first | refine G_fin ?_ | refine G_ret rfl ?_); simp only [f3_r0,f3_r1,f3_r2,f3_r3,f3_r4,f3_r5,f3_r11,f3_r12,f3_r18,f3_r19,f3_r20,f3_r25,f3_r26,f3_r32,f3_r35,f3_r41,or_self,Qs,Qt,Qu,Qv,Qw,Qx,Qy,Qz,Za,go_sem,reduceCtorEq,↓reduceIte,Qa,Qb,Qc,Qd,Qe,Qf,Qg,Qh,Qi,Qj,Qk,Ql,Qm,Qn,Qo,Qp,Qq,Qr]))
      all_goals first | (exfalso; omega) | skip
      refine G_weak (fr 69 [(1, .one (.ptr 0 0)), (3, vb true), (4, .one (.d (.sl (ints us)))), (6, vi (1 + s + x.kids.length - y)), (7, vi (i + 1))]) (by (simp only [go_sem,reduceCtorEq,↓reduceIte,Qa,Qb,Qc,Qd,Qe,Qf,Qg,Qh,Qi,Qj,Qk,Ql,Qm,Qn,Qo,Qp,Qq,Qr]; repeat' (first | refine And.intro ?_ ?_ | exact Or.inl rfl | exact Or.inr rfl | rfl))) ?_
      refine G_again ⟨q.l.length - (i + 1), by omega, i + 1, by omega, rfl, ?_, by rw [show 1 + s + (x.kids.length : Int) - y = 1 + sumN (sumF q) (i + 1) from by omega]; rfl⟩
      exact Nat.zero_le _
    · obtain rfl : q.l.length = i := by omega
      repeat' (first | refine Gx rfl ?_ | ((first | refine G_reg ?_ | refine VO_chk ?_ | refine VO_go ?_ | refine VO_gx ?_); simp only [f3_r0,f3_r1,f3_r2,f3_r3,f3_r4,f3_r5,f3_r11,f3_r12,f3_r18,f3_r19,f3_r20,f3_r25,f3_r26,f3_r32,f3_r35,f3_r41,go_sem,reduceCtorEq,↓reduceIte,Qa,Qb,Qc,Qd,Qe,Qf,Qg,Qh,Qi,Qj,Qk,Ql,Qm,Qn,Qo,Qp,Qq,Qr]) | refine VO_end ?_ | refine Sh.intro ?_ | refine ⟨_, c2, Sh.intro ?_⟩ | refine ⟨_, ⟨c2, rfl⟩, Sh.intro ?_⟩ | (refine G_cond ?_; simp only [f3_r0,f3_r1,f3_r2,f3_r3,f3_r4,f3_r5,f3_r11,f3_r12,f3_r18,f3_r19,f3_r20,f3_r25,f3_r26,f3_r32,f3_r35,f3_r41,go_sem,reduceCtorEq,↓reduceIte,Qa,Qb,Qc,Qd,Qe,Qf,Qg,Qh,Qi,Qj,Qk,Ql,Qm,Qn,Qo,Qp,Qq,Qr]; first | (refine ⟨fun _ => ?_, fun _ => ?_⟩ <;> try (exfalso; omega)) | skip) | (refine And.intro (fun _ => ?_) (fun _ => ?_) <;> try (exfalso; omega)) | ((first | refine G_fin ?_ | refine G_ret rfl ?_); simp only [f3_r0,f3_r1,f3_r2,f3_r3,f3_r4,f3_r5,f3_r11,f3_r12,f3_r18,f3_r19,f3_r20,f3_r25,f3_r26,f3_r32,f3_r35,f3_r41,or_self,Qs,Qt,Qu,Qv,Qw,Qx,Qy,Qz,Za,go_sem,reduceCtorEq,↓reduceIte,Qa,Qb,Qc,Qd,Qe,Qf,Qg,Qh,Qi,Qj,Qk,Ql,Qm,Qn,Qo,Qp,Qq,Qr]))
      all_goals first | (exfalso; omega) | (rw [hall]; rfl) | (rename_i hx1; rw [hall] at hx1; exact absurd rfl hx1) | trace_state
  · rw [tidied_n hc] at ct
    have hn : ¬ (chk g.cut = none ∧ g.cut = tidyG g.cut) := fun e => hc e.1
    generalize g.cut = q at *
    have c1 := uses_bad h hsm hn
    have c2 := tidy_is h q hsm
    rw [decide_eq_false hn] at c2
    repeat' (first | refine Gx rfl ?_ | ((first | refine G_reg ?_ | refine VO_chk ?_ | refine VO_go ?_ | refine VO_gx ?_); simp only [f3_r0,f3_r1,f3_r2,f3_r3,f3_r4,f3_r5,f3_r11,f3_r12,f3_r18,f3_r19,f3_r20,f3_r25,f3_r26,f3_r32,f3_r35,f3_r41,go_sem,reduceCtorEq,↓reduceIte,Qa,Qb,Qc,Qd,Qe,Qf,Qg,Qh,Qi,Qj,Qk,Ql,Qm,Qn,Qo,Qp,Qq,Qr]) | refine VO_end ?_ | refine Sh.intro ?_ | refine ⟨_, cs, Sh.intro ?_⟩ | refine ⟨_, ⟨cs, rfl⟩, Sh.intro ?_⟩ | refine ⟨_, ct, Sh.intro ?_⟩ | refine ⟨_, ⟨ct, rfl⟩, Sh.intro ?_⟩ | refine ⟨_, c1, Sh.intro ?_⟩ | refine ⟨_, ⟨c1, rfl⟩, Sh.intro ?_⟩ | refine ⟨_, c2, Sh.intro ?_⟩ | refine ⟨_, ⟨c2, rfl⟩, Sh.intro ?_⟩ | (refine G_cond ?_; simp only [f3_r0,f3_r1,f3_r2,f3_r3,f3_r4,f3_r5,f3_r11,f3_r12,f3_r18,f3_r19,f3_r20,f3_r25,f3_r26,f3_r32,f3_r35,f3_r41,go_sem,reduceCtorEq,↓reduceIte,Qa,Qb,Qc,Qd,Qe,Qf,Qg,Qh,Qi,Qj,Qk,Ql,Qm,Qn,Qo,Qp,Qq,Qr]; first | (refine ⟨fun _ => ?_, fun _ => ?_⟩ <;> try (exfalso; omega)) | skip) | (refine And.intro (fun _ => ?_) (fun _ => ?_) <;> try (exfalso; omega)) | ((first | refine G_fin ?_ | refine G_ret rfl ?_); simp only [f3_r0,f3_r1,f3_r2,f3_r3,f3_r4,f3_r5,f3_r11,f3_r12,f3_r18,f3_r19,f3_r20,f3_r25,f3_r26,f3_r32,f3_r35,f3_r41,or_self,Qs,Qt,Qu,Qv,Qw,Qx,Qy,Qz,Za,go_sem,reduceCtorEq,↓reduceIte,Qa,Qb,Qc,Qd,Qe,Qf,Qg,Qh,Qi,Qj,Qk,Ql,Qm,Qn,Qo,Qp,Qq,Qr]))
    all_goals trace_state
end Go.Fw.L07
