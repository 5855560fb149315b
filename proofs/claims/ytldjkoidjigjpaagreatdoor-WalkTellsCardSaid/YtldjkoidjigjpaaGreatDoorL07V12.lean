/- Chapter 12,by definition: depths. -/
import Derived.Test.YtldjkoidjigjpaaGreatDoorEb
import Derived.Test.YtldjkoidjigjpaaGreatDoorVb
set_option linter.all false
namespace Go.Fw.L07
open Go Go.Fw
open Go.Proofs.Tryz renaming prog -> QP
open Nat renaming reduceAdd -> Qa,reduceSub -> Qb,reduceMul -> Qc,reduceLeDiff -> Qd,reduceLT -> Qe,reduceEqDiff -> Qf
open Int renaming reduceToNat -> Qg,reduceLT -> Qh,reduceLE -> Qi,reduceGT -> Qj,reduceGE -> Qk,reduceEq -> Ql,reduceNe -> Qm,reduceBEq -> Qn,reduceBNe -> Qo,reduceAdd -> Qp,reduceSub -> Qq,reduceNeg -> Qr
open Go.Fw.V.one renaming injEq -> Qs
open Go.Fw.V.agg renaming injEq -> Qt
open Go.Fw.V.tup renaming injEq -> Qu
open Go.Fw.A.d renaming injEq -> Qv
open Go.Fw.D.bool renaming injEq -> Qw
open Go.Fw.D.int renaming injEq -> Qx
open Go.Fw.D.str renaming injEq -> Qy
open Go.Fw.D.sl renaming injEq -> Qz
open List.cons renaming injEq -> Za
set_option maxRecDepth 4000
variable {gp : Heap}
theorem depth12_hit {g : Gr} {m : Nat} {x d : Int} {a : List Int} (hx : a[m]? = some x) (h0 : 0 < x) :
  Tri QP gp 88 [g.v,vi m,vi d,.one (.own 0 0)] [.row 1 0 (ints a)] fun r post =>
   r = .one (.own 0 0) /\ post = [.row 1 0 (ints (depF (kd g) d [(m : Int)] a))] := by
 have hdep : depF (kd g) d [(m : Int)] a = a := (DepW.skip hx h0 (.nil d a)).eq
 rw [hdep]
 have hg1 : (ints a)[m]? = some [.int .i64 x] := map_at hx
 have hml : m < a.length := (List.getElem?_eq_some_iff.1 hx).1
 refine f88_tri ?_
 simp only [go_sem]
 repeat' (first | refine Gx rfl ?_ | ((first | refine G_reg ?_ | refine G_regv ?_ | refine VO_chk ?_ | refine VO_go ?_ | refine VO_gx ?_ | refine G_cond ?_); simp only [go_sem]) | refine VO_end ?_ | refine Sh.intro ?_ | refine ⟨Int.natCast_nonneg _,hml,?_⟩ | refine ⟨_,⟨hg1,Nat.le_refl _⟩,Sh.intro ?_⟩ | (refine And.intro (fun _ => ?_) (fun _ => ?_) <;> try (exfalso; omega)) | ((first | refine G_fin ?_ | refine G_ret rfl ?_); simp only [or_self,Qs,Qt,Qu,Qv,Qw,Qx,Qy,Qz,Za,go_sem]))
 all_goals trace_state
set_option maxHeartbeats 2000000 in
theorem depth12_c {g : Gr} (hg : Tdy g) : ∀ (z : Nat) (d : Int) (i : Int) (a : List Int),zeros a <= z -> 0 < d -> d + z <= 1000 -> a.length = g.l.length -> 0 <= i /\ i < g.l.length ->
  Tri QP gp 88 [g.v,vi i,vi d,.one (.own 0 0)] [.row 1 0 (ints a)] fun r post =>
   r = .one (.own 0 0) /\ post = [.row 1 0 (ints (depF (kd g) d [i] a))] := by
 intro z
 induction z with
 | zero =>
  intro d i a hz hd hdz hl hi
  obtain ⟨m,rfl⟩ := Int.eq_ofNat_of_zero_le hi.1
  obtain ⟨x,hx⟩ := at_lt (l := a) (i := m) (by omega)
  by_cases h0 : 0 < x
  ·exact depth12_hit hx h0
  ·have := zeros_set hx h0 hd
   omega
 | succ z ih =>
  intro d i a hz hd hdz hl hi
  obtain ⟨m,rfl⟩ := Int.eq_ofNat_of_zero_le hi.1
  obtain ⟨x,hx⟩ := at_lt (l := a) (i := m) (by omega)
  by_cases h0 : 0 < x
  ·exact depth12_hit hx h0
  ·have hzs := zeros_set hx h0 hd
   obtain ⟨y,hy⟩ := at_lt (l := g.l) (i := m) (by omega)
   have hkd := hg.kd hy
   have hky := (hg.good.s y (List.mem_of_getElem? hy)).2
   have hkin : ∀ j ∈ y.kids,0 <= j /\ j < g.l.length := by rw [<- hkd]; exact hg.good.kid m
   have ex : ∀ t,(∀ j ∈ t,0 <= j /\ j < (g.l.length : Int)) -> DepW (kd g) (d + 1) t (a.set m d) (depF (kd g) (d + 1) t (a.set m d)) /\ zeros (depF (kd g) (d + 1) t (a.set m d)) <= z := fun t ht => by
    obtain ⟨b,hb,hzb⟩ := dep_ex (k := kd g) (n := g.l.length) hg.good.kid _ (d + 1) t (a.set m d) (Nat.le_refl _) (by omega) (by simp [hl]) ht
    rw [hb.eq]
    exact ⟨hb,by omega⟩
   have hfin : depF (kd g) d [(m : Int)] a = depF (kd g) (d + 1) y.kids (a.set m d) := by
    have h1 := (ex y.kids hkin).1
    rw [<- hkd] at h1 ⊢
    exact (DepW.step hx h0 h1 (.nil d _)).eq
   rw [hfin]
   have hg1 : (ints a)[m]? = some [.int .i64 x] := map_at hx
   have hml : m < a.length := by omega
   have hset : (ints a).set m [.int .i64 d] = ints (a.set m d) := ints_set a m d
   have hd1 : inK .i64 (d + 1) := by simp [inK,IntKind.min,IntKind.max,IntKind.signed,IntKind.bits]; omega
   refine f88_tri ?_
   simp only [go_sem]
   repeat' (first | refine Gx rfl ?_ | ((first | refine G_reg ?_ | refine G_regv ?_ | refine VO_chk ?_ | refine VO_go ?_ | refine VO_gx ?_ | refine G_cond ?_); simp only [hset,go_sem]) | refine VO_end ?_ | refine Sh.intro ?_ | refine ⟨Int.natCast_nonneg _,hml,?_⟩ | refine ⟨_,⟨hg1,Nat.le_refl _⟩,Sh.intro ?_⟩ | (refine And.intro (fun _ => ?_) (fun _ => ?_) <;> try (exfalso; omega)) | ((first | refine G_fin ?_ | refine G_ret rfl ?_); simp only [hset,or_self,Qs,Qt,Qu,Qv,Qw,Qx,Qy,Qz,Za,go_sem]))
   rw [show Ch.row 1 0 (ints (a.set m d)) = Ch.row 1 0 (ints (depF (kd g) (d + 1) (y.kids.take 0) (a.set m d))) from by rw [List.take_zero,(DepW.nil (k := kd g) (d + 1) (a.set m d)).eq]]
   refine G_weak (fr 46 [(1,vi m),(2,vi d),(3,.one (.own 0 0)),(4,.one (.d (.bx [.int .i64 g.root,.sl (nds g.l)]))),(9,vi (0 : Nat))]) (by (simp only [go_sem]; repeat' (first | refine And.intro ?_ ?_ | exact Or.inl rfl | exact Or.inr rfl | rfl))) ?_
   refine G_loop (fun mz sz => ∃ i : Nat,i <= y.kids.length /\ mz = y.kids.length - i /\ (0 <= i) /\ sz = ⟨fr 46 [(1,vi m),(2,vi d),(3,.one (.own 0 0)),(4,.one (.d (.bx [.int .i64 g.root,.sl (nds g.l)]))),(9,vi i)],[.row 1 0 (ints (depF (kd g) (d + 1) (y.kids.take i) (a.set m d)))]⟩) (y.kids.length) ⟨0,Nat.zero_le _,(Nat.sub_zero _).symm,?_,rfl⟩ ?_
   ·exact Nat.zero_le _
   rintro _ _ ⟨i,hi2,rfl,-,rfl⟩
   simp only [go_sem]
   by_cases hil : i < y.kids.length
   ·obtain ⟨c,hc⟩ := at_lt hil
    have e0 : decide ((i : Int) < (y.kids.length : Int)) = true := decide_eq_true (by omega)
    obtain ⟨e1,e2⟩ := ex (y.kids.take i) fun j hj => hkin j (List.mem_of_mem_take hj)
    obtain ⟨f1,f2⟩ := ex (y.kids.take (i + 1)) fun j hj => hkin j (List.mem_of_mem_take hj)
    have hstep : depF (kd g) (d + 1) [c] (depF (kd g) (d + 1) (y.kids.take i) (a.set m d)) = depF (kd g) (d + 1) (y.kids.take (i + 1)) (a.set m d) := by
     obtain ⟨b,hb,_⟩ := dep_ex (k := kd g) (n := g.l.length) hg.good.kid _ (d + 1) [c] (depF (kd g) (d + 1) (y.kids.take i) (a.set m d)) (Nat.le_refl _) (by omega) (by rw [e1.len]; simp [hl]) (by simpa using hkin c (List.mem_of_getElem? hc))
     have := e1.app hb
     rw [take_snoc hc] at this
     rw [this.eq,hb.eq]
    have hcall := ih (d + 1) c (depF (kd g) (d + 1) (y.kids.take i) (a.set m d)) e2 (by omega) (by omega) (by rw [e1.len]; simp [hl]) (hkin c (List.mem_of_getElem? hc))
    rw [hstep] at hcall
    repeat' (first | refine Gx rfl ?_ | ((first | refine G_reg ?_ | refine G_regv ?_ | refine VO_chk ?_ | refine VO_go ?_ | refine VO_gx ?_ | refine G_cond ?_); simp only [e0,go_sem]) | refine VO_end ?_ | refine Sh.intro ?_ | refine ⟨_,⟨Int.natCast_nonneg _,(by first | exact map_at hy | (rw [Int.toNat_natCast]; exact map_at hy)),rfl⟩,Sh.intro ?_⟩ | refine ⟨_,⟨Int.natCast_nonneg _,(by first | exact map_at hc | (rw [Int.toNat_natCast]; exact map_at hc)),rfl⟩,Sh.intro ?_⟩ | refine ⟨hd1,?_⟩ | (refine And.intro (fun _ => ?_) (fun _ => ?_) <;> try (exfalso; omega)) | ((first | refine G_fin ?_ | refine G_ret rfl ?_); simp only [e0,or_self,Qs,Qt,Qu,Qv,Qw,Qx,Qy,Qz,Za,go_sem]))
    refine Or.inr (Or.inr ⟨[0],.one (.own 0 0),[.row 1 0 (ints (depF (kd g) (d + 1) (y.kids.take (i + 1)) (a.set m d)))],(by simp only [CallR,rnVs,rnV,rnA,rnAs,rn0,rn0s,posN,rnCs,rnC,getC,List.isEmpty_nil,reduceCtorEq,↓reduceIte,Qa,Qb,Qc,Qd,Qe,Qf,Qg,Qh,Qi,Qj,Qk,Ql,Qm,Qn,Qo,Qp,Qq,Qr]; simp only [go_sem]; exact ⟨f88_ok,hcall⟩),Sh.intro ?_⟩)
    simp only [go_sem]
    repeat' (first | refine Gx rfl ?_ | ((first | refine G_reg ?_ | refine G_regv ?_ | refine VO_chk ?_ | refine VO_go ?_ | refine VO_gx ?_ | refine G_cond ?_); simp only [go_sem]) | refine VO_end ?_ | refine Sh.intro ?_ | (refine And.intro (fun _ => ?_) (fun _ => ?_) <;> try (exfalso; omega)) | ((first | refine G_fin ?_ | refine G_ret rfl ?_); simp only [or_self,Qs,Qt,Qu,Qv,Qw,Qx,Qy,Qz,Za,go_sem]))
    refine ⟨inK_nat hil (by unfold lenMax; omega),?_⟩
    refine G_weak (fr 46 [(1,vi m),(2,vi d),(3,.one (.own 0 0)),(4,.one (.d (.bx [.int .i64 g.root,.sl (nds g.l)]))),(9,vi (i + 1))]) (by (simp only [go_sem]; repeat' (first | refine And.intro ?_ ?_ | exact Or.inl rfl | exact Or.inr rfl | rfl))) ?_
    refine G_drop 1 (by simp only [List.length_nil,List.length_cons]; decide) (by simp only [go_sem]) (by simp only [go_sem]) ?_
    simp only [go_sem]
    refine G_again ⟨y.kids.length - (i + 1),by omega,i + 1,by omega,rfl,?_,rfl⟩
    exact Nat.zero_le _
   ·obtain rfl : y.kids.length = i := by omega
    have e0 : decide ((y.kids.length : Int) < (y.kids.length : Int)) = false := decide_eq_false (by omega)
    rw [List.take_of_length_le (Nat.le_refl y.kids.length)]
    repeat' (first | refine Gx rfl ?_ | ((first | refine G_reg ?_ | refine G_regv ?_ | refine VO_chk ?_ | refine VO_go ?_ | refine VO_gx ?_ | refine G_cond ?_); simp only [e0,go_sem]) | refine VO_end ?_ | refine Sh.intro ?_ | refine ⟨_,⟨Int.natCast_nonneg _,(by first | exact map_at hy | (rw [Int.toNat_natCast]; exact map_at hy)),rfl⟩,Sh.intro ?_⟩ | (refine And.intro (fun _ => ?_) (fun _ => ?_) <;> try (exfalso; omega)) | ((first | refine G_fin ?_ | refine G_ret rfl ?_); simp only [e0,or_self,Qs,Qt,Qu,Qv,Qw,Qx,Qy,Qz,Za,go_sem]))
    all_goals trace_state
theorem zeros_all : ∀ n : Nat,zeros (List.replicate n 0) <= n := fun n => by
 unfold zeros
 have := List.countP_le_length (p := fun x : Int => decide (¬ 0 < x)) (l := List.replicate n 0)
 rw [List.length_replicate] at this
 exact this
theorem depths12_g {g : Gr} (hg : Tdy g) (hst : ∀ x ∈ g.l,x.short) (hl : g.l.length <= 900) : Does QP gp 52 [g.v] (.tup [.one (.d (.sl (ints (depL g)))),vi 0]) := by
 have c1 := istidy8 (gp := gp) g hg.good.s hst (by omega)
 rw [show decide (chk g = none /\ g = tidyG g) = true from decide_eq_true ⟨hg.good.c,hg.self⟩] at c1
 have hlb : (g.l.length : Int) * 8 <= 140737488355328 := by omega
 have hlm : (g.l.length : Int) < (lenMax : Int) := by unfold lenMax; omega
 have c2 := depth12_c (gp := gp) hg _ 1 0 (List.replicate g.l.length 0) (zeros_all _) (by omega) (by omega) (by simp) ⟨by omega,by have := hg.pos; omega⟩
 rw [show depF (kd g) 1 [0] (List.replicate g.l.length 0) = depL g from rfl] at c2
 have hrep : List.replicate g.l.length [D.int .i64 0] = ints (List.replicate g.l.length 0) := by simp [ints]
 rw [<- hrep] at c2
 refine f52_in ?_
 simp only [go_sem]
 repeat' (first | refine Gx rfl ?_ | ((first | refine G_reg ?_ | refine G_regv ?_ | refine VO_chk ?_ | refine VO_go ?_ | refine VO_gx ?_ | refine G_cond ?_); simp only [go_sem]) | refine VO_end ?_ | refine Sh.intro ?_ | refine ⟨_,c1,Sh.intro ?_⟩ | refine ⟨_,⟨c1,rfl⟩,Sh.intro ?_⟩ | refine ⟨Int.natCast_nonneg _,hlb,hlm,?_⟩ | refine And.intro (fun _ => ?_) (fun _ => ?_) | ((first | refine G_fin ?_ | refine G_ret rfl ?_); simp only [or_self,Qs,Qt,Qu,Qv,Qw,Qx,Qy,Qz,Za,go_sem]))
 refine Or.inr (Or.inr ⟨[0],.one (.own 0 0),[.row 1 0 (ints (depL g))],(by simp only [CallR,rnVs,rnV,rnA,rnAs,rn0,rn0s,posN,rnCs,rnC,getC,List.isEmpty_nil,reduceCtorEq,↓reduceIte,Qa,Qb,Qc,Qd,Qe,Qf,Qg,Qh,Qi,Qj,Qk,Ql,Qm,Qn,Qo,Qp,Qq,Qr]; simp only [go_sem]; exact ⟨f88_ok,c2⟩),Sh.intro ?_⟩)
 simp only [go_sem]
 repeat' (first | ((first | refine VO_chk ?_ | refine VO_go ?_ | refine VO_gx ?_); simp only [go_sem]) | refine VO_end ?_ | refine Sh.intro ?_)
 refine G_drop 1 (by simp only [List.length_nil,List.length_cons]; decide) (by simp only [go_sem]) (by simp only [go_sem]) ?_
 simp only [go_sem]
 refine G_freeze 0 ?_
 simp only [go_sem]
 repeat' (first | refine Gx rfl ?_ | ((first | refine G_reg ?_ | refine G_regv ?_ | refine VO_chk ?_ | refine VO_go ?_ | refine VO_gx ?_ | refine G_cond ?_); simp only [go_sem]) | refine VO_end ?_ | refine Sh.intro ?_ | refine And.intro (fun _ => ?_) (fun _ => ?_) | ((first | refine G_fin ?_ | refine G_ret rfl ?_); simp only [or_self,Qs,Qt,Qu,Qv,Qw,Qx,Qy,Qz,Za,go_sem]))
 all_goals trace_state
theorem depths12_bad {g : Gr} (hs : Small g) (hn : ¬ (chk g = none /\ g = tidyG g)) (hst : ∀ x ∈ g.l,x.short) (hl : g.l.length <= 1000) : Does QP gp 52 [g.v] (.tup [.one (.d (.sl [])),vi 72]) := by
 have c1 := istidy8 (gp := gp) g hs hst hl
 rw [show decide (chk g = none /\ g = tidyG g) = false from decide_eq_false hn] at c1
 refine f52_in ?_
 simp only [go_sem]
 repeat' (first | refine Gx rfl ?_ | ((first | refine G_reg ?_ | refine G_regv ?_ | refine VO_chk ?_ | refine VO_go ?_ | refine VO_gx ?_ | refine G_cond ?_); simp only [go_sem]) | refine VO_end ?_ | refine Sh.intro ?_ | refine ⟨_,c1,Sh.intro ?_⟩ | refine ⟨_,⟨c1,rfl⟩,Sh.intro ?_⟩ | refine And.intro (fun _ => ?_) (fun _ => ?_) | ((first | refine G_fin ?_ | refine G_ret rfl ?_); simp only [or_self,Qs,Qt,Qu,Qv,Qw,Qx,Qy,Qz,Za,go_sem]))
 all_goals trace_state
end Go.Fw.L07
