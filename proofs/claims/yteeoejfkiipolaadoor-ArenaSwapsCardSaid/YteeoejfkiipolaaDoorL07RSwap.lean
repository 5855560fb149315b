/- Chapter 7: the law ArenaSwaps. -/
import Derived.Test.YteeoejfkiipolaaDoorL07KS
import Derived.Test.YteeoejfkiipolaaDoorL07Swp
set_option linter.all false
namespace Go.Fw.L07
open Go Go.Fw
open Go.Fw.Sh renaming intro -> Kg
open Go.Fw renaming G_reg -> Ka,VO_chk -> Kb,VO_go -> Kc,VO_gx -> Kd,G_cond -> Ke,VO_end -> Kf,G_fin -> Kh,G_ret -> Ki,G_weak -> Kj,G_again -> Kl,G_loop -> Km,Gx -> Kn
open And renaming intro -> Kp
open Go.Proofs.Tryd renaming prog -> QP
open Nat renaming reduceAdd -> Qa,reduceSub -> Qb,reduceMul -> Qc,reduceLeDiff -> Qd,reduceLT -> Qe,reduceEqDiff -> Qf
open Int renaming reduceToNat -> Qg,reduceLT -> Qh,reduceLE -> Qi,reduceGT -> Qj,reduceGE -> Qk,reduceEq -> Ql,reduceNe -> Qm,reduceBEq -> Qn,reduceBNe -> Qo,reduceAdd -> Qp,reduceSub -> Qq,reduceNeg -> Qr
open Go.Fw.V.one renaming injEq -> Qs
open Go.Fw.V.agg renaming injEq -> Qt
open Go.Fw.V.tup renaming injEq -> Qu
open Go.Fw.A.d renaming injEq -> Qv
open Go.Fw.D.bool renaming injEq -> Qw
open Go.Fw.D.int renaming injEq -> Qx
open Go.Fw.D.str renaming injEq -> Qy
open Go.Fw.D.sl renaming injEq -> Qz
open List.cons renaming injEq -> Za
set_option maxRecDepth 4000
variable {gp : Heap}
theorem ints_scal (v : Nat) (l : List Int) : Ch.scalRow (.row 1 v (ints l)) = true := by simp [Ch.scalRow,ints,D.scal]
theorem scs_scal (v : Nat) (l : List Sc) : Ch.scalRow (.row 3 v (scs l)) = true := by simp [Ch.scalRow,scs,D.scal]
set_option maxHeartbeats 4000000 in
theorem arena_swaps (h : Env gp) (g : Gr) (i0 : Int) : Does QP gp 3 [g.v,vi i0] (vb true) := by
 refine f3_in ?_
 simp only [go_sem]
 have cs := shown_ok h
 have cg := cut_own (gp := gp) g
 have hsm := g.cut_small
 have hml : min g.l.length 201 = g.cut.l.length := by simp [Gr.cut]; omega
 rw [hml,show g.root = g.cut.root from rfl] at cg
 have c1 := chk_gr h g.cut
 have c2 := kids_own (gp := gp) g.cut i0 hsm
 have c3 := keys_own (gp := gp) g.cut i0 hsm
 generalize g.cut = q at *
 refine G_hint 22 ?_
 simp only [go_sem]
 repeat' (first | refine Kn rfl ?_ | ((first | refine Ka ?_ | refine Kb ?_ | refine Kc ?_ | refine Kd ?_ | refine Ke ?_); simp only [go_sem]) | refine Kf ?_ | refine Kg ?_ | refine ⟨_,cs,Sh.intro ?_⟩ | refine ⟨_,⟨cs,rfl⟩,Sh.intro ?_⟩ | refine Kp (fun _ => ?_) (fun _ => ?_) | ((first | refine Kh ?_ | refine Ki rfl ?_); simp only [or_self,Qs,Qt,Qu,Qv,Qw,Qx,Qy,Qz,Za,go_sem]))
 refine Or.inr ⟨[],.agg [.d (.int .i64 q.root),.own 2 q.l.length],[.cells [.d (.int .i64 q.root),.own 2 q.l.length],.cells [.d (.int .i64 q.root),.own 2 q.l.length],.row 6 q.l.length (nds q.l)],(by simp only [CallR,rnVs,rnV,rnA,rnAs,rn0,rn0s,posN,rnCs,rnC,getC,List.isEmpty_nil,reduceCtorEq,↓reduceIte,Qa,Qb,Qc,Qd,Qe,Qf,Qg,Qh,Qi,Qj,Qk,Ql,Qm,Qn,Qo,Qp,Qq,Qr]; simp only [go_sem]; exact ⟨f5_ok,cg⟩),Sh.intro ?_⟩
 simp only [go_sem]
 have hnl : (nds q.l).length = q.l.length := by simp [nds]
 by_cases hc : chk q = none
 ·rw [hc] at c1
  dsimp only [Option.getD_none] at c1
  obtain ⟨h1,h2,h3⟩ := chk_ok hc
  by_cases hr : 0 <= i0 /\ i0 < q.l.length
  ·obtain ⟨i0,rfl⟩ := Int.eq_ofNat_of_zero_le hr.1
   have hil : i0 < q.l.length := by omega
   obtain ⟨x,hx⟩ := at_lt hil
   have hnd : ndAt q.l i0 = x := by unfold ndAt; rw [if_pos hr,Int.toNat_natCast,hx]; rfl
   have hat : atE q.l i0 = 0 := by unfold atE; rw [if_pos hr]
   have hxr := h3 x (List.mem_of_getElem? hx)
   have hsx := hsm x (List.mem_of_getElem? hx)
   rw [hnd,hat] at c2 c3
   have d1 : decide ((i0 : Int) < 0) = false := decide_eq_false (by omega)
   have d2 : decide ((i0 : Int) >= (q.l.length : Int)) = false := decide_eq_false (by omega)
   have hget : (nds q.l)[i0]? = some x.ds := map_at hx
   repeat' (first | refine Kn rfl ?_ | ((first | refine Ka ?_ | refine Kb ?_ | refine Kc ?_ | refine Kd ?_ | refine Ke ?_); simp only [d1,d2,hnl,go_sem]) | refine Kf ?_ | refine Kg ?_ | refine ⟨_,cs,Sh.intro ?_⟩ | refine ⟨_,⟨cs,rfl⟩,Sh.intro ?_⟩ | refine Or.inl ⟨_,⟨c1,rfl⟩,Sh.intro ?_⟩ | (refine Kp (fun _ => ?_) (fun _ => ?_) <;> try (exfalso; omega)) | ((first | refine Kh ?_ | refine Ki rfl ?_); simp only [d1,d2,hnl,or_self,Qs,Qt,Qu,Qv,Qw,Qx,Qy,Qz,Za,go_sem]))
   refine Or.inr (Or.inr ⟨[],.tup [.one (.own 1 (kidV x)),vi 0],[.dead,.row 1 (kidV x) (ints (kidsOf x))],(by simp only [CallR,rnVs,rnV,rnA,rnAs,rn0,rn0s,posN,rnCs,rnC,getC,List.isEmpty_nil,reduceCtorEq,↓reduceIte,Qa,Qb,Qc,Qd,Qe,Qf,Qg,Qh,Qi,Qj,Qk,Ql,Qm,Qn,Qo,Qp,Qq,Qr]; simp only [go_sem]; refine ⟨⟨?_,rfl⟩,f7_ok,_,rfl,c2⟩; rw [ints_scal]; rfl),Sh.intro ?_⟩)
   simp only [go_sem]
   repeat' (first | refine Kn rfl ?_ | ((first | refine Ka ?_ | refine Kb ?_ | refine Kc ?_ | refine Kd ?_ | refine Ke ?_); simp only [d1,d2,hnl,go_sem]) | refine Kf ?_ | refine Kg ?_ | (refine Kp (fun _ => ?_) (fun _ => ?_) <;> try (exfalso; omega)) | ((first | refine Kh ?_ | refine Ki rfl ?_); simp only [d1,d2,hnl,or_self,Qs,Qt,Qu,Qv,Qw,Qx,Qy,Qz,Za,go_sem]))
   refine Or.inr (Or.inr ⟨[],.tup [.one (.own 1 (keysOf x).length),vi 0],[.dead,.row 3 (keysOf x).length (scs (keysOf x))],(by simp only [CallR,rnVs,rnV,rnA,rnAs,rn0,rn0s,posN,rnCs,rnC,getC,List.isEmpty_nil,reduceCtorEq,↓reduceIte,Qa,Qb,Qc,Qd,Qe,Qf,Qg,Qh,Qi,Qj,Qk,Ql,Qm,Qn,Qo,Qp,Qq,Qr]; simp only [go_sem]; refine ⟨⟨?_,rfl⟩,f8_ok,_,rfl,c3⟩; rw [scs_scal]; rfl),Sh.intro ?_⟩)
   simp only [go_sem]
   refine G_freeze 6 ?_
   simp only [go_sem]
   refine G_freeze 9 ?_
   simp only [go_sem]
   repeat' (first | refine Kn rfl ?_ | ((first | refine Ka ?_ | refine Kb ?_ | refine Kc ?_ | refine Kd ?_ | refine Ke ?_); simp only [d1,d2,hnl,go_sem]) | refine Kf ?_ | refine Kg ?_ | refine ⟨Int.natCast_nonneg _,hil,_,⟨hget,of_decide_eq_true rfl⟩,Sh.intro ?_⟩ | (refine Kp (fun _ => ?_) (fun _ => ?_) <;> try (exfalso; omega)) | ((first | refine Kh ?_ | refine Ki rfl ?_); simp only [d1,d2,hnl,or_self,Qs,Qt,Qu,Qv,Qw,Qx,Qy,Qz,Za,go_sem]))
   refine ⟨inK_dec (by have := hsx.1; unfold lenMax; omega),?_⟩
   refine G_row0c 11 4 3 (by decide) rfl rfl ?_
   simp only [go_sem]
   refine G_row0c 11 5 1 (by decide) rfl rfl ?_
   simp only [go_sem]
   refine Kn rfl ?_
   refine Kj (fr 162 [(1,vi i0),(2,.one (.ptr 0 0)),(5,vb true),(8,.one (.d (.sl (ints (kidsOf x))))),(10,.one (.d (.sl (scs (keysOf x))))),(9,vi 0),(11,vi 0),(12,.one (.ptr 11 0)),(13,vi ((x.keys.length : Int) - 1))]) (by (simp only [go_sem]; repeat' (first | refine Kp ?_ ?_ | exact Or.inl rfl | exact Or.inr rfl | rfl))) ?_
   refine Km (fun mz sz => ∃ (m j : Nat) (z : Int),mz = m /\ m + j = x.keys.length /\ z = (m : Int) - 1 /\ sz = ⟨fr 162 [(1,vi i0),(2,.one (.ptr 0 0)),(5,vb true),(8,.one (.d (.sl (ints (kidsOf x))))),(10,.one (.d (.sl (scs (keysOf x))))),(9,vi 0),(11,vi 0),(12,.one (.ptr 11 0)),(13,vi z)],[Ch.cells [.d (.int .i64 q.root),.own 3 q.l.length],Ch.cells [.d (.int .i64 q.root),.own 3 q.l.length],Ch.cells [.d (.int .i64 q.root),.own 3 q.l.length],.row 6 q.l.length (nds q.l),.dead,.dead,.dead,.dead,.dead,.dead,.dead,.cells [.d (.int .i64 x.k),.d (.int .i64 x.x.k),.d (.int .i64 x.x.n),.d (.str x.x.s),.own 12 j,.own 13 j],.row 3 j (scs (x.keys.reverse.take j)),.row 1 j (ints (x.kids.reverse.take j))]⟩) x.keys.length ⟨x.keys.length,0,_,rfl,rfl,rfl,rfl⟩ ?_
   rintro m _ ⟨m',j,z,hm,hmj,hz,rfl⟩
   subst hm
   simp only [go_sem]
   cases m with
   | zero =>
    have e1 : decide (z >= 0) = false := decide_eq_false (by omega)
    obtain rfl : x.keys.length = j := by omega
    by_cases hk0 : x.keys = []
    ·have hkz := no_keys hxr hk0
     have hz0 : x.keys.length = 0 := by rw [hk0]; rfl
     have hz1 : (scs (x.keys.reverse.take x.keys.length)).length = 0 := by rw [hk0]; rfl
     rw [hkz]
     repeat' (first | refine Kn rfl ?_ | ((first | refine Ka ?_ | refine Kb ?_ | refine Kc ?_ | refine Kd ?_ | refine Ke ?_); simp only [e1,hz1,go_sem]) | refine Kf ?_ | refine Kg ?_ | (refine Kp (fun _ => ?_) (fun _ => ?_) <;> try (exfalso; omega)) | ((first | refine Kh ?_ | refine Ki rfl ?_); simp only [e1,hz1,or_self,Qs,Qt,Qu,Qv,Qw,Qx,Qy,Qz,Za,go_sem]))
     all_goals trace_state
     all_goals trace_state
    ·have hk2 := keys_map hxr hk0
     obtain ⟨m1,m2,m3⟩ := map_right hxr hk2
     have hkp : 0 < x.keys.length := List.length_pos_iff.2 hk0
     rw [List.take_of_length_le (by simp),List.take_of_length_le (by simp; omega)]
     have hz1 : ((x.keys.reverse.length : Int) == 0) = false := by simp; omega
     refine G_freeze 12 ?_
     simp only [go_sem]
     refine G_freeze 13 ?_
     simp only [go_sem]
     have hrr := rev_right hxr hk2
     have c4 := chk_gr h ⟨q.root,q.l.set i0 (revN x)⟩
     rw [chk_set hc hrr] at c4
     dsimp only [Option.getD_none] at c4
     have hs2 : Small ⟨q.root,q.l.set i0 (revN x)⟩ := set_small hsm (by simpa [revN] using hsx)
     have c5 := kids_own (gp := gp) ⟨q.root,q.l.set i0 (revN x)⟩ i0 hs2
     have c6 := keys_own (gp := gp) ⟨q.root,q.l.set i0 (revN x)⟩ i0 hs2
     have hr2 : 0 <= (i0 : Int) /\ (i0 : Int) < ((q.l.set i0 (revN x)).length : Int) := by rw [List.length_set]; exact hr
     have hnd2 : ndAt (q.l.set i0 (revN x)) i0 = revN x := by unfold ndAt; rw [if_pos hr2,Int.toNat_natCast,List.getElem?_set_self hil]; rfl
     have hat2 : atE (q.l.set i0 (revN x)) i0 = 0 := by unfold atE; rw [if_pos hr2]
     rw [hnd2,hat2,kids_rev hk2 m1 m2] at c5
     rw [hnd2,hat2,keys_rev hk2 m1 m2] at c6
     have e5 := ints_eq (gp := gp) (kidsOf x) (kidsOf x)
     have e6 := scs_same (gp := gp) (keysOf x) (keysOf x)
     rw [decide_eq_true rfl] at e5 e6
     repeat' (first | refine Kn rfl ?_ | ((first | refine Ka ?_ | refine Kb ?_ | refine Kc ?_ | refine Kd ?_ | refine Ke ?_); simp only [e1,hz1,go_sem]) | refine Kf ?_ | refine Kg ?_ | refine ⟨Int.natCast_nonneg _,hil,_,⟨hget,of_decide_eq_true rfl⟩,Sh.intro ?_⟩ | (refine Kp (fun _ => ?_) (fun _ => ?_) <;> try (exfalso; omega)) | ((first | refine Kh ?_ | refine Ki rfl ?_); simp only [e1,hz1,or_self,Qs,Qt,Qu,Qv,Qw,Qx,Qy,Qz,Za,go_sem]))
     rw [show (nds q.l).set i0 [.int .i64 x.k,.int .i64 x.x.k,.int .i64 x.x.n,.str x.x.s,.sl (scs x.keys.reverse),.sl (ints x.kids.reverse)] = nds (q.l.set i0 (revN x)) from nds_set q.l i0 (revN x)]
     repeat' (first | refine Kn rfl ?_ | ((first | refine Ka ?_ | refine Kb ?_ | refine Kc ?_ | refine Kd ?_ | refine Ke ?_); simp only [e1,hz1,go_sem]) | refine Kf ?_ | refine Kg ?_ | refine Or.inl ⟨_,⟨c4,rfl⟩,Sh.intro ?_⟩ | (refine Kp (fun _ => ?_) (fun _ => ?_) <;> try (exfalso; omega)) | ((first | refine Kh ?_ | refine Ki rfl ?_); simp only [e1,hz1,or_self,Qs,Qt,Qu,Qv,Qw,Qx,Qy,Qz,Za,go_sem]))
     refine Or.inr (Or.inr ⟨[],.tup [.one (.own 1 (kidV (revN x))),vi 0],[.dead,.row 1 (kidV (revN x)) (ints (kidsOf x))],(by simp only [CallR,rnVs,rnV,rnA,rnAs,rn0,rn0s,posN,rnCs,rnC,getC,List.isEmpty_nil,reduceCtorEq,↓reduceIte,Qa,Qb,Qc,Qd,Qe,Qf,Qg,Qh,Qi,Qj,Qk,Ql,Qm,Qn,Qo,Qp,Qq,Qr]; simp only [go_sem]; refine ⟨⟨?_,rfl⟩,f7_ok,_,rfl,c5⟩; rw [ints_scal]; rfl),Sh.intro ?_⟩)
     simp only [go_sem]
     repeat' (first | refine Kn rfl ?_ | ((first | refine Ka ?_ | refine Kb ?_ | refine Kc ?_ | refine Kd ?_ | refine Ke ?_); simp only [go_sem]) | refine Kf ?_ | refine Kg ?_ | (refine Kp (fun _ => ?_) (fun _ => ?_) <;> try (exfalso; omega)) | ((first | refine Kh ?_ | refine Ki rfl ?_); simp only [or_self,Qs,Qt,Qu,Qv,Qw,Qx,Qy,Qz,Za,go_sem]))
     refine Or.inr (Or.inr ⟨[],.tup [.one (.own 1 (keysOf x).length),vi 0],[.dead,.row 3 (keysOf x).length (scs (keysOf x))],(by simp only [CallR,rnVs,rnV,rnA,rnAs,rn0,rn0s,posN,rnCs,rnC,getC,List.isEmpty_nil,reduceCtorEq,↓reduceIte,Qa,Qb,Qc,Qd,Qe,Qf,Qg,Qh,Qi,Qj,Qk,Ql,Qm,Qn,Qo,Qp,Qq,Qr]; simp only [go_sem]; refine ⟨⟨?_,rfl⟩,f8_ok,_,rfl,c6⟩; rw [scs_scal]; rfl),Sh.intro ?_⟩)
     simp only [go_sem]
     refine G_freeze 15 ?_
     simp only [go_sem]
     refine G_freeze 18 ?_
     simp only [go_sem]
     repeat' (first | refine Kn rfl ?_ | ((first | refine Ka ?_ | refine Kb ?_ | refine Kc ?_ | refine Kd ?_ | refine Ke ?_); simp only [go_sem]) | refine Kf ?_ | refine Kg ?_ | refine ⟨_,e5,Sh.intro ?_⟩ | refine ⟨_,⟨e5,rfl⟩,Sh.intro ?_⟩ | refine ⟨_,e6,Sh.intro ?_⟩ | refine ⟨_,⟨e6,rfl⟩,Sh.intro ?_⟩ | (refine Kp (fun _ => ?_) (fun _ => ?_) <;> try (exfalso; omega)) | ((first | refine Kh ?_ | refine Ki rfl ?_); simp only [or_self,Qs,Qt,Qu,Qv,Qw,Qx,Qy,Qz,Za,go_sem]))
     all_goals trace_state
     all_goals trace_state
   | succ k =>
    obtain rfl : z = (k : Int) := by omega
    have e1 : decide ((k : Int) >= 0) = true := decide_eq_true (by omega)
    have hk2 := keys_map hxr (by intro e; rw [e] at hmj; simp at hmj)
    obtain ⟨m1,m2,m3⟩ := map_right hxr hk2
    obtain ⟨y,hy⟩ := at_lt (l := x.keys) (i := k) (by omega)
    obtain ⟨w,hw⟩ := at_lt (l := x.kids) (i := k) (by omega)
    repeat' (first | refine Kn rfl ?_ | ((first | refine Ka ?_ | refine Kb ?_ | refine Kc ?_ | refine Kd ?_ | refine Ke ?_); simp only [e1,go_sem]) | refine Kf ?_ | refine Kg ?_ | refine ⟨Int.natCast_nonneg _,hil,_,⟨hget,of_decide_eq_true rfl⟩,Sh.intro ?_⟩ | refine ⟨_,⟨Int.natCast_nonneg _,map_at hy,rfl⟩,Sh.intro ?_⟩ | refine ⟨_,⟨Int.natCast_nonneg _,map_at hw,rfl⟩,Sh.intro ?_⟩ | (refine Kp (fun _ => ?_) (fun _ => ?_) <;> try (exfalso; omega)) | ((first | refine Kh ?_ | refine Ki rfl ?_); simp only [e1,or_self,Qs,Qt,Qu,Qv,Qw,Qx,Qy,Qz,Za,go_sem]))
    have hjk : x.keys.length - 1 - j = k := by omega
    have hjk' : x.kids.length - 1 - j = k := by omega
    have hjl : j < x.keys.length := by omega
    have hx12 := hsx.1
    refine ⟨by simp,by simp; omega,by simp [lenMax]; omega,?_⟩
    rw [show scs (x.keys.reverse.take j) ++ [_] = scs (x.keys.reverse.take (j + 1)) from by rw [<- rev_take x.keys (by rw [hjk]; exact hy) hjl]; simp [scs]]
    repeat' (first | refine Kn rfl ?_ | ((first | refine Ka ?_ | refine Kb ?_ | refine Kc ?_ | refine Kd ?_ | refine Ke ?_); simp only [e1,go_sem]) | refine Kf ?_ | refine Kg ?_ | refine ⟨Int.natCast_nonneg _,hil,_,⟨hget,of_decide_eq_true rfl⟩,Sh.intro ?_⟩ | refine ⟨_,⟨Int.natCast_nonneg _,map_at hy,rfl⟩,Sh.intro ?_⟩ | refine ⟨_,⟨Int.natCast_nonneg _,map_at hw,rfl⟩,Sh.intro ?_⟩ | (refine Kp (fun _ => ?_) (fun _ => ?_) <;> try (exfalso; omega)) | ((first | refine Kh ?_ | refine Ki rfl ?_); simp only [e1,or_self,Qs,Qt,Qu,Qv,Qw,Qx,Qy,Qz,Za,go_sem]))
    refine ⟨by simp,by simp; omega,by simp [lenMax]; omega,?_⟩
    rw [show ints (x.kids.reverse.take j) ++ [_] = ints (x.kids.reverse.take (j + 1)) from by rw [<- rev_take x.kids (by rw [hjk']; exact hw) (by omega)]; simp [ints]]
    repeat' (first | refine Kn rfl ?_ | ((first | refine Ka ?_ | refine Kb ?_ | refine Kc ?_ | refine Kd ?_ | refine Ke ?_); simp only [e1,go_sem]) | refine Kf ?_ | refine Kg ?_ | (refine Kp (fun _ => ?_) (fun _ => ?_) <;> try (exfalso; omega)) | ((first | refine Kh ?_ | refine Ki rfl ?_); simp only [e1,or_self,Qs,Qt,Qu,Qv,Qw,Qx,Qy,Qz,Za,go_sem]))
    refine ⟨inK_dec (by unfold lenMax; omega),?_⟩
    refine Kj (fr 162 [(1,vi i0),(2,.one (.ptr 0 0)),(5,vb true),(8,.one (.d (.sl (ints (kidsOf x))))),(10,.one (.d (.sl (scs (keysOf x))))),(9,vi 0),(11,vi 0),(12,.one (.ptr 11 0)),(13,vi ((k : Int) - 1))]) (by (simp only [go_sem]; repeat' (first | refine Kp ?_ ?_ | exact Or.inl rfl | exact Or.inr rfl | rfl))) ?_
    exact Kl ⟨k,by omega,k,j + 1,_,rfl,by omega,rfl,rfl⟩
  ·have hd : decide (i0 < 0) = true \/ decide (i0 < 0) = false /\ decide (i0 >= (q.l.length : Int)) = true := by
    by_cases h0 : i0 < 0
    ·exact .inl (decide_eq_true h0)
    ·exact .inr ⟨decide_eq_false h0,decide_eq_true (by omega)⟩
   rcases hd with d1 | ⟨d1,d2⟩
   ·repeat' (first | refine Kn rfl ?_ | ((first | refine Ka ?_ | refine Kb ?_ | refine Kc ?_ | refine Kd ?_ | refine Ke ?_); simp only [d1,hnl,go_sem]) | refine Kf ?_ | refine Kg ?_ | refine ⟨_,cs,Sh.intro ?_⟩ | refine ⟨_,⟨cs,rfl⟩,Sh.intro ?_⟩ | refine Or.inl ⟨_,⟨c1,rfl⟩,Sh.intro ?_⟩ | (refine Kp (fun _ => ?_) (fun _ => ?_) <;> try (exfalso; omega)) | ((first | refine Kh ?_ | refine Ki rfl ?_); simp only [d1,hnl,or_self,Qs,Qt,Qu,Qv,Qw,Qx,Qy,Qz,Za,go_sem]))
    all_goals trace_state
   ·repeat' (first | refine Kn rfl ?_ | ((first | refine Ka ?_ | refine Kb ?_ | refine Kc ?_ | refine Kd ?_ | refine Ke ?_); simp only [d1,d2,hnl,go_sem]) | refine Kf ?_ | refine Kg ?_ | refine ⟨_,cs,Sh.intro ?_⟩ | refine ⟨_,⟨cs,rfl⟩,Sh.intro ?_⟩ | refine Or.inl ⟨_,⟨c1,rfl⟩,Sh.intro ?_⟩ | (refine Kp (fun _ => ?_) (fun _ => ?_) <;> try (exfalso; omega)) | ((first | refine Kh ?_ | refine Ki rfl ?_); simp only [d1,d2,hnl,or_self,Qs,Qt,Qu,Qv,Qw,Qx,Qy,Qz,Za,go_sem]))
    all_goals trace_state
 ·obtain ⟨a,e,hs,he⟩ := chk_some hc
  rw [hs] at c1
  dsimp only [Option.getD_some] at c1
  have hne : (e != 0) = true := by simpa using he
  repeat' (first | refine Kn rfl ?_ | ((first | refine Ka ?_ | refine Kb ?_ | refine Kc ?_ | refine Kd ?_ | refine Ke ?_); simp only [hne,hnl,go_sem]) | refine Kf ?_ | refine Kg ?_ | refine ⟨_,cs,Sh.intro ?_⟩ | refine ⟨_,⟨cs,rfl⟩,Sh.intro ?_⟩ | refine Or.inl ⟨_,⟨c1,rfl⟩,Sh.intro ?_⟩ | (refine Kp (fun _ => ?_) (fun _ => ?_) <;> try (exfalso; omega)) | ((first | refine Kh ?_ | refine Ki rfl ?_); simp only [hne,hnl,or_self,Qs,Qt,Qu,Qv,Qw,Qx,Qy,Qz,Za,go_sem]))
  all_goals trace_state
end Go.Fw.L07
