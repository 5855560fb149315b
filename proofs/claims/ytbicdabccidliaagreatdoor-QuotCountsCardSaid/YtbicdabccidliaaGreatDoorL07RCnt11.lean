/- Chapter 11: the law QuotCounts. -/
import Derived.Test.YtbicdabccidliaaGreatDoorL07S11
set_option linter.all false
namespace Go.Fw.L07
open Go Go.Fw
open Go.Fw.Sh renaming intro -> Kg
open Go.Fw renaming G_reg -> Ka,VO_chk -> Kb,VO_go -> Kc,VO_gx -> Kd,G_cond -> Ke,VO_end -> Kf,G_fin -> Kh,G_ret -> Ki,G_weak -> Kj,G_again -> Kl,G_loop -> Km,Gx -> Kn
open Go.Proofs.Tryz renaming prog -> QP
open Nat renaming reduceAdd -> Qa,reduceSub -> Qb,reduceMul -> Qc,reduceLeDiff -> Qd,reduceLT -> Qe,reduceEqDiff -> Qf
open Int renaming reduceToNat -> Qg,reduceLT -> Qh,reduceLE -> Qi,reduceGT -> Qj,reduceGE -> Qk,reduceEq -> Ql,reduceNe -> Qm,reduceBEq -> Qn,reduceBNe -> Qo,reduceAdd -> Qp,reduceSub -> Qq,reduceNeg -> Qr
open Go.Fw.V.one renaming injEq -> Qs
open Go.Fw.V.agg renaming injEq -> Qt
open Go.Fw.V.tup renaming injEq -> Qu
open Go.Fw.A.d renaming injEq -> Qv
open Go.Fw.D.bool renaming injEq -> Qw
open Go.Fw.D.int renaming injEq -> Qx
open Go.Fw.D.str renaming injEq -> Qy
open Go.Fw.D.sl renaming injEq -> Qz
open List.cons renaming injEq -> Za
set_option maxRecDepth 4000
variable {gp : Heap}
set_option maxHeartbeats 1000000 in
theorem quot_counts (h : Env10 gp) (g : Gr) : Does QP gp 10 [g.v] (vb true) := by
 refine f10_in ?_
 simp only [go_sem]
 have cs := shown11_ok h
 have cg := small9 (gp := gp) g 60
 have hs := smallG_small11 g 60
 have hst := smallG_short11 g 60
 generalize smallG g 60 = q at *
 have c1 := quot11 h q hs hst
 have c2 := classes10 h q hs hst
 have c3 := walk_gr h.e q hs
 by_cases hc : chk q = none
 ·have hg : Good q := ⟨hc,hs⟩
  rw [qOf_good hg,chkE_ok hc] at c1
  rw [cOf_good hg,chkE_ok hc] at c2
  rw [wOf_good hg,chkE_ok hc] at c3
  have hcnt := quot_count hg
  have hwn := hg.wnodup
  have hwl := hg.wlen
  have hgl := hg.len
  have hcl := clsL_len hg.fine
  have hwc : ∀ (i : Nat) (x : Int),(walkL q)[i]? = some x -> (0 <= x /\ x < ((clsL q.l).length : Int)) /\ (clsL q.l)[x.toNat]? = some (clsA q.l x) := fun i x hx => by
   have h1 := hg.wIn x (List.mem_of_getElem? hx)
   exact ⟨by rw [hcl]; exact h1,clsA_at hg.fine h1⟩
  generalize clsA q.l = f at *
  generalize clsL q.l = C at *
  generalize walkL q = w at *
  repeat' (first | refine Kn rfl ?_ | ((first | refine Ka ?_ | refine Kb ?_ | refine Kc ?_ | refine Kd ?_ | refine Ke ?_); simp only [go_sem]) | refine Kf ?_ | refine Kg ?_ | refine ⟨_,cs,Sh.intro ?_⟩ | refine ⟨_,⟨cs,rfl⟩,Sh.intro ?_⟩ | refine ⟨_,cg,Sh.intro ?_⟩ | refine ⟨_,⟨cg,rfl⟩,Sh.intro ?_⟩ | refine ⟨_,c1,Sh.intro ?_⟩ | refine ⟨_,⟨c1,rfl⟩,Sh.intro ?_⟩ | refine ⟨_,c2,Sh.intro ?_⟩ | refine ⟨_,⟨c2,rfl⟩,Sh.intro ?_⟩ | refine ⟨_,c3,Sh.intro ?_⟩ | refine ⟨_,⟨c3,rfl⟩,Sh.intro ?_⟩ | refine And.intro (fun _ => ?_) (fun _ => ?_) | ((first | refine Kh ?_ | refine Ki rfl ?_); simp only [or_self,Qs,Qt,Qu,Qv,Qw,Qx,Qy,Qz,Za,go_sem]))
  generalize hF : w.map f = F at *
  have hFl : F.length = w.length := by rw [<- hF,List.length_map]
  have hFa : ∀ (i : Nat) (x : Int),w[i]? = some x -> F[i]? = some (f x) := fun i x hx => by rw [<- hF,List.getElem?_map,hx]; rfl
  refine Kj (fr 107 [(3,vb true),(4,.one (.ptr 1 0)),(6,.one (.d (.sl (ints C)))),(7,vi 0),(8,.one (.d (.sl (ints w)))),(9,vi 0),(10,vi (((0 : Nat) : Int) : Int)),(11,vi ((0 : Nat) : Int))]) (by (simp only [go_sem]; repeat' (first | refine And.intro ?_ ?_ | exact Or.inl rfl | exact Or.inr rfl | rfl))) ?_
  refine Km (fun mz sz => ∃ i n : Nat,i <= w.length /\ mz = w.length - i /\ n = (ddp (F.take i)).length /\ sz = ⟨fr 107 [(3,vb true),(4,.one (.ptr 1 0)),(6,.one (.d (.sl (ints C)))),(7,vi 0),(8,.one (.d (.sl (ints w)))),(9,vi 0),(10,vi (n : Int)),(11,vi (i : Int))],[.cells q.as,.cells (quotG q).as]⟩) w.length ⟨0,0,Nat.zero_le _,rfl,rfl,rfl⟩ ?_
  rintro _ _ ⟨i,n,hi,rfl,hn,rfl⟩
  simp only [go_sem]
  by_cases hil : i < w.length
  ·obtain ⟨x,hx⟩ := at_lt hil
   obtain ⟨⟨hx0,hx1⟩,hxC⟩ := hwc i x hx
   have hFx := hFa i x hx
   have e1 : decide ((i : Int) < (w.length : Int)) = true := decide_eq_true (by omega)
   have e2 : decide (x >= 0) = true := decide_eq_true hx0
   have e3 : decide (x < (C.length : Int)) = true := decide_eq_true hx1
   have hnl : n <= i := by
    have := ddp_len (F.take i)
    rw [List.length_take] at this
    omega
   repeat' (first | refine Kn rfl ?_ | ((first | refine Ka ?_ | refine Kb ?_ | refine Kc ?_ | refine Kd ?_ | refine Ke ?_); simp only [e1,e2,e3,go_sem]) | refine Kf ?_ | refine Kg ?_ | refine ⟨_,⟨Int.natCast_nonneg _,ints_get hx,rfl⟩,Sh.intro ?_⟩ | refine ⟨_,⟨Int.natCast_nonneg _,ints_get hx,rfl⟩,Sh.intro ?_⟩ | (refine And.intro (fun _ => ?_) (fun _ => ?_) <;> try (exfalso; omega)) | ((first | refine Kh ?_ | refine Ki rfl ?_); simp only [e1,e2,e3,or_self,Qs,Qt,Qu,Qv,Qw,Qx,Qy,Qz,Za,go_sem]))
   refine Kj (fr 107 [(3,vb true),(4,.one (.ptr 1 0)),(6,.one (.d (.sl (ints C)))),(7,vi 0),(8,.one (.d (.sl (ints w)))),(9,vi 0),(10,vi (n : Int)),(11,vi i),(12,vb true),(13,vi ((0 : Nat) : Int))]) (by (simp only [go_sem]; repeat' (first | refine And.intro ?_ ?_ | exact Or.inl rfl | exact Or.inr rfl | rfl))) ?_
   refine Km (fun mz sz => ∃ (j : Nat) (b : Bool),j <= i /\ mz = i - j /\ b = decide (f x ∉ F.take j) /\ sz = ⟨fr 107 [(3,vb true),(4,.one (.ptr 1 0)),(6,.one (.d (.sl (ints C)))),(7,vi 0),(8,.one (.d (.sl (ints w)))),(9,vi 0),(10,vi (n : Int)),(11,vi i),(12,vb b),(13,vi (j : Int))],[.cells q.as,.cells (quotG q).as]⟩) i ⟨0,true,Nat.zero_le _,rfl,by simp,rfl⟩ ?_
   rintro _ _ ⟨j,b,hj,rfl,hb,rfl⟩
   simp only [go_sem]
   by_cases hgo : j < i /\ b = true
   ·obtain ⟨hji,rfl⟩ := hgo
    obtain ⟨y,hy⟩ := at_lt (l := w) (i := j) (by omega)
    obtain ⟨⟨hy0,hy1⟩,hyC⟩ := hwc j y hy
    have hFy := hFa j y hy
    have e4 : decide ((j : Int) < (i : Int)) = true := decide_eq_true (by omega)
    have hb' : (!(f y == f x)) = decide (f x ∉ F.take (j + 1)) := by
     have hb2 : f x ∉ F.take j := of_decide_eq_true hb.symm
     rw [List.take_succ,hFy]
     by_cases e : f y = f x
     ·simp [e]
     ·have e' : ¬ f x = f y := fun h => e h.symm
      simp [e,e',hb2]
    repeat' (first | refine Kn rfl ?_ | ((first | refine Ka ?_ | refine Kb ?_ | refine Kc ?_ | refine Kd ?_ | refine Ke ?_); simp only [e4,go_sem]) | refine Kf ?_ | refine Kg ?_ | refine ⟨_,⟨Int.natCast_nonneg _,ints_get hy,rfl⟩,Sh.intro ?_⟩ | refine ⟨_,⟨hy0,ints_get hyC,rfl⟩,Sh.intro ?_⟩ | refine ⟨_,⟨Int.natCast_nonneg _,ints_get hx,rfl⟩,Sh.intro ?_⟩ | refine ⟨_,⟨hx0,ints_get hxC,rfl⟩,Sh.intro ?_⟩ | (refine And.intro (fun _ => ?_) (fun _ => ?_) <;> try (exfalso; omega)) | ((first | refine Kh ?_ | refine Ki rfl ?_); simp only [e4,or_self,Qs,Qt,Qu,Qv,Qw,Qx,Qy,Qz,Za,go_sem]))
    refine ⟨inK_nat hji (by unfold lenMax; omega),?_⟩
    refine Kj (fr 107 [(3,vb true),(4,.one (.ptr 1 0)),(6,.one (.d (.sl (ints C)))),(7,vi 0),(8,.one (.d (.sl (ints w)))),(9,vi 0),(10,vi (n : Int)),(11,vi i),(12,vb (!(f y == f x))),(13,vi (j + 1))]) (by (simp only [go_sem]; repeat' (first | refine And.intro ?_ ?_ | exact Or.inl rfl | exact Or.inr rfl | rfl))) ?_
    exact Kl ⟨i - (j + 1),by omega,j + 1,_,by omega,rfl,hb',rfl⟩
   ·have hbe : b = decide (f x ∉ F.take i) := by
     by_cases hji : j < i
     ·have hbf : b = false := by
       cases b with
       | false => rfl
       | true => exact absurd ⟨hji,rfl⟩ hgo
      rw [hbf]
      rw [hbf] at hb
      have h1 : f x ∈ F.take j := by simpa using hb.symm
      have h2 : f x ∈ F.take i := by
       obtain ⟨k,hk,hk2⟩ := mem_take.1 h1
       exact mem_take.2 ⟨k,by omega,hk2⟩
      simp [h2]
     ·obtain rfl : j = i := by omega
      exact hb
    have hd : ddp (F.take (i + 1)) = if f x ∈ ddp (F.take i) then ddp (F.take i) else ddp (F.take i) ++ [f x] := by rw [take_snoc10 hFx,ddp_snoc]
    by_cases hm : f x ∈ F.take i
    ·rw [if_pos (ddp_mem.2 hm)] at hd
     have hbf : b = false := by rw [hbe]; simp [hm]
     subst hbf
     repeat' (first | refine Kn rfl ?_ | ((first | refine Ka ?_ | refine Kb ?_ | refine Kc ?_ | refine Kd ?_ | refine Ke ?_); simp only [go_sem]) | refine Kf ?_ | refine Kg ?_ | (refine And.intro (fun _ => ?_) (fun _ => ?_) <;> try (exfalso; omega)) | ((first | refine Kh ?_ | refine Ki rfl ?_); simp only [or_self,Qs,Qt,Qu,Qv,Qw,Qx,Qy,Qz,Za,go_sem]))
     all_goals
      refine ⟨inK_nat hil (by unfold lenMax; omega),?_⟩
      refine Kj (fr 107 [(3,vb true),(4,.one (.ptr 1 0)),(6,.one (.d (.sl (ints C)))),(7,vi 0),(8,.one (.d (.sl (ints w)))),(9,vi 0),(10,vi (n : Int)),(11,vi (i + 1))]) (by (simp only [go_sem]; repeat' (first | refine And.intro ?_ ?_ | exact Or.inl rfl | exact Or.inr rfl | rfl))) ?_
      exact Kl ⟨w.length - (i + 1),by omega,i + 1,n,by omega,rfl,by rw [hd]; exact hn,rfl⟩
    ·rw [if_neg (fun hh => hm (ddp_mem.1 hh))] at hd
     have hbt : b = true := by rw [hbe]; simp [hm]
     subst hbt
     have e4 : decide ((j : Int) < (i : Int)) = false := decide_eq_false (fun h => hgo ⟨by omega,rfl⟩)
     repeat' (first | refine Kn rfl ?_ | ((first | refine Ka ?_ | refine Kb ?_ | refine Kc ?_ | refine Kd ?_ | refine Ke ?_); simp only [e4,go_sem]) | refine Kf ?_ | refine Kg ?_ | (refine And.intro (fun _ => ?_) (fun _ => ?_) <;> try (exfalso; omega)) | ((first | refine Kh ?_ | refine Ki rfl ?_); simp only [e4,or_self,Qs,Qt,Qu,Qv,Qw,Qx,Qy,Qz,Za,go_sem]))
     refine ⟨inK_nat (n := 1000) (by omega) (by unfold lenMax; omega),?_⟩
     repeat' (first | refine Kn rfl ?_ | ((first | refine Ka ?_ | refine Kb ?_ | refine Kc ?_ | refine Kd ?_ | refine Ke ?_); simp only [go_sem]) | refine Kf ?_ | refine Kg ?_ | (refine And.intro (fun _ => ?_) (fun _ => ?_) <;> try (exfalso; omega)) | ((first | refine Kh ?_ | refine Ki rfl ?_); simp only [or_self,Qs,Qt,Qu,Qv,Qw,Qx,Qy,Qz,Za,go_sem]))
     refine ⟨inK_nat hil (by unfold lenMax; omega),?_⟩
     refine Kj (fr 107 [(3,vb true),(4,.one (.ptr 1 0)),(6,.one (.d (.sl (ints C)))),(7,vi 0),(8,.one (.d (.sl (ints w)))),(9,vi 0),(10,vi (((n : Int) + 1) : Int)),(11,vi (i + 1))]) (by (simp only [go_sem]; repeat' (first | refine And.intro ?_ ?_ | exact Or.inl rfl | exact Or.inr rfl | rfl))) ?_
     exact Kl ⟨w.length - (i + 1),by omega,i + 1,n + 1,by omega,rfl,by rw [hd,List.length_append,<- hn]; rfl,rfl⟩
  ·obtain rfl : i = w.length := by omega
   have e1 : decide ((w.length : Int) < (w.length : Int)) = false := decide_eq_false (by omega)
   rw [List.take_of_length_le (by omega)] at hn
   have e5 : (quotG q).l.length = n := by rw [hcnt,hn]
   repeat' (first | refine Kn rfl ?_ | ((first | refine Ka ?_ | refine Kb ?_ | refine Kc ?_ | refine Kd ?_ | refine Ke ?_); simp only [e1,e5,go_sem]) | refine Kf ?_ | refine Kg ?_ | (refine And.intro (fun _ => ?_) (fun _ => ?_) <;> try (exfalso; omega)) | ((first | refine Kh ?_ | refine Ki rfl ?_); simp only [e1,e5,or_self,Qs,Qt,Qu,Qv,Qw,Qx,Qy,Qz,Za,go_sem]))
 ·have he := chkE_bad hc
  generalize chkE q = e at *
  generalize qOf q = P at *
  generalize cOf q = C at *
  generalize wOf q = w at *
  have hne : (e != 0) = true := by simpa using he
  repeat' (first | refine Kn rfl ?_ | ((first | refine Ka ?_ | refine Kb ?_ | refine Kc ?_ | refine Kd ?_ | refine Ke ?_); simp only [hne,go_sem]) | refine Kf ?_ | refine Kg ?_ | refine ⟨_,cs,Sh.intro ?_⟩ | refine ⟨_,⟨cs,rfl⟩,Sh.intro ?_⟩ | refine ⟨_,cg,Sh.intro ?_⟩ | refine ⟨_,⟨cg,rfl⟩,Sh.intro ?_⟩ | refine ⟨_,c1,Sh.intro ?_⟩ | refine ⟨_,⟨c1,rfl⟩,Sh.intro ?_⟩ | refine ⟨_,c2,Sh.intro ?_⟩ | refine ⟨_,⟨c2,rfl⟩,Sh.intro ?_⟩ | refine ⟨_,c3,Sh.intro ?_⟩ | refine ⟨_,⟨c3,rfl⟩,Sh.intro ?_⟩ | (refine And.intro (fun _ => ?_) (fun _ => ?_) <;> try (exfalso; omega)) | ((first | refine Kh ?_ | refine Ki rfl ?_); simp only [hne,or_self,Qs,Qt,Qu,Qv,Qw,Qx,Qy,Qz,Za,go_sem]))
  all_goals first | (exfalso; omega) | rfl | (exfalso; simp_all; done) | simp_all | trace_state
end Go.Fw.L07
