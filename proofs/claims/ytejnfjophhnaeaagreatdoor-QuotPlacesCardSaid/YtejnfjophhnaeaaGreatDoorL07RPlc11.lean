/- Chapter 11: the law QuotPlaces. -/
import Derived.Test.YtejnfjophhnaeaaGreatDoorL07T11
set_option linter.all false
namespace Go.Fw.L07
open Go Go.Fw
open Go.Fw.Sh renaming intro -> Kg
open Go.Fw renaming G_reg -> Ka,G_regw -> Ka,VO_chk -> Kb,VO_go -> Kc,VO_gx -> Kd,G_cond -> Ke,VO_end -> Kf,G_fin -> Kh,G_ret -> Ki,G_weak -> Kj,G_again -> Kl,G_loop -> Km,Gx -> Kn
open And renaming intro -> Kp
open Go.Proofs.Tryz renaming prog -> QP
open Go.Fw.V.one renaming injEq -> Qs
open Go.Fw.V.agg renaming injEq -> Qt
open Go.Fw.V.tup renaming injEq -> Qu
open Go.Fw.A.d renaming injEq -> Qv
open Go.Fw.D.bool renaming injEq -> Qw
open Go.Fw.D.int renaming injEq -> Qx
open Go.Fw.D.str renaming injEq -> Qy
open Go.Fw.D.sl renaming injEq -> Qz
open List.cons renaming injEq -> Za
set_option maxRecDepth 4000
variable {gp : Heap}
set_option maxHeartbeats 4000000 in
theorem quot_places (h : Env10 gp) (g : Gr) : Does QP gp 10 [g.v] (vb true) := by
 refine f10_in ?_
 simp only [go_sem]
 have cs := shown11_ok h
 have cg := small9 (gp := gp) g 30
 have hs := smallG_small11 g 30
 have hst := smallG_short11 g 30
 generalize smallG g 30 = q at *
 have c1 := quot11 h q hs hst
 have c2 := places11 h q hs hst
 have c3 := classes10 h q hs hst
 have c4 := walk_gr h.e q hs
 by_cases hc : chk q = none
 ·have hg : Good q := ⟨hc,hs⟩
  have hq := hg.quot
  have hqs := quot_short hg hst
  have hgl := hg.len
  have hPl := plc_len hg
  have hCl := clsL_len hg.fine
  have hwn := hg.wlen
  have e0 : pOf q = plcG q := by unfold pOf; rw [if_pos hc]
  have hP : ∀ n : Nat,n < q.l.length -> ∃ p c,(plcG q)[n]? = some p /\ (clsL q.l)[n]? = some c /\ p = plcA q n /\ c = clsA q.l n := fun n hn => by
   have hi : inL q.l n := nat_inL hn
   have h1 := plc_at hg hi
   have h2 := clsA_at hg.fine hi
   rw [Int.toNat_natCast] at h1 h2
   exact ⟨_,_,h1,h2,rfl,rfl⟩
  have hb : ∀ n : Nat,n < q.l.length -> -1 <= plcA q n /\ plcA q n < (quotG q).l.length := fun n _ => plc_lt hg n
  have hbis : ∀ n : Nat,n < q.l.length -> 0 <= plcA q n -> Does QP gp 16 [(⟨n,q.l⟩ : Gr).v,(⟨plcA q n,(quotG q).l⟩ : Gr).v] (.tup [vb true,vi 0]) := fun n hn hp => by
   have hi : inL q.l n := nat_inL hn
   have g1 : Good ⟨n,q.l⟩ := hg.reroot hi
   have g2 : Good ⟨plcA q n,(quotG q).l⟩ := hq.reroot ⟨hp,(hb n hn).2⟩
   have := bisim10 h ⟨n,q.l⟩ ⟨plcA q n,(quotG q).l⟩ hs hq.s hst hqs
   have e1 : bisB ⟨n,q.l⟩ ⟨plcA q n,(quotG q).l⟩ = true := by
    unfold bisB
    rw [if_pos ⟨g1.c,g2.c⟩]
    exact (simB_good g1 g2).2 (plc_sim hg hi hp)
   have e2 : bisE ⟨n,q.l⟩ ⟨plcA q n,(quotG q).l⟩ = 0 := by unfold bisE; rw [if_pos (chkE_ok g1.c),chkE_ok g2.c]
   rwa [e1,e2] at this
  have heq : ∀ n m : Nat,(0 <= plcA q n \/ 0 <= plcA q m) -> ((clsA q.l n == clsA q.l m) = (plcA q n == plcA q m)) := fun n m hp => by
   rw [Bool.eq_iff_iff,beq_iff_eq,beq_iff_eq]
   exact (plc_eq hp).symm
  have hw : ∀ (i : Nat) (x : Int),(walkL q)[i]? = some x -> (0 <= x /\ x < q.l.length) /\ ∃ p,(plcG q)[x.toNat]? = some p /\ 0 <= p := fun i x hx => by
   have hm := List.mem_of_getElem? hx
   have h1 := hg.wIn x hm
   exact ⟨h1,_,plc_at hg h1,plc_walk hg hm⟩
  rw [qOf_good hg,chkE_ok hc] at c1
  rw [e0,chkE_ok hc] at c2
  rw [cOf_good hg,chkE_ok hc] at c3
  rw [wOf_good hg,chkE_ok hc] at c4
  generalize plcA q = pa at *
  generalize clsA q.l = ca at *
  generalize plcG q = P at *
  generalize clsL q.l = C at *
  generalize walkL q = w at *
  generalize quotG q = A at *
  repeat' (first | refine Kn rfl ?_ | ((first | refine Ka ?_ | refine Kb ?_ | refine Kc ?_ | refine Kd ?_ | refine Ke ?_); simp only [hPl,hCl,go_sem]) | refine Kf ?_ | refine Kg ?_ | refine ⟨_,cs,Sh.intro ?_⟩ | refine ⟨_,⟨cs,rfl⟩,Sh.intro ?_⟩ | refine ⟨_,cg,Sh.intro ?_⟩ | refine ⟨_,⟨cg,rfl⟩,Sh.intro ?_⟩ | refine ⟨_,c1,Sh.intro ?_⟩ | refine ⟨_,⟨c1,rfl⟩,Sh.intro ?_⟩ | refine ⟨_,c2,Sh.intro ?_⟩ | refine ⟨_,⟨c2,rfl⟩,Sh.intro ?_⟩ | refine ⟨_,c3,Sh.intro ?_⟩ | refine ⟨_,⟨c3,rfl⟩,Sh.intro ?_⟩ | refine ⟨_,c4,Sh.intro ?_⟩ | refine ⟨_,⟨c4,rfl⟩,Sh.intro ?_⟩ | (refine Kp (fun _ => ?_) (fun _ => ?_) <;> try (exfalso; omega)) | ((first | refine Kh ?_ | refine Ki rfl ?_); simp only [hPl,hCl,or_self,Qs,Qt,Qu,Qv,Qw,Qx,Qy,Qz,Za,go_sem]))
  refine Kj (fr 191 [(1,.one (.ptr 0 0)),(2,vb false),(3,vb true),(4,.one (.ptr 1 0)),(6,.one (.d (.sl (ints P)))),(8,.one (.d (.sl (ints C)))),(10,.one (.d (.sl (ints w)))),(12,vi ((0 : Nat) : Int))]) (by (simp only [go_sem]; repeat' (first | refine Kp ?_ ?_ | exact Or.inl rfl | exact Or.inr rfl | rfl))) ?_
  refine Km (fun mz sz => ∃ n : Nat,n <= q.l.length /\ mz = q.l.length - n /\ sz = ⟨fr 191 [(1,.one (.ptr 0 0)),(2,vb false),(3,vb true),(4,.one (.ptr 1 0)),(6,.one (.d (.sl (ints P)))),(8,.one (.d (.sl (ints C)))),(10,.one (.d (.sl (ints w)))),(12,vi (n : Int))],[.cells q.as,.cells A.as]⟩) q.l.length ⟨0,Nat.zero_le _,rfl,rfl⟩ ?_
  rintro _ _ ⟨n,hn,rfl,rfl⟩
  simp only [go_sem]
  by_cases hnl : n < q.l.length
  ·obtain ⟨p,c,hp1,hc1,rfl,rfl⟩ := hP n hnl
   have hbn := hb n hnl
   have e1 : decide ((n : Int) < (q.l.length : Int)) = true := decide_eq_true (by omega)
   have e2 : decide (pa n < -1) = false := decide_eq_false (by omega)
   have e3 : decide (pa n >= (A.l.length : Int)) = false := decide_eq_false (by omega)
   by_cases hp0 : 0 <= pa n
   case' pos =>
    have e4 : decide (pa n >= 0) = true := decide_eq_true hp0
    have c5 := hbis n hnl hp0
    repeat' (first | refine Kn rfl ?_ | ((first | refine Ka ?_ | refine Kb ?_ | refine Kc ?_ | refine Kd ?_ | refine Ke ?_); simp only [e1,e2,e3,e4,hPl,go_sem]) | refine Kf ?_ | refine Kg ?_ | refine ⟨_,c5,Sh.intro ?_⟩ | refine ⟨_,⟨c5,rfl⟩,Sh.intro ?_⟩ | refine ⟨_,⟨Int.natCast_nonneg _,ints_get hp1,rfl⟩,Sh.intro ?_⟩ | (refine Kp (fun _ => ?_) (fun _ => ?_) <;> try (exfalso; omega)) | ((first | refine Kh ?_ | refine Ki rfl ?_); simp only [e1,e2,e3,e4,hPl,or_self,Qs,Qt,Qu,Qv,Qw,Qx,Qy,Qz,Za,go_sem]))
   case' neg =>
    have e4 : decide (pa n >= 0) = false := decide_eq_false hp0
    repeat' (first | refine Kn rfl ?_ | ((first | refine Ka ?_ | refine Kb ?_ | refine Kc ?_ | refine Kd ?_ | refine Ke ?_); simp only [e1,e2,e3,e4,hPl,go_sem]) | refine Kf ?_ | refine Kg ?_ | refine ⟨_,⟨Int.natCast_nonneg _,ints_get hp1,rfl⟩,Sh.intro ?_⟩ | (refine Kp (fun _ => ?_) (fun _ => ?_) <;> try (exfalso; omega)) | ((first | refine Kh ?_ | refine Ki rfl ?_); simp only [e1,e2,e3,e4,hPl,or_self,Qs,Qt,Qu,Qv,Qw,Qx,Qy,Qz,Za,go_sem]))
   all_goals
    refine Kj (fr 191 [(1,.one (.ptr 0 0)),(2,vb false),(3,vb true),(4,.one (.ptr 1 0)),(6,.one (.d (.sl (ints P)))),(8,.one (.d (.sl (ints C)))),(10,.one (.d (.sl (ints w)))),(12,vi (n : Int)),(15,vi ((0 : Nat) : Int))]) (by (simp only [go_sem]; repeat' (first | refine Kp ?_ ?_ | exact Or.inl rfl | exact Or.inr rfl | rfl))) ?_
    refine Km (fun mz sz => ∃ m : Nat,m <= n /\ mz = n - m /\ sz = ⟨fr 191 [(1,.one (.ptr 0 0)),(2,vb false),(3,vb true),(4,.one (.ptr 1 0)),(6,.one (.d (.sl (ints P)))),(8,.one (.d (.sl (ints C)))),(10,.one (.d (.sl (ints w)))),(12,vi (n : Int)),(15,vi (m : Int))],[.cells q.as,.cells A.as]⟩) n ⟨0,Nat.zero_le _,rfl,rfl⟩ ?_
    rintro _ _ ⟨m,hm,rfl,rfl⟩
    simp only [go_sem]
    by_cases hmn : m < n
    ·obtain ⟨p2,c2,hp2,hc2,rfl,rfl⟩ := hP m (by omega)
     have e5 : decide ((m : Int) < (n : Int)) = true := decide_eq_true (by omega)
     by_cases hpp : 0 <= pa n \/ 0 <= pa m
     ·have e6 := heq n m hpp
      repeat' (first | refine Kn rfl ?_ | ((first | refine Ka ?_ | refine Kb ?_ | refine Kc ?_ | refine Kd ?_ | refine Ke ?_); simp only [e5,e6,go_sem]) | refine Kf ?_ | refine Kg ?_ | refine ⟨_,⟨Int.natCast_nonneg _,ints_get hc1,rfl⟩,Sh.intro ?_⟩ | refine ⟨_,⟨Int.natCast_nonneg _,ints_get hc2,rfl⟩,Sh.intro ?_⟩ | refine ⟨_,⟨Int.natCast_nonneg _,ints_get hp1,rfl⟩,Sh.intro ?_⟩ | refine ⟨_,⟨Int.natCast_nonneg _,ints_get hp2,rfl⟩,Sh.intro ?_⟩ | (refine Kp (fun _ => ?_) (fun _ => ?_) <;> try (exfalso; omega)) | ((first | refine Kh ?_ | refine Ki rfl ?_); simp only [e5,e6,or_self,Qs,Qt,Qu,Qv,Qw,Qx,Qy,Qz,Za,go_sem]))
      all_goals refine ⟨inK_nat hmn (by unfold lenMax; omega),?_⟩
      all_goals refine Kj (fr 191 [(1,.one (.ptr 0 0)),(2,vb false),(3,vb true),(4,.one (.ptr 1 0)),(6,.one (.d (.sl (ints P)))),(8,.one (.d (.sl (ints C)))),(10,.one (.d (.sl (ints w)))),(12,vi (n : Int)),(15,vi (m + 1))]) (by (simp only [go_sem]; repeat' (first | refine Kp ?_ ?_ | exact Or.inl rfl | exact Or.inr rfl | rfl))) ?_
      all_goals exact Kl ⟨n - (m + 1),by omega,m + 1,by omega,rfl,rfl⟩
     ·have e6 : decide (pa n >= 0) = false := decide_eq_false (by omega)
      have e7 : decide (pa m >= 0) = false := decide_eq_false (by omega)
      cases hbq : ((ca n == ca m) == (pa n == pa m))
      ·repeat' (first | refine Kn rfl ?_ | ((first | refine Ka ?_ | refine Kb ?_ | refine Kc ?_ | refine Kd ?_ | refine Ke ?_); simp only [e5,hbq,e6,e7,go_sem]) | refine Kf ?_ | refine Kg ?_ | refine ⟨_,⟨Int.natCast_nonneg _,ints_get hc1,rfl⟩,Sh.intro ?_⟩ | refine ⟨_,⟨Int.natCast_nonneg _,ints_get hc2,rfl⟩,Sh.intro ?_⟩ | refine ⟨_,⟨Int.natCast_nonneg _,ints_get hp1,rfl⟩,Sh.intro ?_⟩ | refine ⟨_,⟨Int.natCast_nonneg _,ints_get hp2,rfl⟩,Sh.intro ?_⟩ | (refine Kp (fun _ => ?_) (fun _ => ?_) <;> try (exfalso; omega)) | ((first | refine Kh ?_ | refine Ki rfl ?_); simp only [e5,hbq,e6,e7,or_self,Qs,Qt,Qu,Qv,Qw,Qx,Qy,Qz,Za,go_sem]))
       all_goals refine ⟨inK_nat hmn (by unfold lenMax; omega),?_⟩
       all_goals refine Kj (fr 191 [(1,.one (.ptr 0 0)),(2,vb false),(3,vb true),(4,.one (.ptr 1 0)),(6,.one (.d (.sl (ints P)))),(8,.one (.d (.sl (ints C)))),(10,.one (.d (.sl (ints w)))),(12,vi (n : Int)),(15,vi (m + 1))]) (by (simp only [go_sem]; repeat' (first | refine Kp ?_ ?_ | exact Or.inl rfl | exact Or.inr rfl | rfl))) ?_
       all_goals exact Kl ⟨n - (m + 1),by omega,m + 1,by omega,rfl,rfl⟩
      ·repeat' (first | refine Kn rfl ?_ | ((first | refine Ka ?_ | refine Kb ?_ | refine Kc ?_ | refine Kd ?_ | refine Ke ?_); simp only [e5,hbq,go_sem]) | refine Kf ?_ | refine Kg ?_ | refine ⟨_,⟨Int.natCast_nonneg _,ints_get hc1,rfl⟩,Sh.intro ?_⟩ | refine ⟨_,⟨Int.natCast_nonneg _,ints_get hc2,rfl⟩,Sh.intro ?_⟩ | refine ⟨_,⟨Int.natCast_nonneg _,ints_get hp1,rfl⟩,Sh.intro ?_⟩ | refine ⟨_,⟨Int.natCast_nonneg _,ints_get hp2,rfl⟩,Sh.intro ?_⟩ | (refine Kp (fun _ => ?_) (fun _ => ?_) <;> try (exfalso; omega)) | ((first | refine Kh ?_ | refine Ki rfl ?_); simp only [e5,hbq,or_self,Qs,Qt,Qu,Qv,Qw,Qx,Qy,Qz,Za,go_sem]))
       all_goals refine ⟨inK_nat hmn (by unfold lenMax; omega),?_⟩
       all_goals refine Kj (fr 191 [(1,.one (.ptr 0 0)),(2,vb false),(3,vb true),(4,.one (.ptr 1 0)),(6,.one (.d (.sl (ints P)))),(8,.one (.d (.sl (ints C)))),(10,.one (.d (.sl (ints w)))),(12,vi (n : Int)),(15,vi (m + 1))]) (by (simp only [go_sem]; repeat' (first | refine Kp ?_ ?_ | exact Or.inl rfl | exact Or.inr rfl | rfl))) ?_
       all_goals exact Kl ⟨n - (m + 1),by omega,m + 1,by omega,rfl,rfl⟩
    ·obtain rfl : m = n := by omega
     have e5 : decide ((m : Int) < (m : Int)) = false := decide_eq_false (by omega)
     repeat' (first | refine Kn rfl ?_ | ((first | refine Ka ?_ | refine Kb ?_ | refine Kc ?_ | refine Kd ?_ | refine Ke ?_); simp only [e5,go_sem]) | refine Kf ?_ | refine Kg ?_ | (refine Kp (fun _ => ?_) (fun _ => ?_) <;> try (exfalso; omega)) | ((first | refine Kh ?_ | refine Ki rfl ?_); simp only [e5,or_self,Qs,Qt,Qu,Qv,Qw,Qx,Qy,Qz,Za,go_sem]))
     refine ⟨inK_nat hnl (by unfold lenMax; omega),?_⟩
     refine Kj (fr 191 [(1,.one (.ptr 0 0)),(2,vb false),(3,vb true),(4,.one (.ptr 1 0)),(6,.one (.d (.sl (ints P)))),(8,.one (.d (.sl (ints C)))),(10,.one (.d (.sl (ints w)))),(12,vi (m + 1))]) (by (simp only [go_sem]; repeat' (first | refine Kp ?_ ?_ | exact Or.inl rfl | exact Or.inr rfl | rfl))) ?_
     exact Kl ⟨q.l.length - (m + 1),by omega,m + 1,by omega,rfl,rfl⟩
  ·obtain rfl : n = q.l.length := by omega
   have e1 : decide ((q.l.length : Int) < (q.l.length : Int)) = false := decide_eq_false (by omega)
   repeat' (first | refine Kn rfl ?_ | ((first | refine Ka ?_ | refine Kb ?_ | refine Kc ?_ | refine Kd ?_ | refine Ke ?_); simp only [e1,hPl,go_sem]) | refine Kf ?_ | refine Kg ?_ | (refine Kp (fun _ => ?_) (fun _ => ?_) <;> try (exfalso; omega)) | ((first | refine Kh ?_ | refine Ki rfl ?_); simp only [e1,hPl,or_self,Qs,Qt,Qu,Qv,Qw,Qx,Qy,Qz,Za,go_sem]))
   refine Kj (fr 191 [(1,.one (.ptr 0 0)),(2,vb false),(3,vb true),(4,.one (.ptr 1 0)),(6,.one (.d (.sl (ints P)))),(8,.one (.d (.sl (ints C)))),(10,.one (.d (.sl (ints w)))),(16,vi ((0 : Nat) : Int))]) (by (simp only [go_sem]; repeat' (first | refine Kp ?_ ?_ | exact Or.inl rfl | exact Or.inr rfl | rfl))) ?_
   refine Km (fun mz sz => ∃ i : Nat,i <= w.length /\ mz = w.length - i /\ sz = ⟨fr 191 [(1,.one (.ptr 0 0)),(2,vb false),(3,vb true),(4,.one (.ptr 1 0)),(6,.one (.d (.sl (ints P)))),(8,.one (.d (.sl (ints C)))),(10,.one (.d (.sl (ints w)))),(16,vi (i : Int))],[.cells q.as,.cells A.as]⟩) w.length ⟨0,Nat.zero_le _,rfl,rfl⟩ ?_
   rintro _ _ ⟨i,hi,rfl,rfl⟩
   simp only [go_sem]
   by_cases hil : i < w.length
   ·obtain ⟨x,hx⟩ := at_lt hil
    obtain ⟨⟨hx0,hx1⟩,p,hxp,hp0⟩ := hw i x hx
    have e1 : decide ((i : Int) < (w.length : Int)) = true := decide_eq_true (by omega)
    have e2 : decide (x < 0) = false := decide_eq_false (by omega)
    have e3 : decide (x >= (q.l.length : Int)) = false := decide_eq_false (by omega)
    have e4 : decide (p < 0) = false := decide_eq_false (by omega)
    repeat' (first | refine Kn rfl ?_ | ((first | refine Ka ?_ | refine Kb ?_ | refine Kc ?_ | refine Kd ?_ | refine Ke ?_); simp only [e1,e2,e3,e4,hPl,go_sem]) | refine Kf ?_ | refine Kg ?_ | refine ⟨_,⟨Int.natCast_nonneg _,ints_get hx,rfl⟩,Sh.intro ?_⟩ | refine ⟨_,⟨hx0,ints_get hxp,rfl⟩,Sh.intro ?_⟩ | (refine Kp (fun _ => ?_) (fun _ => ?_) <;> try (exfalso; omega)) | ((first | refine Kh ?_ | refine Ki rfl ?_); simp only [e1,e2,e3,e4,hPl,or_self,Qs,Qt,Qu,Qv,Qw,Qx,Qy,Qz,Za,go_sem]))
    refine ⟨inK_nat hil (by unfold lenMax; omega),?_⟩
    refine Kj (fr 191 [(1,.one (.ptr 0 0)),(2,vb false),(3,vb true),(4,.one (.ptr 1 0)),(6,.one (.d (.sl (ints P)))),(8,.one (.d (.sl (ints C)))),(10,.one (.d (.sl (ints w)))),(16,vi (i + 1))]) (by (simp only [go_sem]; repeat' (first | refine Kp ?_ ?_ | exact Or.inl rfl | exact Or.inr rfl | rfl))) ?_
    exact Kl ⟨w.length - (i + 1),by omega,i + 1,by omega,rfl,rfl⟩
   ·obtain rfl : i = w.length := by omega
    have e1 : decide ((w.length : Int) < (w.length : Int)) = false := decide_eq_false (by omega)
    repeat' (first | refine Kn rfl ?_ | ((first | refine Ka ?_ | refine Kb ?_ | refine Kc ?_ | refine Kd ?_ | refine Ke ?_); simp only [e1,go_sem]) | refine Kf ?_ | refine Kg ?_ | (refine Kp (fun _ => ?_) (fun _ => ?_) <;> try (exfalso; omega)) | ((first | refine Kh ?_ | refine Ki rfl ?_); simp only [e1,or_self,Qs,Qt,Qu,Qv,Qw,Qx,Qy,Qz,Za,go_sem]))
 ·have he := chkE_bad hc
  have e0 : pOf q = [] := by unfold pOf; rw [if_neg hc]
  rw [e0] at c2
  generalize chkE q = e at *
  generalize qOf q = A at *
  generalize cOf q = C at *
  generalize wOf q = w at *
  have hne : (e != 0) = true := by simpa using he
  repeat' (first | refine Kn rfl ?_ | ((first | refine Ka ?_ | refine Kb ?_ | refine Kc ?_ | refine Kd ?_ | refine Ke ?_); simp only [hne,go_sem]) | refine Kf ?_ | refine Kg ?_ | refine ⟨_,cs,Sh.intro ?_⟩ | refine ⟨_,⟨cs,rfl⟩,Sh.intro ?_⟩ | refine ⟨_,cg,Sh.intro ?_⟩ | refine ⟨_,⟨cg,rfl⟩,Sh.intro ?_⟩ | refine ⟨_,c1,Sh.intro ?_⟩ | refine ⟨_,⟨c1,rfl⟩,Sh.intro ?_⟩ | refine ⟨_,c2,Sh.intro ?_⟩ | refine ⟨_,⟨c2,rfl⟩,Sh.intro ?_⟩ | refine ⟨_,c3,Sh.intro ?_⟩ | refine ⟨_,⟨c3,rfl⟩,Sh.intro ?_⟩ | refine ⟨_,c4,Sh.intro ?_⟩ | refine ⟨_,⟨c4,rfl⟩,Sh.intro ?_⟩ | (refine Kp (fun _ => ?_) (fun _ => ?_) <;> try (exfalso; omega)) | ((first | refine Kh ?_ | refine Ki rfl ?_); simp only [hne,or_self,Qs,Qt,Qu,Qv,Qw,Qx,Qy,Qz,Za,go_sem]))
  all_goals first | (exfalso; simp_all; done) | simp_all | trace_state
end Go.Fw.L07
