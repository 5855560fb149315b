/- Chapter 10: the law RefineStable. -/
import Derived.Test.YtejnfjophhnaeaaGreatDoorL07S10
set_option linter.all false
namespace Go.Fw.L07
open Go Go.Fw
open Go.Fw.Sh renaming intro -> Kg
open Go.Fw renaming G_reg -> Ka,G_regw -> Ka,VO_chk -> Kb,VO_go -> Kc,VO_gx -> Kd,G_cond -> Ke,VO_end -> Kf,G_fin -> Kh,G_ret -> Ki,G_weak -> Kj,G_again -> Kl,G_loop -> Km,Gx -> Kn
open And renaming intro -> Kp
open Go.Proofs.Tryz renaming prog -> QP
open Go.Fw.V.one renaming injEq -> Qs
open Go.Fw.V.agg renaming injEq -> Qt
open Go.Fw.V.tup renaming injEq -> Qu
open Go.Fw.A.d renaming injEq -> Qv
open Go.Fw.D.bool renaming injEq -> Qw
open Go.Fw.D.int renaming injEq -> Qx
open Go.Fw.D.str renaming injEq -> Qy
open Go.Fw.D.sl renaming injEq -> Qz
open List.cons renaming injEq -> Za
set_option maxRecDepth 4000
variable {gp : Heap}
theorem stab {q : Gr} (hg : Good q) {i j : Int} (hi : inL q.l i) (hj : inL q.l j) (h : (clsL q.l)[i.toNat]? = (clsL q.l)[j.toNat]?) : fitP q q (i,j) = true /\ (kd q i).length = (kd q j).length /\
  ∀ (k : Nat) (p r : Int),(kd q i)[k]? = some p -> (kd q j)[k]? = some r -> (inL q.l p /\ inL q.l r) /\ ∃ c,(clsL q.l)[p.toNat]? = some c /\ (clsL q.l)[r.toNat]? = some c := by
 have hs := (cls_iff hg.fine hi hj).1 h
 refine ⟨hs.fit,hs.klen hg.fine hg.fine,fun k p r hp hr => ?_⟩
 have h1 := hg.fine.kid _ _ (List.mem_of_getElem? hp)
 have h2 := hg.fine.kid _ _ (List.mem_of_getElem? hr)
 obtain ⟨c,hc⟩ := cls_ex hg.fine h1
 exact ⟨⟨h1,h2⟩,c,hc,by rw [<- (cls_iff hg.fine h1 h2).2 (hs.kid hp hr)]; exact hc⟩
set_option maxHeartbeats 4000000 in
theorem refine_stable (h : Env10 gp) (g : Gr) : Does QP gp 4 [g.v] (vb true) := by
 refine f4_in ?_
 simp only [go_sem]
 have cs := shown10_ok h
 have cg := small9 (gp := gp) g 60
 have hs := smallG_small10 g 60
 have hst := smallG_short10 g 60
 generalize smallG g 60 = q at *
 have c1 := classes10 h q hs hst
 by_cases hc : chk q = none
 ·have hg : Good q := ⟨hc,hs⟩
  have hgl := hg.len
  have hCl := clsL_len hg.fine
  have hord := cls_ord hg.fine
  have hnx : ∀ i : Nat,nxtC ((clsL q.l).take i) 0 <= i := fun i => by
   have := nxtC_le ((clsL q.l).take i) 0
   rw [List.length_take] at this
   omega
  have hst : ∀ i j : Nat,i < q.l.length -> j < q.l.length -> (clsL q.l)[i]? = (clsL q.l)[j]? -> fitP q q (i,j) = true /\ (kd q i).length = (kd q j).length /\
    ∀ (k : Nat) (p r : Int),(kd q i)[k]? = some p -> (kd q j)[k]? = some r -> (inL q.l p /\ inL q.l r) /\ ∃ c,(clsL q.l)[p.toNat]? = some c /\ (clsL q.l)[r.toNat]? = some c := fun i j hi hj e =>
   stab hg (nat_inL hi) (nat_inL hj) (by rw [Int.toNat_natCast,Int.toNat_natCast]; exact e)
  have hkl := fun i : Int => kd_len hs i
  rw [cOf_good hg,chkE_ok hc] at c1
  have ck : ∀ i : Nat,Does QP gp 21 [q.v,vi (i : Int)] (.tup [.one (.d (.sl (ints (kd q (i : Int))))),vi (atE q.l (i : Int))]) := fun i => kids (gp := gp) q i hs
  have cf := fun (i j : Nat) (hi : i < q.l.length) (hj : j < q.l.length) => fit9 (gp := gp) q q i j hs hs hi hj
  generalize clsL q.l = C at *
  repeat' (first | refine Kn rfl ?_ | ((first | refine Ka ?_ | refine Kb ?_ | refine Kc ?_ | refine Kd ?_ | refine Ke ?_); simp only [hCl,go_sem]) | refine Kf ?_ | refine Kg ?_ | refine ⟨_,cs,Sh.intro ?_⟩ | refine ⟨_,⟨cs,rfl⟩,Sh.intro ?_⟩ | refine ⟨_,cg,Sh.intro ?_⟩ | refine ⟨_,⟨cg,rfl⟩,Sh.intro ?_⟩ | refine ⟨_,c1,Sh.intro ?_⟩ | refine ⟨_,⟨c1,rfl⟩,Sh.intro ?_⟩ | (refine Kp (fun _ => ?_) (fun _ => ?_) <;> try (exfalso; omega)) | ((first | refine Kh ?_ | refine Ki rfl ?_); simp only [hCl,or_self,Qs,Qt,Qu,Qv,Qw,Qx,Qy,Qz,Za,go_sem]))
  refine Kj (fr 156 [(1,.one (.ptr 0 0)),(2,vb false),(3,vb true),(4,.one (.d (.sl (ints C)))),(6,vi ((0 : Nat) : Int)),(7,vi ((0 : Nat) : Int))]) (by (simp only [go_sem]; repeat' (first | refine Kp ?_ ?_ | exact Or.inl rfl | exact Or.inr rfl | rfl))) ?_
  refine Km (fun mz sz => ∃ i n : Nat,i <= q.l.length /\ mz = q.l.length - i /\ n = nxtC (C.take i) 0 /\ sz = ⟨fr 156 [(1,.one (.ptr 0 0)),(2,vb false),(3,vb true),(4,.one (.d (.sl (ints C)))),(6,vi (n : Int)),(7,vi (i : Int))],[.cells q.as]⟩) q.l.length ⟨0,0,Nat.zero_le _,rfl,by simp [nxtC],rfl⟩ ?_
  rintro _ _ ⟨i,n,hi,rfl,hn,rfl⟩
  simp only [go_sem]
  by_cases hil : i < q.l.length
  ·obtain ⟨c,hci⟩ := at_lt (l := C) (i := i) (by omega)
   obtain ⟨o1,o2,o3⟩ := ordC_at hord hci
   rw [<- hn] at o2 o3
   have hni := hnx i
   rw [<- hn] at hni
   have k1 := ck i
   have hka := hkl (i : Int)
   have e1 : decide ((i : Int) < (q.l.length : Int)) = true := decide_eq_true (by omega)
   have e2 : decide (c < 0) = false := decide_eq_false (by omega)
   have e3 : decide (c > (n : Int)) = false := decide_eq_false (by omega)
   obtain ⟨n',hn',hcase⟩ : ∃ n',n' = nxtC (C.take (i + 1)) 0 /\ ((c == (n : Int)) = false /\ n' = n \/ (c == (n : Int)) = true /\ n' = n + 1) := by
    refine ⟨_,rfl,?_⟩
    rw [o3]
    by_cases hcn : c < (n : Int)
    ·rw [if_pos hcn]; exact .inl ⟨by simp; omega,rfl⟩
    ·rw [if_neg hcn]; exact .inr ⟨by simp; omega,rfl⟩
   have hnn : n' <= i + 1 := by
    have := hnx (i + 1)
    rwa [<- hn'] at this
   have hcl : (c == (n : Int)) = false \/ (c == (n : Int)) = true := by rcases hcase with ⟨h1,_⟩ | ⟨h1,_⟩ <;> simp [h1]
   rcases hcase with ⟨e4,hn1⟩ | ⟨e4,hn1⟩
   case' inl =>
    subst hn1
    repeat' (first | refine Kn rfl ?_ | ((first | refine Ka ?_ | refine Kb ?_ | refine Kc ?_ | refine Kd ?_ | refine Ke ?_); simp only [e1,e2,e3,e4,hCl,go_sem]) | refine Kf ?_ | refine Kg ?_ | refine ⟨_,k1,Sh.intro ?_⟩ | refine ⟨_,⟨k1,rfl⟩,Sh.intro ?_⟩ | refine ⟨_,⟨Int.natCast_nonneg _,ints_get hci,rfl⟩,Sh.intro ?_⟩ | (refine Kp (fun _ => ?_) (fun _ => ?_) <;> try (exfalso; omega)) | ((first | refine Kh ?_ | refine Ki rfl ?_); simp only [e1,e2,e3,e4,hCl,or_self,Qs,Qt,Qu,Qv,Qw,Qx,Qy,Qz,Za,go_sem]))
   case' inr =>
    have hnI : (n : Int) + 1 = (n' : Int) := by omega
    repeat' (first | refine Kn rfl ?_ | ((first | refine Ka ?_ | refine Kb ?_ | refine Kc ?_ | refine Kd ?_ | refine Ke ?_); simp only [e1,e2,e3,e4,hCl,hnI,go_sem]) | refine Kf ?_ | refine Kg ?_ | refine ⟨_,k1,Sh.intro ?_⟩ | refine ⟨_,⟨k1,rfl⟩,Sh.intro ?_⟩ | refine ⟨_,⟨Int.natCast_nonneg _,ints_get hci,rfl⟩,Sh.intro ?_⟩ | (refine Kp (fun _ => ?_) (fun _ => ?_) <;> try (exfalso; omega)) | ((first | refine Kh ?_ | refine Ki rfl ?_); simp only [e1,e2,e3,e4,hCl,hnI,or_self,Qs,Qt,Qu,Qv,Qw,Qx,Qy,Qz,Za,go_sem]))
    refine ⟨by rw [<- hnI]; exact inK_nat (i := n) (n := 1000) (by omega) (by unfold lenMax; omega),?_⟩
    repeat' (first | refine Kn rfl ?_ | ((first | refine Ka ?_ | refine Kb ?_ | refine Kc ?_ | refine Kd ?_ | refine Ke ?_); simp only [e1,e2,e3,e4,hCl,hnI,go_sem]) | refine Kf ?_ | refine Kg ?_ | refine ⟨_,k1,Sh.intro ?_⟩ | refine ⟨_,⟨k1,rfl⟩,Sh.intro ?_⟩ | refine ⟨_,⟨Int.natCast_nonneg _,ints_get hci,rfl⟩,Sh.intro ?_⟩ | (refine Kp (fun _ => ?_) (fun _ => ?_) <;> try (exfalso; omega)) | ((first | refine Kh ?_ | refine Ki rfl ?_); simp only [e1,e2,e3,e4,hCl,hnI,or_self,Qs,Qt,Qu,Qv,Qw,Qx,Qy,Qz,Za,go_sem]))
   all_goals
    generalize hAe : kd q i = a at *
   all_goals
    refine Kj (fr 156 [(1,.one (.ptr 0 0)),(2,vb false),(3,vb true),(4,.one (.d (.sl (ints C)))),(6,vi (n' : Int)),(7,vi (i : Int)),(8,.one (.d (.sl (ints (a))))),(10,vi ((0 : Nat) : Int))]) (by (simp only [go_sem]; repeat' (first | refine Kp ?_ ?_ | exact Or.inl rfl | exact Or.inr rfl | rfl))) ?_
    refine Km (fun mz sz => ∃ j : Nat,j <= i /\ mz = i - j /\ sz = ⟨fr 156 [(1,.one (.ptr 0 0)),(2,vb false),(3,vb true),(4,.one (.d (.sl (ints C)))),(6,vi (n' : Int)),(7,vi (i : Int)),(8,.one (.d (.sl (ints (a))))),(10,vi (j : Int))],[.cells q.as]⟩) i ⟨0,Nat.zero_le _,rfl,rfl⟩ ?_
    rintro _ _ ⟨j,hj,rfl,rfl⟩
    simp only [go_sem]
    by_cases hji : j < i
    ·obtain ⟨c',hcj⟩ := at_lt (l := C) (i := j) (by omega)
     have e5 : decide ((j : Int) < (i : Int)) = true := decide_eq_true (by omega)
     have k2 := ck j
     by_cases hcc : c = c'
     ·subst hcc
      obtain ⟨f1,f2,f3⟩ := hst i j hil (by omega) (by rw [hci,hcj])
      rw [hAe] at f2 f3
      have k3 := cf i j hil (by omega)
      rw [f1] at k3
      have f2' : ((kd q j).length : Int) = ((a).length : Int) := by omega
      generalize kd q j = b at *
      repeat' (first | refine Kn rfl ?_ | ((first | refine Ka ?_ | refine Kb ?_ | refine Kc ?_ | refine Kd ?_ | refine Ke ?_); simp only [e5,f2',hCl,go_sem]) | refine Kf ?_ | refine Kg ?_ | refine ⟨_,k2,Sh.intro ?_⟩ | refine ⟨_,⟨k2,rfl⟩,Sh.intro ?_⟩ | refine ⟨_,k3,Sh.intro ?_⟩ | refine ⟨_,⟨k3,rfl⟩,Sh.intro ?_⟩ | refine ⟨_,⟨Int.natCast_nonneg _,ints_get hci,rfl⟩,Sh.intro ?_⟩ | refine ⟨_,⟨Int.natCast_nonneg _,ints_get hcj,rfl⟩,Sh.intro ?_⟩ | (refine Kp (fun _ => ?_) (fun _ => ?_) <;> try (exfalso; omega)) | ((first | refine Kh ?_ | refine Ki rfl ?_); simp only [e5,f2',hCl,or_self,Qs,Qt,Qu,Qv,Qw,Qx,Qy,Qz,Za,go_sem]))
      refine Kj (fr 156 [(1,.one (.ptr 0 0)),(2,vb false),(3,vb true),(4,.one (.d (.sl (ints C)))),(6,vi (n' : Int)),(7,vi (i : Int)),(8,.one (.d (.sl (ints (a))))),(10,vi (j : Int)),(11,.one (.d (.sl (ints b)))),(13,vi ((0 : Nat) : Int))]) (by (simp only [go_sem]; repeat' (first | refine Kp ?_ ?_ | exact Or.inl rfl | exact Or.inr rfl | rfl))) ?_
      refine Km (fun mz sz => ∃ k : Nat,k <= a.length /\ mz = a.length - k /\ sz = ⟨fr 156 [(1,.one (.ptr 0 0)),(2,vb false),(3,vb true),(4,.one (.d (.sl (ints C)))),(6,vi (n' : Int)),(7,vi (i : Int)),(8,.one (.d (.sl (ints (a))))),(10,vi (j : Int)),(11,.one (.d (.sl (ints b)))),(13,vi (k : Int))],[.cells q.as]⟩) a.length ⟨0,Nat.zero_le _,rfl,rfl⟩ ?_
      rintro _ _ ⟨k,hk,rfl,rfl⟩
      simp only [go_sem]
      by_cases hka' : k < a.length
      ·obtain ⟨x,hx⟩ := at_lt hka'
       obtain ⟨y,hy⟩ := at_lt (l := b) (i := k) (by omega)
       obtain ⟨⟨hxi,hyi⟩,cx,hcx,hcy⟩ := f3 k x y hx hy
       unfold inL at hxi hyi
       have e6 : decide ((k : Int) < (a.length : Int)) = true := decide_eq_true (by omega)
       have x1 : decide (x < 0) = false := decide_eq_false (by omega)
       have x2 : decide (x >= (q.l.length : Int)) = false := decide_eq_false (by omega)
       have y1 : decide (y < 0) = false := decide_eq_false (by omega)
       have y2 : decide (y >= (q.l.length : Int)) = false := decide_eq_false (by omega)
       repeat' (first | refine Kn rfl ?_ | ((first | refine Ka ?_ | refine Kb ?_ | refine Kc ?_ | refine Kd ?_ | refine Ke ?_); simp only [e6,x1,x2,y1,y2,hCl,go_sem]) | refine Kf ?_ | refine Kg ?_ | refine ⟨_,⟨Int.natCast_nonneg _,ints_get hx,rfl⟩,Sh.intro ?_⟩ | refine ⟨_,⟨Int.natCast_nonneg _,ints_get hy,rfl⟩,Sh.intro ?_⟩ | refine ⟨_,⟨hxi.1,ints_get hcx,rfl⟩,Sh.intro ?_⟩ | refine ⟨_,⟨hyi.1,ints_get hcy,rfl⟩,Sh.intro ?_⟩ | (refine Kp (fun _ => ?_) (fun _ => ?_) <;> try (exfalso; omega)) | ((first | refine Kh ?_ | refine Ki rfl ?_); simp only [e6,x1,x2,y1,y2,hCl,or_self,Qs,Qt,Qu,Qv,Qw,Qx,Qy,Qz,Za,go_sem]))
       refine ⟨inK_nat hka' (by unfold lenMax; omega),?_⟩
       refine Kj (fr 156 [(1,.one (.ptr 0 0)),(2,vb false),(3,vb true),(4,.one (.d (.sl (ints C)))),(6,vi (n' : Int)),(7,vi (i : Int)),(8,.one (.d (.sl (ints (a))))),(10,vi (j : Int)),(11,.one (.d (.sl (ints b)))),(13,vi (k + 1))]) (by (simp only [go_sem]; repeat' (first | refine Kp ?_ ?_ | exact Or.inl rfl | exact Or.inr rfl | rfl))) ?_
       exact Kl ⟨a.length - (k + 1),by omega,k + 1,by omega,rfl,rfl⟩
      ·obtain rfl : k = a.length := by omega
       have e6 : decide ((a.length : Int) < (a.length : Int)) = false := decide_eq_false (by omega)
       repeat' (first | refine Kn rfl ?_ | ((first | refine Ka ?_ | refine Kb ?_ | refine Kc ?_ | refine Kd ?_ | refine Ke ?_); simp only [e6,go_sem]) | refine Kf ?_ | refine Kg ?_ | (refine Kp (fun _ => ?_) (fun _ => ?_) <;> try (exfalso; omega)) | ((first | refine Kh ?_ | refine Ki rfl ?_); simp only [e6,or_self,Qs,Qt,Qu,Qv,Qw,Qx,Qy,Qz,Za,go_sem]))
       refine ⟨inK_nat hji (by unfold lenMax; omega),?_⟩
       refine Kj (fr 156 [(1,.one (.ptr 0 0)),(2,vb false),(3,vb true),(4,.one (.d (.sl (ints C)))),(6,vi (n' : Int)),(7,vi (i : Int)),(8,.one (.d (.sl (ints (a))))),(10,vi (j + 1))]) (by (simp only [go_sem]; repeat' (first | refine Kp ?_ ?_ | exact Or.inl rfl | exact Or.inr rfl | rfl))) ?_
       exact Kl ⟨i - (j + 1),by omega,j + 1,by omega,rfl,rfl⟩
     ·have hcb : (c == c') = false := by simpa using hcc
      have hcb' : (c != c') = true := by simpa using hcc
      repeat' (first | refine Kn rfl ?_ | ((first | refine Ka ?_ | refine Kb ?_ | refine Kc ?_ | refine Kd ?_ | refine Ke ?_); simp only [e5,hcb,hcb',hCl,go_sem]) | refine Kf ?_ | refine Kg ?_ | refine ⟨_,k2,Sh.intro ?_⟩ | refine ⟨_,⟨k2,rfl⟩,Sh.intro ?_⟩ | refine ⟨_,⟨Int.natCast_nonneg _,ints_get hci,rfl⟩,Sh.intro ?_⟩ | refine ⟨_,⟨Int.natCast_nonneg _,ints_get hcj,rfl⟩,Sh.intro ?_⟩ | (refine Kp (fun _ => ?_) (fun _ => ?_) <;> try (exfalso; omega)) | ((first | refine Kh ?_ | refine Ki rfl ?_); simp only [e5,hcb,hcb',hCl,or_self,Qs,Qt,Qu,Qv,Qw,Qx,Qy,Qz,Za,go_sem]))
      refine ⟨inK_nat hji (by unfold lenMax; omega),?_⟩
      refine Kj (fr 156 [(1,.one (.ptr 0 0)),(2,vb false),(3,vb true),(4,.one (.d (.sl (ints C)))),(6,vi (n' : Int)),(7,vi (i : Int)),(8,.one (.d (.sl (ints (a))))),(10,vi (j + 1))]) (by (simp only [go_sem]; repeat' (first | refine Kp ?_ ?_ | exact Or.inl rfl | exact Or.inr rfl | rfl))) ?_
      exact Kl ⟨i - (j + 1),by omega,j + 1,by omega,rfl,rfl⟩
    ·obtain rfl : j = i := by omega
     have e5 : decide ((j : Int) < (j : Int)) = false := decide_eq_false (by omega)
     repeat' (first | refine Kn rfl ?_ | ((first | refine Ka ?_ | refine Kb ?_ | refine Kc ?_ | refine Kd ?_ | refine Ke ?_); simp only [e5,go_sem]) | refine Kf ?_ | refine Kg ?_ | (refine Kp (fun _ => ?_) (fun _ => ?_) <;> try (exfalso; omega)) | ((first | refine Kh ?_ | refine Ki rfl ?_); simp only [e5,or_self,Qs,Qt,Qu,Qv,Qw,Qx,Qy,Qz,Za,go_sem]))
     refine ⟨inK_nat hil (by unfold lenMax; omega),?_⟩
     refine Kj (fr 156 [(1,.one (.ptr 0 0)),(2,vb false),(3,vb true),(4,.one (.d (.sl (ints C)))),(6,vi (n' : Int)),(7,vi (j + 1))]) (by (simp only [go_sem]; repeat' (first | refine Kp ?_ ?_ | exact Or.inl rfl | exact Or.inr rfl | rfl))) ?_
     exact Kl ⟨q.l.length - (j + 1),by omega,j + 1,_,by omega,rfl,hn',rfl⟩
  ·obtain rfl : i = q.l.length := by omega
   have e1 : decide ((q.l.length : Int) < (q.l.length : Int)) = false := decide_eq_false (by omega)
   repeat' (first | refine Kn rfl ?_ | ((first | refine Ka ?_ | refine Kb ?_ | refine Kc ?_ | refine Kd ?_ | refine Ke ?_); simp only [e1,hCl,go_sem]) | refine Kf ?_ | refine Kg ?_ | (refine Kp (fun _ => ?_) (fun _ => ?_) <;> try (exfalso; omega)) | ((first | refine Kh ?_ | refine Ki rfl ?_); simp only [e1,hCl,or_self,Qs,Qt,Qu,Qv,Qw,Qx,Qy,Qz,Za,go_sem]))
   all_goals trace_state
 ·have he := chkE_bad hc
  have e0 : cOf q = [] := by unfold cOf; rw [if_neg hc]
  rw [e0] at c1
  generalize chkE q = e at *
  have hne : (e != 0) = true := by simpa using he
  repeat' (first | refine Kn rfl ?_ | ((first | refine Ka ?_ | refine Kb ?_ | refine Kc ?_ | refine Kd ?_ | refine Ke ?_); simp only [hne,go_sem]) | refine Kf ?_ | refine Kg ?_ | refine ⟨_,cs,Sh.intro ?_⟩ | refine ⟨_,⟨cs,rfl⟩,Sh.intro ?_⟩ | refine ⟨_,cg,Sh.intro ?_⟩ | refine ⟨_,⟨cg,rfl⟩,Sh.intro ?_⟩ | refine ⟨_,c1,Sh.intro ?_⟩ | refine ⟨_,⟨c1,rfl⟩,Sh.intro ?_⟩ | (refine Kp (fun _ => ?_) (fun _ => ?_) <;> try (exfalso; omega)) | ((first | refine Kh ?_ | refine Ki rfl ?_); simp only [hne,or_self,Qs,Qt,Qu,Qv,Qw,Qx,Qy,Qz,Za,go_sem]))
  all_goals first | (exfalso; simp_all; done) | simp_all | trace_state
end Go.Fw.L07
