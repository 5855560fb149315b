/- Chapter 10: the law RefineSubs. -/
import Derived.Test.YtejnfjophhnaeaaGreatDoorL07S10
import Derived.Test.YtejnfjophhnaeaaGreatDoorEa
set_option linter.all false
namespace Go.Fw.L07
open Go Go.Fw
open Go.Fw.Sh renaming intro -> Kg
open Go.Fw renaming G_reg -> Ka,G_regw -> Ka,VO_chk -> Kb,VO_go -> Kc,VO_gx -> Kd,G_cond -> Ke,VO_end -> Kf,G_fin -> Kh,G_ret -> Ki,Gx -> Kn
open And renaming intro -> Kp
open Go.Proofs.Tryz renaming prog -> QP
open Go.Fw.V.one renaming injEq -> Qs
open Go.Fw.V.agg renaming injEq -> Qt
open Go.Fw.V.tup renaming injEq -> Qu
open Go.Fw.A.d renaming injEq -> Qv
open Go.Fw.D.bool renaming injEq -> Qw
open Go.Fw.D.int renaming injEq -> Qx
open Go.Fw.D.str renaming injEq -> Qy
open Go.Fw.D.sl renaming injEq -> Qz
open List.cons renaming injEq -> Za
set_option maxRecDepth 4000
variable {gp : Heap}
theorem ints_cut (l : List Int) (n : Nat) : List.take n (ints l) = ints (l.take n) := by simp [ints,List.map_take]
set_option maxHeartbeats 1000000 in
theorem refine_subs (h : Env10 gp) (g k : Gr) (l : List Int) : Does QP gp 8 [g.v,k.v,.one (.d (.sl (ints l)))] (vb true) := by
 refine f8_in ?_
 simp only [go_sem]
 have cs := shown10_ok h
 have cg := small9 (gp := gp) g 30
 have ch := small9 (gp := gp) k 30
 have hs := smallG_small10 g 30
 have hs' := smallG_small10 k 30
 have hst := smallG_short10 g 30
 have hst' := smallG_short10 k 30
 generalize smallG g 30 = q at *
 generalize smallG k 30 = r at *
 have hpl : (l.take (min l.length 30)).length <= 30 := by simp; omega
 have hcut := ints_cut l (min l.length 30)
 have hm : (if (30 : Int) < (l.length : Int) then 30 else (l.length : Int)) = ((min l.length 30 : Nat) : Int) := by split <;> omega
 generalize l.take (min l.length 30) = ps at *
 have c1 := bisim10 h q r hs hs' hst hst'
 have c2 := at_gr h.e q hs ps (by omega)
 have c3 := at_gr h.e r hs' ps (by omega)
 by_cases hb : bisB q r = true
 ·obtain ⟨hc,hsim⟩ : (chk q = none /\ chk r = none) /\ simB q r = true := by
   unfold bisB at hb
   split at hb
   ·exact ⟨‹_›,hb⟩
   ·cases hb
  have gq : Good q := ⟨hc.1,hs⟩
  have gr : Good r := ⟨hc.2,hs'⟩
  have hS := (simB_good gq gr).1 hsim
  rw [hb,show bisE q r = 0 from by unfold bisE; rw [if_pos (chkE_ok hc.1),chkE_ok hc.2]] at c1
  rw [aOf_good gq] at c2
  rw [aOf_good gr] at c3
  rcases hS.path gq.fine gr.fine (ps := ps) with ⟨p1,p2⟩ | ⟨a,b,p1,p2,p3⟩
  ·rw [show atG q ps = none from p1] at c2
   rw [show atG r ps = none from p2] at c3
   simp only [Option.getD_none,Option.isSome_none] at c2 c3
   repeat' (first | refine Kn rfl ?_ | ((first | refine Ka ?_ | refine Kb ?_ | refine Kc ?_ | refine Kd ?_ | refine Ke ?_); simp only [hcut,go_sem]) | refine Kf ?_ | refine Kg ?_ | refine ⟨_,cs,Sh.intro ?_⟩ | refine ⟨_,⟨cs,rfl⟩,Sh.intro ?_⟩ | refine ⟨_,cg,Sh.intro ?_⟩ | refine ⟨_,⟨cg,rfl⟩,Sh.intro ?_⟩ | refine ⟨_,ch,Sh.intro ?_⟩ | refine ⟨_,⟨ch,rfl⟩,Sh.intro ?_⟩ | refine ⟨_,c1,Sh.intro ?_⟩ | refine ⟨_,⟨c1,rfl⟩,Sh.intro ?_⟩ | refine ⟨_,c2,Sh.intro ?_⟩ | refine ⟨_,⟨c2,rfl⟩,Sh.intro ?_⟩ | refine ⟨_,c3,Sh.intro ?_⟩ | refine ⟨_,⟨c3,rfl⟩,Sh.intro ?_⟩ | refine ⟨0,min l.length 30,⟨rfl,hm,Nat.zero_le _,Nat.min_le_left _ _,ints_one l⟩,Sh.intro ?_⟩ | (refine Kp (fun _ => ?_) (fun _ => ?_) <;> try (exfalso; omega)) | ((first | refine Kh ?_ | refine Ki rfl ?_); simp only [hcut,or_self,Qs,Qt,Qu,Qv,Qw,Qx,Qy,Qz,Za,go_sem]))
   all_goals first | (exfalso; omega) | rfl | (exfalso; simp_all; done) | trace_state
  ·have hin := p3.inn
   have g1 : Good ⟨a,q.l⟩ := gq.reroot hin.1
   have g2 : Good ⟨b,r.l⟩ := gr.reroot hin.2
   have c6 := bisim10 h ⟨a,q.l⟩ ⟨b,r.l⟩ hs hs' hst hst'
   rw [show bisB ⟨a,q.l⟩ ⟨b,r.l⟩ = true from by unfold bisB; rw [if_pos ⟨g1.c,g2.c⟩]; exact (simB_good g1 g2).2 p3,show bisE ⟨a,q.l⟩ ⟨b,r.l⟩ = 0 from by unfold bisE; rw [if_pos (chkE_ok g1.c),chkE_ok g2.c]] at c6
   rw [show atG q ps = some a from p1] at c2
   rw [show atG r ps = some b from p2] at c3
   simp only [Option.getD_some,Option.isSome_some] at c2 c3
   repeat' (first | refine Kn rfl ?_ | ((first | refine Ka ?_ | refine Kb ?_ | refine Kc ?_ | refine Kd ?_ | refine Ke ?_); simp only [hcut,go_sem]) | refine Kf ?_ | refine Kg ?_ | refine ⟨_,cs,Sh.intro ?_⟩ | refine ⟨_,⟨cs,rfl⟩,Sh.intro ?_⟩ | refine ⟨_,cg,Sh.intro ?_⟩ | refine ⟨_,⟨cg,rfl⟩,Sh.intro ?_⟩ | refine ⟨_,ch,Sh.intro ?_⟩ | refine ⟨_,⟨ch,rfl⟩,Sh.intro ?_⟩ | refine ⟨_,c1,Sh.intro ?_⟩ | refine ⟨_,⟨c1,rfl⟩,Sh.intro ?_⟩ | refine ⟨_,c2,Sh.intro ?_⟩ | refine ⟨_,⟨c2,rfl⟩,Sh.intro ?_⟩ | refine ⟨_,c3,Sh.intro ?_⟩ | refine ⟨_,⟨c3,rfl⟩,Sh.intro ?_⟩ | refine ⟨_,c6,Sh.intro ?_⟩ | refine ⟨_,⟨c6,rfl⟩,Sh.intro ?_⟩ | refine ⟨0,min l.length 30,⟨rfl,hm,Nat.zero_le _,Nat.min_le_left _ _,ints_one l⟩,Sh.intro ?_⟩ | (refine Kp (fun _ => ?_) (fun _ => ?_) <;> try (exfalso; omega)) | ((first | refine Kh ?_ | refine Ki rfl ?_); simp only [hcut,or_self,Qs,Qt,Qu,Qv,Qw,Qx,Qy,Qz,Za,go_sem]))
   all_goals first | (exfalso; omega) | rfl | (exfalso; simp_all; done) | trace_state
 ·have hb : bisB q r = false := by simpa using hb
  rw [hb] at c1
  generalize bisE q r = e at *
  generalize aOf q ps = o1 at *
  generalize aOf r ps = o2 at *
  cases he : (e != 0)
  ·obtain rfl : e = 0 := by simpa using he
   repeat' (first | refine Kn rfl ?_ | ((first | refine Ka ?_ | refine Kb ?_ | refine Kc ?_ | refine Kd ?_ | refine Ke ?_); simp only [hcut,go_sem]) | refine Kf ?_ | refine Kg ?_ | refine ⟨_,cs,Sh.intro ?_⟩ | refine ⟨_,⟨cs,rfl⟩,Sh.intro ?_⟩ | refine ⟨_,cg,Sh.intro ?_⟩ | refine ⟨_,⟨cg,rfl⟩,Sh.intro ?_⟩ | refine ⟨_,ch,Sh.intro ?_⟩ | refine ⟨_,⟨ch,rfl⟩,Sh.intro ?_⟩ | refine ⟨_,c1,Sh.intro ?_⟩ | refine ⟨_,⟨c1,rfl⟩,Sh.intro ?_⟩ | refine ⟨_,c2,Sh.intro ?_⟩ | refine ⟨_,⟨c2,rfl⟩,Sh.intro ?_⟩ | refine ⟨_,c3,Sh.intro ?_⟩ | refine ⟨_,⟨c3,rfl⟩,Sh.intro ?_⟩ | refine ⟨0,min l.length 30,⟨rfl,hm,Nat.zero_le _,Nat.min_le_left _ _,ints_one l⟩,Sh.intro ?_⟩ | (refine Kp (fun _ => ?_) (fun _ => ?_) <;> try (exfalso; omega)) | ((first | refine Kh ?_ | refine Ki rfl ?_); simp only [hcut,or_self,Qs,Qt,Qu,Qv,Qw,Qx,Qy,Qz,Za,go_sem]))
   all_goals first | (exfalso; omega) | rfl | (exfalso; simp_all; done) | trace_state
  ·repeat' (first | refine Kn rfl ?_ | ((first | refine Ka ?_ | refine Kb ?_ | refine Kc ?_ | refine Kd ?_ | refine Ke ?_); simp only [hcut,he,go_sem]) | refine Kf ?_ | refine Kg ?_ | refine ⟨_,cs,Sh.intro ?_⟩ | refine ⟨_,⟨cs,rfl⟩,Sh.intro ?_⟩ | refine ⟨_,cg,Sh.intro ?_⟩ | refine ⟨_,⟨cg,rfl⟩,Sh.intro ?_⟩ | refine ⟨_,ch,Sh.intro ?_⟩ | refine ⟨_,⟨ch,rfl⟩,Sh.intro ?_⟩ | refine ⟨_,c1,Sh.intro ?_⟩ | refine ⟨_,⟨c1,rfl⟩,Sh.intro ?_⟩ | refine ⟨_,c2,Sh.intro ?_⟩ | refine ⟨_,⟨c2,rfl⟩,Sh.intro ?_⟩ | refine ⟨_,c3,Sh.intro ?_⟩ | refine ⟨_,⟨c3,rfl⟩,Sh.intro ?_⟩ | refine ⟨0,min l.length 30,⟨rfl,hm,Nat.zero_le _,Nat.min_le_left _ _,ints_one l⟩,Sh.intro ?_⟩ | (refine Kp (fun _ => ?_) (fun _ => ?_) <;> try (exfalso; omega)) | ((first | refine Kh ?_ | refine Ki rfl ?_); simp only [hcut,he,or_self,Qs,Qt,Qu,Qv,Qw,Qx,Qy,Qz,Za,go_sem]))
   all_goals first | (exfalso; omega) | rfl | (exfalso; simp_all; done) | simp_all | trace_state
end Go.Fw.L07
