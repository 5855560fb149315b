/- Chapter 10: the law RefineAlike. -/
import Derived.Test.YtejnfjophhnaeaaGreatDoorL07S10
import Derived.Test.YtejnfjophhnaeaaGreatDoorIb
import Derived.Test.YtejnfjophhnaeaaGreatDoorEa
set_option linter.all false
namespace Go.Fw.L07
open Go Go.Fw
open Go.Fw.Sh renaming intro -> Kg
open Go.Fw renaming Xii -> Ka,Xej -> Ka,Xek -> Ka,Xeh -> Kb,Xio -> Kc,Xip -> Kd,Xei -> Ke,Xel -> Kf,Xik -> Kh,Xij -> Ki,Gx -> Kn
open Go.Proofs.Tryz renaming prog -> QP
open Go.Fw.V.one renaming injEq -> Qs
open Go.Fw.V.agg renaming injEq -> Qt
open Go.Fw.V.tup renaming injEq -> Qu
open Go.Fw.A.d renaming injEq -> Qv
open Go.Fw.D.bool renaming injEq -> Qw
open Go.Fw.D.int renaming injEq -> Qx
open Go.Fw.D.str renaming injEq -> Qy
open Go.Fw.D.sl renaming injEq -> Qz
open List.cons renaming injEq -> Za
set_option maxRecDepth 4000
variable {gp : Heap} {ua : Addr}
theorem Xe1 {g h : Gr} (hs : Xbt g) (hs' : Xbt h) : bisB g h = true ↔ Good g /\ Good h /\ Sim g.l h.l g.root h.root := by
 unfold bisB
 constructor
 ·intro e
  split at e
  ·rename_i hc
   exact ⟨⟨hc.1,hs⟩,⟨hc.2,hs'⟩,(Xpx ⟨hc.1,hs⟩ ⟨hc.2,hs'⟩).1 e⟩
  ·cases e
 ·rintro ⟨h1,h2,h3⟩
  rw [if_pos ⟨h1.c,h2.c⟩]; exact (Xpx h1 h2).2 h3
theorem Yit {g h : Gr} (hs : Xbt g) (hs' : Xbt h) : bisB g h = bisB h g := by
 rw [Bool.eq_iff_iff,Xe1 hs hs',Xe1 hs' hs]
 constructor <;> rintro ⟨h1,h2,h3⟩ <;> exact ⟨h2,h1,h3.symm⟩
theorem Xx4 {g h k : Gr} (hs : Xbt g) (hs' : Xbt h) (hs'' : Xbt k) (h1 : bisB g h = true) (h2 : bisB h k = true) : bisB g k = true := by
 obtain ⟨a1,a2,a3⟩ := (Xe1 hs hs').1 h1
 obtain ⟨b1,b2,b3⟩ := (Xe1 hs' hs'').1 h2
 exact (Xe1 hs hs'').2 ⟨a1,b2,a3.trans a1.fine a2.fine b3⟩
theorem Y49 {g h : Gr} (hs : Xbt g) (hs' : Xbt h) (e : alG g h = true) : bisB g h = true := by
 unfold alG at e
 split at e
 ·rename_i hc
  have g1 : Good g := ⟨hc.1,hs⟩
  have g2 : Good h := ⟨hc.2,hs'⟩
  have hi := Wcj g1 g2 e
  exact (Xe1 hs hs').2 ⟨g1,g2,Iso.sim g1 g2 hi hi.root g1.in g2.in⟩
 ·cases e
theorem Yiu {g : Gr} (hg : Good g) : bisB g (Xdn g) = true :=
 (Xe1 hg.s hg.tidy.s).2 ⟨hg,hg.tidy,Iso.sim hg hg.tidy (Xv7 hg) (Xv7 hg).root hg.in hg.tidy.in⟩
theorem Xx5 {g : Gr} (hg : Good g) (hst : ∀ x ∈ g.l,x.short) : ∀ x ∈ (Xdn g).l,x.short := by
 intro x hx
 have hsm := hg.tidy.s x hx
 simp only [Xdn,List.mem_map] at hx
 obtain ⟨i,hi,rfl⟩ := hx
 have h2 := hst _ (Xk6 (hg.wIn i hi))
 exact ⟨hsm.1,hsm.2,h2.2.2.1,fun z hz => h2.2.2.2 z (Xwm z hz)⟩
set_option maxHeartbeats 16000000 in
theorem Xqc (h9 : Env9 gp ua) (hP : Xlh gp) (g h k : Gr) : Does QP gp 11 [g.v,h.v,k.v] (vb true) := by
 refine Wcz ?_
 simp only [go_sem]
 have hE : Env10 gp := ⟨h9.e,hP⟩
 have cs := Xx3 hE
 have cg := X8x (gp := gp) g 30
 have ch := X8x (gp := gp) h 30
 have ck := X8x (gp := gp) k 30
 have hs := Xec g 30
 have hs' := Xec h 30
 have hs'' := Xec k 30
 have st := Xed g 30
 have st' := Xed h 30
 have st'' := Xed k 30
 generalize Xe5 g 30 = q at *
 generalize Xe5 h 30 = r at *
 generalize Xe5 k 30 = s at *
 have ct := Yz4 h9.e q hs
 by_cases hc : chk q = none
 ·have gq : Good q := ⟨hc,hs⟩
  rw [Xbp hc,Yhc gq] at ct
  have c2 := Xgz hE q (Xdn q) hs gq.tidy.s st (Xx5 gq st)
  have c3 := Xgz hE q r hs hs' st st'
  have c4 := Xgz hE r q hs' hs st' st
  have c5 := Xgz hE r s hs' hs'' st' st''
  have c6 := Xgz hE q s hs hs'' st st''
  have c7 := Yio h9 q r hs hs'
  rw [Yiu gq,show bisE q (Xdn q) = 0 from by unfold bisE; rw [if_pos (Xbp hc),Xbp gq.tidy.c]] at c2
  rw [Yit hs' hs] at c4
  have tr := Xx4 hs hs' hs''
  have al := Y49 hs hs'
  generalize alG q r = w at *
  generalize bisB q r = x at *
  generalize bisB r s = y at *
  generalize bisB q s = z at *
  generalize bisE q r = e1 at *
  generalize bisE r q = e2 at *
  generalize bisE r s = e3 at *
  generalize bisE q s = e4 at *
  generalize Xdz [q,r] = e5 at *
  generalize Xdn q = t at *
  cases x <;> cases y <;> cases z <;> cases w
  all_goals first | (exfalso; simp_all; done) | skip
  all_goals
   repeat' (first | refine Kn rfl ?_ | ((first | refine Ka ?_ | refine Kb ?_ | refine Kc ?_ | refine Kd ?_ | refine Ke ?_); simp only [go_sem]) | refine Kf ?_ | refine Kg ?_ | refine ⟨_,cs,Sh.intro ?_⟩ | refine ⟨_,⟨cs,rfl⟩,Sh.intro ?_⟩ | refine ⟨_,cg,Sh.intro ?_⟩ | refine ⟨_,⟨cg,rfl⟩,Sh.intro ?_⟩ | refine ⟨_,ch,Sh.intro ?_⟩ | refine ⟨_,⟨ch,rfl⟩,Sh.intro ?_⟩ | refine ⟨_,ck,Sh.intro ?_⟩ | refine ⟨_,⟨ck,rfl⟩,Sh.intro ?_⟩ | refine ⟨_,ct,Sh.intro ?_⟩ | refine ⟨_,⟨ct,rfl⟩,Sh.intro ?_⟩ | refine ⟨_,c2,Sh.intro ?_⟩ | refine ⟨_,⟨c2,rfl⟩,Sh.intro ?_⟩ | refine ⟨_,c3,Sh.intro ?_⟩ | refine ⟨_,⟨c3,rfl⟩,Sh.intro ?_⟩ | refine ⟨_,c4,Sh.intro ?_⟩ | refine ⟨_,⟨c4,rfl⟩,Sh.intro ?_⟩ | refine ⟨_,c5,Sh.intro ?_⟩ | refine ⟨_,⟨c5,rfl⟩,Sh.intro ?_⟩ | refine ⟨_,c6,Sh.intro ?_⟩ | refine ⟨_,⟨c6,rfl⟩,Sh.intro ?_⟩ | refine ⟨_,c7,Sh.intro ?_⟩ | refine ⟨_,⟨c7,rfl⟩,Sh.intro ?_⟩ | (refine And.intro (fun _ => ?_) (fun _ => ?_) <;> try (exfalso; omega)) | ((first | refine Kh ?_ | refine Ki rfl ?_); simp only [or_self,Qs,Qt,Qu,Qv,Qw,Qx,Qy,Qz,Za,go_sem]))
   all_goals first | (exfalso; omega) | rfl | (exfalso; simp_all; done) | trace_state
 ·have he := Xf6 hc
  generalize chkE q = e at *
  have hne : (e != 0) = true := by simpa using he
  repeat' (first | refine Kn rfl ?_ | ((first | refine Ka ?_ | refine Kb ?_ | refine Kc ?_ | refine Kd ?_ | refine Ke ?_); simp only [hne,go_sem]) | refine Kf ?_ | refine Kg ?_ | refine ⟨_,cs,Sh.intro ?_⟩ | refine ⟨_,⟨cs,rfl⟩,Sh.intro ?_⟩ | refine ⟨_,cg,Sh.intro ?_⟩ | refine ⟨_,⟨cg,rfl⟩,Sh.intro ?_⟩ | refine ⟨_,ch,Sh.intro ?_⟩ | refine ⟨_,⟨ch,rfl⟩,Sh.intro ?_⟩ | refine ⟨_,ck,Sh.intro ?_⟩ | refine ⟨_,⟨ck,rfl⟩,Sh.intro ?_⟩ | refine ⟨_,ct,Sh.intro ?_⟩ | refine ⟨_,⟨ct,rfl⟩,Sh.intro ?_⟩ | (refine And.intro (fun _ => ?_) (fun _ => ?_) <;> try (exfalso; omega)) | ((first | refine Kh ?_ | refine Ki rfl ?_); simp only [hne,or_self,Qs,Qt,Qu,Qv,Qw,Qx,Qy,Qz,Za,go_sem]))
  all_goals first | (exfalso; omega) | rfl | trace_state
end Go.Fw.L07
