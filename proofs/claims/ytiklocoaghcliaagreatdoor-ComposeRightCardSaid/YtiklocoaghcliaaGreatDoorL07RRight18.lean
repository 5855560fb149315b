/- ComposeRight. -/
import Derived.Test.YtiklocoaghcliaaGreatDoorMe
set_option linter.all false
namespace Go.Fw.L07
open Go Go.Fw
open Go.Fw.Sh renaming intro -> Kg
open Go.Fw renaming G_reg -> Ka,G_regp -> Ka,VO_chk -> Kb,VO_go -> Kc,VO_gx -> Kd,G_cond -> Ke,VO_end -> Kf,G_fin -> Kh,G_ret -> Ki,Gx -> Kn
open Go.Proofs.Tryz renaming prog -> QP
open Go.Fw.V.one renaming injEq -> Qs
open Go.Fw.V.agg renaming injEq -> Qt
open Go.Fw.V.tup renaming injEq -> Qu
open Go.Fw.A.d renaming injEq -> Qv
open Go.Fw.D.bool renaming injEq -> Qw
open Go.Fw.D.int renaming injEq -> Qx
open Go.Fw.D.str renaming injEq -> Qy
open Go.Fw.D.sl renaming injEq -> Qz
open List.cons renaming injEq -> Za
set_option maxRecDepth 4000
variable {gp : Heap} {ua : Addr}
set_option maxHeartbeats 1000000 in
theorem right18_ok (h : Env18 gp ua) (t : Tr) : Does QP gp 7 [t.v] (vb true) := by
 have c1 := shown18_ok h
 have c2 := cut16 (gp := gp) t
 have hs := cut_sm 7 t
 have ho : ownT (cutTr 7 t) <= 1000000000 := Nat.le_trans (cut_own 7 t) (by decide)
 generalize cutTr 7 t = T at *
 have c3 := graph18 h T hs
 refine f7_in ?_
 simp only [go_sem]
 by_cases he : (layT rightS T 1 0 []).e = 0
 ·obtain ⟨hg,hw,hl⟩ := graph_ok hs he
  have hgt : graphT rightS T = (⟨0,(layT rightS T 1 0 []).new⟩,0) := by unfold graphT; rw [if_pos he]
  rw [hgt] at c3
  have c4 := chk_gr h.e ⟨0,(layT rightS T 1 0 []).new⟩
  rw [hg.c] at c4
  have c5 := walk_gr h.e ⟨0,(layT rightS T 1 0 []).new⟩ hg.s
  rw [chkE_ok hg.c,wOf_good hg] at c5
  have c6 := own18 (gp := gp) T hs ho
  rw [<- hl] at c6
  generalize (layT rightS T 1 0 []).new = L at *
  generalize walkL ⟨0,L⟩ = W at *
  have e1 : ((W.length : Int) == (L.length : Int)) = true := by simp; omega
  repeat' (first | refine Kn rfl ?_ | ((first | refine Ka ?_ | refine G_regp rfl rfl ?_ | refine Kb ?_ | refine Kc ?_ | refine Kd ?_ | refine Ke ?_); simp only [e1,go_sem]) | refine Kf ?_ | refine Kg ?_ | refine ⟨_,c1,Kg ?_⟩ | refine ⟨_,⟨c1,rfl⟩,Kg ?_⟩ | refine ⟨_,c2,Kg ?_⟩ | refine ⟨_,⟨c2,rfl⟩,Kg ?_⟩ | refine ⟨_,c3,Kg ?_⟩ | refine ⟨_,⟨c3,rfl⟩,Kg ?_⟩ | refine ⟨_,c4,Kg ?_⟩ | refine ⟨_,⟨c4,rfl⟩,Kg ?_⟩ | refine ⟨_,c5,Kg ?_⟩ | refine ⟨_,⟨c5,rfl⟩,Kg ?_⟩ | refine ⟨_,c6,Kg ?_⟩ | refine ⟨_,⟨c6,rfl⟩,Kg ?_⟩ | (refine And.intro (fun _ => ?_) (fun _ => ?_) <;> try (exfalso; omega)) | ((first | refine Kh ?_ | refine Ki rfl ?_); simp only [e1,or_self,Qs,Qt,Qu,Qv,Qw,Qx,Qy,Qz,Za,go_sem]))
 ·have hgt : graphT rightS T = (⟨0,[]⟩,(layT rightS T 1 0 []).e) := by unfold graphT; rw [if_neg he]
  rw [hgt] at c3
  have e1 : ((layT rightS T 1 0 []).e != 0) = true := by simp [he]
  repeat' (first | refine Kn rfl ?_ | ((first | refine Ka ?_ | refine G_regp rfl rfl ?_ | refine Kb ?_ | refine Kc ?_ | refine Kd ?_ | refine Ke ?_); simp only [e1,go_sem]) | refine Kf ?_ | refine Kg ?_ | refine ⟨_,c1,Kg ?_⟩ | refine ⟨_,⟨c1,rfl⟩,Kg ?_⟩ | refine ⟨_,c2,Kg ?_⟩ | refine ⟨_,⟨c2,rfl⟩,Kg ?_⟩ | refine ⟨_,c3,Kg ?_⟩ | refine ⟨_,⟨c3,rfl⟩,Kg ?_⟩ | (refine And.intro (fun _ => ?_) (fun _ => ?_) <;> try (exfalso; omega)) | ((first | refine Kh ?_ | refine Ki rfl ?_); simp only [e1,or_self,Qs,Qt,Qu,Qv,Qw,Qx,Qy,Qz,Za,go_sem]))
end Go.Fw.L07
