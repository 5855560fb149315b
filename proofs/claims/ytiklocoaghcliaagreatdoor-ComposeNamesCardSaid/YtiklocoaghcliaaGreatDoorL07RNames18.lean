/- ComposeNames. -/
import Derived.Test.YtiklocoaghcliaaGreatDoorMe
set_option linter.all false
namespace Go.Fw.L07
open Go Go.Fw
open Go.Fw.Sh renaming intro -> Kg
open Go.Fw renaming G_reg -> Ka,G_regp -> Ka,VO_chk -> Kb,VO_go -> Kc,VO_gx -> Kd,G_cond -> Ke,VO_end -> Kf,G_fin -> Kh,G_ret -> Ki,Gx -> Kn
open Go.Proofs.Tryz renaming prog -> QP
open Go.Fw.V.one renaming injEq -> Qs
open Go.Fw.V.agg renaming injEq -> Qt
open Go.Fw.V.tup renaming injEq -> Qu
open Go.Fw.A.d renaming injEq -> Qv
open Go.Fw.D.bool renaming injEq -> Qw
open Go.Fw.D.int renaming injEq -> Qx
open Go.Fw.D.str renaming injEq -> Qy
open Go.Fw.D.sl renaming injEq -> Qz
open List.cons renaming injEq -> Za
set_option maxRecDepth 4000
variable {gp : Heap} {ua : Addr}
set_option maxHeartbeats 1000000 in
theorem names18_ok (h : Env18 gp ua) (t : Tr) : Does QP gp 4 [t.v] (vb true) := by
 have c1 := shown18_ok h
 have c2 := cut16 (gp := gp) t
 have hs := cut_sm 7 t
 have hn := cut_names 7 t
 generalize cutTr 7 t = T at *
 have c3 := graph18 h T hs
 have c4 := ahead18 (gp := gp) T hs (fun c hc => Nat.le_trans (hn c hc) (by omega))
 have c5 := graph18 h (ahT T) (ah_sm T hs)
 have hg := graph_ah T
 refine f4_in ?_
 simp only [go_sem]
 have c6 := same_gr (gp := gp) (graphT rightS T).1 (graphT rightS T).1
 simp only [decide_true] at c6
 rcases hg with hg | hg
 ·rw [hg] at c5
  generalize graphT rightS T = G at *
  generalize (graphT rightS (ahT T)).1 = H at *
  repeat' (first | refine Kn rfl ?_ | ((first | refine Ka ?_ | refine G_regp rfl rfl ?_ | refine Kb ?_ | refine Kc ?_ | refine Kd ?_ | refine Ke ?_); simp only [go_sem]) | refine Kf ?_ | refine Kg ?_ | refine ⟨_,c1,Kg ?_⟩ | refine ⟨_,⟨c1,rfl⟩,Kg ?_⟩ | refine ⟨_,c2,Kg ?_⟩ | refine ⟨_,⟨c2,rfl⟩,Kg ?_⟩ | refine ⟨_,c3,Kg ?_⟩ | refine ⟨_,⟨c3,rfl⟩,Kg ?_⟩ | refine ⟨_,c4,Kg ?_⟩ | refine ⟨_,⟨c4,rfl⟩,Kg ?_⟩ | refine ⟨_,c5,Kg ?_⟩ | refine ⟨_,⟨c5,rfl⟩,Kg ?_⟩ | (refine And.intro (fun _ => ?_) (fun _ => ?_) <;> try (exfalso; omega)) | ((first | refine Kh ?_ | refine Ki rfl ?_); simp only [or_self,Qs,Qt,Qu,Qv,Qw,Qx,Qy,Qz,Za,go_sem]))
  all_goals trace_state
 ·rw [hg] at c5
  generalize graphT rightS T = G at *
  cases h0 : (G.2 == 0) with
  | true =>
   have e1 : G.2 = 0 := by simpa using h0
   rw [e1] at c3 c5
   repeat' (first | refine Kn rfl ?_ | ((first | refine Ka ?_ | refine G_regp rfl rfl ?_ | refine Kb ?_ | refine Kc ?_ | refine Kd ?_ | refine Ke ?_); simp only [go_sem]) | refine Kf ?_ | refine Kg ?_ | refine ⟨_,c1,Kg ?_⟩ | refine ⟨_,⟨c1,rfl⟩,Kg ?_⟩ | refine ⟨_,c2,Kg ?_⟩ | refine ⟨_,⟨c2,rfl⟩,Kg ?_⟩ | refine ⟨_,c3,Kg ?_⟩ | refine ⟨_,⟨c3,rfl⟩,Kg ?_⟩ | refine ⟨_,c4,Kg ?_⟩ | refine ⟨_,⟨c4,rfl⟩,Kg ?_⟩ | refine ⟨_,c5,Kg ?_⟩ | refine ⟨_,⟨c5,rfl⟩,Kg ?_⟩ | refine ⟨_,c6,Kg ?_⟩ | refine ⟨_,⟨c6,rfl⟩,Kg ?_⟩ | (refine And.intro (fun _ => ?_) (fun _ => ?_) <;> try (exfalso; omega)) | ((first | refine Kh ?_ | refine Ki rfl ?_); simp only [or_self,Qs,Qt,Qu,Qv,Qw,Qx,Qy,Qz,Za,go_sem]))
  | false =>
   have e2 : (G.2 != 0) = true := by simpa using h0
   repeat' (first | refine Kn rfl ?_ | ((first | refine Ka ?_ | refine G_regp rfl rfl ?_ | refine Kb ?_ | refine Kc ?_ | refine Kd ?_ | refine Ke ?_); simp only [h0,e2,go_sem]) | refine Kf ?_ | refine Kg ?_ | refine ⟨_,c1,Kg ?_⟩ | refine ⟨_,⟨c1,rfl⟩,Kg ?_⟩ | refine ⟨_,c2,Kg ?_⟩ | refine ⟨_,⟨c2,rfl⟩,Kg ?_⟩ | refine ⟨_,c3,Kg ?_⟩ | refine ⟨_,⟨c3,rfl⟩,Kg ?_⟩ | refine ⟨_,c4,Kg ?_⟩ | refine ⟨_,⟨c4,rfl⟩,Kg ?_⟩ | refine ⟨_,c5,Kg ?_⟩ | refine ⟨_,⟨c5,rfl⟩,Kg ?_⟩ | refine ⟨_,c6,Kg ?_⟩ | refine ⟨_,⟨c6,rfl⟩,Kg ?_⟩ | (refine And.intro (fun _ => ?_) (fun _ => ?_) <;> try (exfalso; omega)) | ((first | refine Kh ?_ | refine Ki rfl ?_); simp only [h0,e2,or_self,Qs,Qt,Qu,Qv,Qw,Qx,Qy,Qz,Za,go_sem]))
end Go.Fw.L07
