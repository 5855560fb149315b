/- ComposeTwice. -/
import Derived.Test.YtiklocoaghcliaaGreatDoorMe
set_option linter.all false
namespace Go.Fw.L07
open Go Go.Fw
open Go.Fw.Sh renaming intro -> Kg
open Go.Fw renaming G_reg -> Ka,G_regp -> Ka,VO_chk -> Kb,VO_go -> Kc,VO_gx -> Kd,G_cond -> Ke,VO_end -> Kf,G_fin -> Kh,G_ret -> Ki,Gx -> Kn
open And renaming intro -> Kp
open Go.Proofs.Tryz renaming prog -> QP
open Go.Fw.V.one renaming injEq -> Qs
open Go.Fw.V.agg renaming injEq -> Qt
open Go.Fw.V.tup renaming injEq -> Qu
open Go.Fw.A.d renaming injEq -> Qv
open Go.Fw.D.bool renaming injEq -> Qw
open Go.Fw.D.int renaming injEq -> Qx
open Go.Fw.D.str renaming injEq -> Qy
open Go.Fw.D.sl renaming injEq -> Qz
open List.cons renaming injEq -> Za
set_option maxRecDepth 4000
variable {gp : Heap} {ua : Addr}
theorem kids2 (T : Tr) : trs [Tr0,T] = [Tr0.dd,T.dd] := by simp [trs,Tr.ds_eq]
theorem twice_map {x y : Sc} {T : Tr} (hx : prR rightS x = true) (hy : prR rightS y = true) (hxy : x ≠ y) : (graphT rightS (tMap [x,y] [Tr0,T])).2 = (graphT rightS (tSeq ⟨#[]⟩ [Tr0,T])).2 := by
 have h1 : chkT rightS (tMap [x,y] [Tr0,T]) 1 0 [] = 0 := by
  simp [chkT,shapeT,mapT,Tr.k,Tr.x,Tr.keys,Tr.kids,Tr.name,hx,hy,hxy,isZ]
 have h2 : chkT rightS (tSeq ⟨#[]⟩ [Tr0,T]) 1 0 [] = 0 := by
  simp [chkT,shapeT,seqT,Tr.k,Tr.x,Tr.keys,Tr.kids,Tr.name,isZ]
 have h3 := lay_kids (R := rightS) h1 h2 (by simp [Tr.k]) (by simp [Tr.k]) rfl rfl
 unfold graphT
 split
 ·rename_i h4; rw [h3] at h4; rw [if_pos h4]
 ·rename_i h4; rw [h3] at h4; rw [if_neg h4]; exact h3
theorem twice_eq {x : Sc} {T : Tr} (hx : prR rightS x = true) : graphT rightS (tMap [x,x] [Tr0,T]) = (⟨0,[]⟩,101) := by
 have h1 : chkT rightS (tMap [x,x] [Tr0,T]) 1 0 [] = 101 := by
  simp [chkT,shapeT,mapT,Tr.k,Tr.x,Tr.keys,Tr.kids,Tr.name,hx,isZ]
 unfold graphT
 rw [layT_eq,h1]; rfl
theorem twice_bad {x y : Sc} {T : Tr} (hx : ¬ (prR rightS x = true /\ prR rightS y = true)) : graphT rightS (tMap [x,y] [Tr0,T]) = (⟨0,[]⟩,93) := by
 have h1 : chkT rightS (tMap [x,y] [Tr0,T]) 1 0 [] = 93 := by
  have h2 : mapT rightS (tMap [x,y] [Tr0,T]) = false := by
   simp only [mapT,Tr.keys,List.all_cons,List.all_nil,Bool.and_true,Bool.and_eq_false_iff]
   right; right
   cases ha : prR rightS x <;> cases hb : prR rightS y <;> simp_all
  simp [chkT,shapeT,h2,Tr.k]
 unfold graphT
 rw [layT_eq,h1]; rfl
set_option maxHeartbeats 2000000 in
theorem twice18_ok (h : Env18 gp ua) (t : Tr) (x y : Sc) : Does QP gp 6 [t.v,x.v,y.v] (vb true) := by
 have c1 := shown18_ok h
 have c2 := cut16 (gp := gp) t
 obtain ⟨T,hT⟩ : ∃ T,cutTr 7 t = T := ⟨_,rfl⟩
 have hs : smT T := hT ▸ cut_sm 7 t
 rw [hT] at c2
 have c3 : Does QP gp 12 [.agg [.d (.int .i64 2),.d (.str ⟨#[]⟩),.d (.int .i64 0),.d (.int .i64 0),.d (.str ⟨#[]⟩),.d (.sl (scs [x,y])),.d (.sl [Tr0.dd,T.dd])]] (.tup [(graphT rightS (tMap [x,y] [Tr0,T])).1.v,vi (graphT rightS (tMap [x,y] [Tr0,T])).2]) := by
  rw [<- kids2]; exact graph18 h (tMap [x,y] [Tr0,T]) (by simp [smT,smL,hs])
 have c4 : Does QP gp 12 [.agg [.d (.int .i64 1),.d (.str ⟨#[]⟩),.d (.int .i64 0),.d (.int .i64 0),.d (.str ⟨#[]⟩),.d (.sl []),.d (.sl [Tr0.dd,T.dd])]] (.tup [(graphT rightS (tSeq ⟨#[]⟩ [Tr0,T])).1.v,vi (graphT rightS (tSeq ⟨#[]⟩ [Tr0,T])).2]) := by
  rw [<- kids2]; exact graph18 h (tSeq ⟨#[]⟩ [Tr0,T]) (by simp [smT,smL,hs])
 have c5 := plain_right rightS (right_str h.e.u) x
 have c6 := plain_right rightS (right_str h.e.u) y
 refine f6_in ?_
 simp only [go_sem]
 by_cases hx : prR rightS x = true /\ prR rightS y = true
 ·rw [hx.1] at c5
  rw [hx.2] at c6
  by_cases hxy : x = y
  ·subst hxy
   rw [twice_eq hx.1] at c3
   repeat' (first | refine Kn rfl ?_ | ((first | refine Ka ?_ | refine G_regp rfl rfl ?_ | refine Kb ?_ | refine Kc ?_ | refine Kd ?_ | refine Ke ?_); simp only [sc_eq,go_sem]) | refine Kf ?_ | refine Kg ?_ | refine ⟨_,c1,Kg ?_⟩ | refine ⟨_,⟨c1,rfl⟩,Kg ?_⟩ | refine ⟨_,c2,Kg ?_⟩ | refine ⟨_,⟨c2,rfl⟩,Kg ?_⟩ | refine ⟨_,c3,Kg ?_⟩ | refine ⟨_,⟨c3,rfl⟩,Kg ?_⟩ | refine ⟨_,c4,Kg ?_⟩ | refine ⟨_,⟨c4,rfl⟩,Kg ?_⟩ | refine ⟨_,c5,Kg ?_⟩ | refine ⟨_,⟨c5,rfl⟩,Kg ?_⟩ | (refine Kp (fun _ => ?_) (fun _ => ?_) <;> try (exfalso; omega)) | ((first | refine Kh ?_ | refine Ki rfl ?_); simp only [sc_eq,or_self,Qs,Qt,Qu,Qv,Qw,Qx,Qy,Qz,Za,go_sem]))
   all_goals trace_state
  ·rw [twice_map hx.1 hx.2 hxy] at c3
   repeat' (first | refine Kn rfl ?_ | ((first | refine Ka ?_ | refine G_regp rfl rfl ?_ | refine Kb ?_ | refine Kc ?_ | refine Kd ?_ | refine Ke ?_); simp only [sc_eq,go_sem]) | refine Kf ?_ | refine Kg ?_ | refine ⟨_,c1,Kg ?_⟩ | refine ⟨_,⟨c1,rfl⟩,Kg ?_⟩ | refine ⟨_,c2,Kg ?_⟩ | refine ⟨_,⟨c2,rfl⟩,Kg ?_⟩ | refine ⟨_,c3,Kg ?_⟩ | refine ⟨_,⟨c3,rfl⟩,Kg ?_⟩ | refine ⟨_,c4,Kg ?_⟩ | refine ⟨_,⟨c4,rfl⟩,Kg ?_⟩ | refine ⟨_,c5,Kg ?_⟩ | refine ⟨_,⟨c5,rfl⟩,Kg ?_⟩ | refine ⟨_,c6,Kg ?_⟩ | refine ⟨_,⟨c6,rfl⟩,Kg ?_⟩ | (refine Kp (fun _ => ?_) (fun _ => ?_) <;> try (exfalso; omega)) | ((first | refine Kh ?_ | refine Ki rfl ?_); simp only [sc_eq,or_self,Qs,Qt,Qu,Qv,Qw,Qx,Qy,Qz,Za,go_sem]))
   all_goals (exact absurd (by assumption) hxy)
 ·rw [twice_bad hx] at c3
  generalize graphT rightS (tSeq ⟨#[]⟩ [Tr0,T]) = q4 at *
  cases hx1 : prR rightS x with
  | false =>
   rw [hx1] at c5
   repeat' (first | refine Kn rfl ?_ | ((first | refine Ka ?_ | refine G_regp rfl rfl ?_ | refine Kb ?_ | refine Kc ?_ | refine Kd ?_ | refine Ke ?_); simp only [sc_eq,go_sem]) | refine Kf ?_ | refine Kg ?_ | refine ⟨_,c1,Kg ?_⟩ | refine ⟨_,⟨c1,rfl⟩,Kg ?_⟩ | refine ⟨_,c2,Kg ?_⟩ | refine ⟨_,⟨c2,rfl⟩,Kg ?_⟩ | refine ⟨_,c3,Kg ?_⟩ | refine ⟨_,⟨c3,rfl⟩,Kg ?_⟩ | refine ⟨_,c4,Kg ?_⟩ | refine ⟨_,⟨c4,rfl⟩,Kg ?_⟩ | refine ⟨_,c5,Kg ?_⟩ | refine ⟨_,⟨c5,rfl⟩,Kg ?_⟩ | (refine Kp (fun _ => ?_) (fun _ => ?_) <;> try (exfalso; omega)) | ((first | refine Kh ?_ | refine Ki rfl ?_); simp only [sc_eq,or_self,Qs,Qt,Qu,Qv,Qw,Qx,Qy,Qz,Za,go_sem]))
  | true =>
   have hy1 : prR rightS y = false := by
    cases hy : prR rightS y with
    | false => rfl
    | true => exact absurd ⟨hx1,hy⟩ hx
   rw [hx1] at c5
   rw [hy1] at c6
   repeat' (first | refine Kn rfl ?_ | ((first | refine Ka ?_ | refine G_regp rfl rfl ?_ | refine Kb ?_ | refine Kc ?_ | refine Kd ?_ | refine Ke ?_); simp only [sc_eq,go_sem]) | refine Kf ?_ | refine Kg ?_ | refine ⟨_,c1,Kg ?_⟩ | refine ⟨_,⟨c1,rfl⟩,Kg ?_⟩ | refine ⟨_,c2,Kg ?_⟩ | refine ⟨_,⟨c2,rfl⟩,Kg ?_⟩ | refine ⟨_,c3,Kg ?_⟩ | refine ⟨_,⟨c3,rfl⟩,Kg ?_⟩ | refine ⟨_,c4,Kg ?_⟩ | refine ⟨_,⟨c4,rfl⟩,Kg ?_⟩ | refine ⟨_,c5,Kg ?_⟩ | refine ⟨_,⟨c5,rfl⟩,Kg ?_⟩ | refine ⟨_,c6,Kg ?_⟩ | refine ⟨_,⟨c6,rfl⟩,Kg ?_⟩ | (refine Kp (fun _ => ?_) (fun _ => ?_) <;> try (exfalso; omega)) | ((first | refine Kh ?_ | refine Ki rfl ?_); simp only [sc_eq,or_self,Qs,Qt,Qu,Qv,Qw,Qx,Qy,Qz,Za,go_sem]))
end Go.Fw.L07
