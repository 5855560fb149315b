/- Chapter 12: the law WalkTells. -/
import Derived.Test.YtldjkoidjigjpaaGreatDoorEb
import Derived.Test.YtldjkoidjigjpaaGreatDoorL07T12
import Derived.Test.YtldjkoidjigjpaaGreatDoorL07V12
set_option linter.all false
namespace Go.Fw.L07
open Go Go.Fw
open Go.Proofs.Tryz renaming prog -> QP
open Nat renaming reduceAdd -> Qa,reduceSub -> Qb,reduceMul -> Qc,reduceLeDiff -> Qd,reduceLT -> Qe,reduceEqDiff -> Qf
open Int renaming reduceToNat -> Qg,reduceLT -> Qh,reduceLE -> Qi,reduceGT -> Qj,reduceGE -> Qk,reduceEq -> Ql,reduceNe -> Qm,reduceBEq -> Qn,reduceBNe -> Qo,reduceAdd -> Qp,reduceSub -> Qq,reduceNeg -> Qr
open Go.Fw.V.one renaming injEq -> Qs
open Go.Fw.V.agg renaming injEq -> Qt
open Go.Fw.V.tup renaming injEq -> Qu
open Go.Fw.A.d renaming injEq -> Qv
open Go.Fw.D.bool renaming injEq -> Qw
open Go.Fw.D.int renaming injEq -> Qx
open Go.Fw.D.str renaming injEq -> Qy
open Go.Fw.D.sl renaming injEq -> Qz
open List.cons renaming injEq -> Za
set_option maxRecDepth 4000
variable {gp : Heap}
theorem zero_short : Nd.zero.short := by
 refine ⟨by simp [Nd.zero],by simp [Nd.zero],?_,by simp [Nd.zero]⟩
 show Nd.zero.x.s.size <= 100000
 exact Nat.zero_le _
theorem ndAt_short {l : List Nd} (h : ∀ x ∈ l,x.short) (i : Int) : (ndAt l i).short := by
 unfold ndAt
 split
 ·cases hx : l[i.toNat]? with
  | none => exact zero_short
  | some x => exact h x (List.mem_of_getElem? hx)
 ·exact zero_short
theorem tidyG_short {q : Gr} (hg : Good q) (h : ∀ x ∈ q.l,x.short) : ∀ x ∈ (tidyG q).l,x.short := by
 intro x hx
 have hs := hg.tidy.s x hx
 unfold tidyG at hx
 obtain ⟨i,-,rfl⟩ := List.mem_map.1 hx
 have h1 := ndAt_short h i
 refine ⟨hs.1,hs.2,h1.2.2.1,fun y hy => h1.2.2.2 y ?_⟩
 have hy' : y ∈ keysOf (ndAt q.l i) := hy
 unfold keysOf pairsOf at hy'
 split at hy'
 ·rename_i hk
  rw [((srt_perm (zips (ndAt q.l i))).map Pr.key).mem_iff,zips_key hk.2] at hy'
  exact hy'
 ·simp at hy'
theorem tidied_short (g : Gr) (t : Bool) : ∀ x ∈ (tidied g t).l,x.short := by
 unfold tidied
 split
 ·rename_i h
  exact tidyG_short ⟨h.2,g.cut_small⟩ (cut_short g)
 ·exact cut_short g
theorem tidied_small (g : Gr) (t : Bool) : Small (tidied g t) := by
 unfold tidied
 split
 ·rename_i h
  exact (Good.tidy ⟨h.2,g.cut_small⟩).s
 ·exact g.cut_small
theorem tidied_len (g : Gr) (t : Bool) : (tidied g t).l.length <= 900 := by
 have hc : g.cut.l.length <= 900 := by simp [Gr.cut]; omega
 unfold tidied
 split
 ·rename_i h
  have hg : Good g.cut := ⟨h.2,g.cut_small⟩
  have := hg.wlen
  rw [tidyG_len]
  omega
 ·exact hc
set_option maxHeartbeats 2000000 in
theorem walk_tells (h : Env gp) (g : Gr) (t : Bool) : Does QP gp 6 [g.v,vb t] (vb true) := by
 refine f6_in ?_
 simp only [go_sem]
 have cs := shown12_ok h
 have ct := tidied_g h g t
 have hs := tidied_small g t
 have hst := tidied_short g t
 have hl := tidied_len g t
 generalize tidied g t = q at *
 by_cases hc : chk q = none /\ q = tidyG q
 ·have hq : Tdy q := by
   have := Good.tdy ⟨hc.1,hs⟩
   rw [<- hc.2] at this
   exact this
  have c1 := uses_g h hq
  have c2 := uses12_g (gp := gp) hq hst (by omega)
  have c3 := anchors_g h hq
  have c4 := anchors12_g (gp := gp) hq hst (by omega)
  have c5 := depths_g h hq
  have c6 := depths12_g (gp := gp) hq hst hl
  have c7 := ints_eq (gp := gp) (usesL q) (usesL q)
  have c8 := ints_eq (gp := gp) (ancL q) (ancL q)
  have c9 := ints_eq (gp := gp) (depL q) (depL q)
  rw [decide_eq_true rfl] at c7 c8 c9
  generalize usesL q = a at *
  generalize ancL q = b at *
  generalize depL q = c at *
  repeat' (first | refine Gx rfl ?_ | ((first | refine G_reg ?_ | refine G_regv ?_ | refine VO_chk ?_ | refine VO_go ?_ | refine VO_gx ?_ | refine G_cond ?_); simp only [go_sem]) | refine VO_end ?_ | refine Sh.intro ?_ | refine ⟨_,cs,Sh.intro ?_⟩ | refine ⟨_,⟨cs,rfl⟩,Sh.intro ?_⟩ | refine ⟨_,ct,Sh.intro ?_⟩ | refine ⟨_,⟨ct,rfl⟩,Sh.intro ?_⟩ | refine ⟨_,c1,Sh.intro ?_⟩ | refine ⟨_,⟨c1,rfl⟩,Sh.intro ?_⟩ | refine ⟨_,c2,Sh.intro ?_⟩ | refine ⟨_,⟨c2,rfl⟩,Sh.intro ?_⟩ | refine ⟨_,c3,Sh.intro ?_⟩ | refine ⟨_,⟨c3,rfl⟩,Sh.intro ?_⟩ | refine ⟨_,c4,Sh.intro ?_⟩ | refine ⟨_,⟨c4,rfl⟩,Sh.intro ?_⟩ | refine ⟨_,c5,Sh.intro ?_⟩ | refine ⟨_,⟨c5,rfl⟩,Sh.intro ?_⟩ | refine ⟨_,c6,Sh.intro ?_⟩ | refine ⟨_,⟨c6,rfl⟩,Sh.intro ?_⟩ | refine ⟨_,c7,Sh.intro ?_⟩ | refine ⟨_,⟨c7,rfl⟩,Sh.intro ?_⟩ | refine ⟨_,c8,Sh.intro ?_⟩ | refine ⟨_,⟨c8,rfl⟩,Sh.intro ?_⟩ | refine ⟨_,c9,Sh.intro ?_⟩ | refine ⟨_,⟨c9,rfl⟩,Sh.intro ?_⟩ | (refine And.intro (fun _ => ?_) (fun _ => ?_) <;> try (exfalso; omega)) | ((first | refine G_fin ?_ | refine G_ret rfl ?_); simp only [or_self,Qs,Qt,Qu,Qv,Qw,Qx,Qy,Qz,Za,go_sem]))
  all_goals first | (exfalso; simp_all; done) | simp_all | trace_state
 ·have c1 := uses_bad h hs hc
  have c2 := uses12_bad (gp := gp) hs hc hst (by omega)
  have c3 := anchors_bad h hs hc
  have c4 := anchors12_bad (gp := gp) hs hc hst (by omega)
  have c5 := depths_bad h hs hc
  have c6 := depths12_bad (gp := gp) hs hc hst (by omega)
  have c7 := ints_eq (gp := gp) [] []
  rw [decide_eq_true rfl] at c7
  repeat' (first | refine Gx rfl ?_ | ((first | refine G_reg ?_ | refine G_regv ?_ | refine VO_chk ?_ | refine VO_go ?_ | refine VO_gx ?_ | refine G_cond ?_); simp only [go_sem]) | refine VO_end ?_ | refine Sh.intro ?_ | refine ⟨_,cs,Sh.intro ?_⟩ | refine ⟨_,⟨cs,rfl⟩,Sh.intro ?_⟩ | refine ⟨_,ct,Sh.intro ?_⟩ | refine ⟨_,⟨ct,rfl⟩,Sh.intro ?_⟩ | refine ⟨_,c1,Sh.intro ?_⟩ | refine ⟨_,⟨c1,rfl⟩,Sh.intro ?_⟩ | refine ⟨_,c2,Sh.intro ?_⟩ | refine ⟨_,⟨c2,rfl⟩,Sh.intro ?_⟩ | refine ⟨_,c3,Sh.intro ?_⟩ | refine ⟨_,⟨c3,rfl⟩,Sh.intro ?_⟩ | refine ⟨_,c4,Sh.intro ?_⟩ | refine ⟨_,⟨c4,rfl⟩,Sh.intro ?_⟩ | refine ⟨_,c5,Sh.intro ?_⟩ | refine ⟨_,⟨c5,rfl⟩,Sh.intro ?_⟩ | refine ⟨_,c6,Sh.intro ?_⟩ | refine ⟨_,⟨c6,rfl⟩,Sh.intro ?_⟩ | refine ⟨_,c7,Sh.intro ?_⟩ | refine ⟨_,⟨c7,rfl⟩,Sh.intro ?_⟩ | (refine And.intro (fun _ => ?_) (fun _ => ?_) <;> try (exfalso; omega)) | ((first | refine G_fin ?_ | refine G_ret rfl ?_); simp only [or_self,Qs,Qt,Qu,Qv,Qw,Qx,Qy,Qz,Za,go_sem]))
  all_goals first | (exfalso; simp_all; done) | simp_all | trace_state
end Go.Fw.L07
