/- Chapter 9: the law IsoTells. -/
import Derived.Test.YtldjkoidjigjpaaGreatDoorIb
import Derived.Test.YtldjkoidjigjpaaGreatDoorId
set_option linter.all false
namespace Go.Fw.L07
open Go Go.Fw
open Go.Proofs.Tryz renaming prog -> QP
open Nat renaming reduceAdd -> Qa,reduceSub -> Qb,reduceMul -> Qc,reduceLeDiff -> Qd,reduceLT -> Qe,reduceEqDiff -> Qf
open Int renaming reduceToNat -> Qg,reduceLT -> Qh,reduceLE -> Qi,reduceGT -> Qj,reduceGE -> Qk,reduceEq -> Ql,reduceNe -> Qm,reduceBEq -> Qn,reduceBNe -> Qo,reduceAdd -> Qp,reduceSub -> Qq,reduceNeg -> Qr
open Go.Fw.V.one renaming injEq -> Qs
open Go.Fw.V.agg renaming injEq -> Qt
open Go.Fw.V.tup renaming injEq -> Qu
open Go.Fw.A.d renaming injEq -> Qv
open Go.Fw.D.bool renaming injEq -> Qw
open Go.Fw.D.int renaming injEq -> Qx
open Go.Fw.D.str renaming injEq -> Qy
open Go.Fw.D.sl renaming injEq -> Qz
open List.cons renaming injEq -> Za
set_option maxRecDepth 4000
variable {gp : Heap} {ua : Addr}
theorem smallG_short (g : Gr) (n : Int) : ∀ x ∈ (smallG g n).l,x.short := by
 unfold smallG
 split
 ·intro x hx; cases hx
 ·exact cut_short g
set_option maxHeartbeats 2000000 in
theorem iso_tells (h9 : Env9 gp ua) (g h : Gr) : Does QP gp 5 [g.v,h.v] (vb true) := by
 refine f5_in ?_
 simp only [go_sem]
 have cs := shown9_ok h9
 have cg := small9 (gp := gp) g 30
 have ch := small9 (gp := gp) h 30
 have hs := smallG_small g 30
 have hs' := smallG_small h 30
 have hst := smallG_short g 30
 have hst' := smallG_short h 30
 generalize smallG g 30 = q at *
 generalize smallG h 30 = r at *
 have c1 := pairs_gr h9 q r hs hs'
 have c2 := pairs9 (gp := gp) q r hs hs' hst hst'
 have c3 := alike_gr h9 q r hs hs'
 have c4 := alike9 (gp := gp) q r hs hs' hst hst'
 have c5 := same9 (gp := gp) (prG q r).1 (prG q r).1
 rw [decide_eq_true rfl] at c5
 generalize checkE [q,r] = e at *
 generalize (prG q r).1 = w at *
 generalize (prG q r).2 = ok at *
 generalize alG q r = a at *
 repeat' (first | refine Gx rfl ?_ | ((first | refine G_reg ?_ | refine G_regv ?_ | refine VO_chk ?_ | refine VO_go ?_ | refine VO_gx ?_); simp only [f5_r0,f5_r1,f5_r2,f5_r3,f5_r4,f5_r5,f5_r6,f5_r7,f5_r8,go_sem]) | refine VO_end ?_ | refine Sh.intro ?_ | refine ⟨_,cs,Sh.intro ?_⟩ | refine ⟨_,⟨cs,rfl⟩,Sh.intro ?_⟩ | refine ⟨_,cg,Sh.intro ?_⟩ | refine ⟨_,⟨cg,rfl⟩,Sh.intro ?_⟩ | refine ⟨_,ch,Sh.intro ?_⟩ | refine ⟨_,⟨ch,rfl⟩,Sh.intro ?_⟩ | refine ⟨_,c1,Sh.intro ?_⟩ | refine ⟨_,⟨c1,rfl⟩,Sh.intro ?_⟩ | refine ⟨_,c2,Sh.intro ?_⟩ | refine ⟨_,⟨c2,rfl⟩,Sh.intro ?_⟩ | refine ⟨_,c3,Sh.intro ?_⟩ | refine ⟨_,⟨c3,rfl⟩,Sh.intro ?_⟩ | refine ⟨_,c4,Sh.intro ?_⟩ | refine ⟨_,⟨c4,rfl⟩,Sh.intro ?_⟩ | refine ⟨_,c5,Sh.intro ?_⟩ | refine ⟨_,⟨c5,rfl⟩,Sh.intro ?_⟩ | (refine G_cond ?_; simp only [f5_r0,f5_r1,f5_r2,f5_r3,f5_r4,f5_r5,f5_r6,f5_r7,f5_r8,go_sem]; first | (refine ⟨fun _ => ?_,fun _ => ?_⟩ <;> try (exfalso; omega)) | skip) | (refine And.intro (fun _ => ?_) (fun _ => ?_) <;> try (exfalso; omega)) | ((first | refine G_fin ?_ | refine G_ret rfl ?_); simp only [f5_r0,f5_r1,f5_r2,f5_r3,f5_r4,f5_r5,f5_r6,f5_r7,f5_r8,or_self,Qs,Qt,Qu,Qv,Qw,Qx,Qy,Qz,Za,go_sem]))
 all_goals first | (exfalso; simp_all; done) | simp_all | trace_state
end Go.Fw.L07
