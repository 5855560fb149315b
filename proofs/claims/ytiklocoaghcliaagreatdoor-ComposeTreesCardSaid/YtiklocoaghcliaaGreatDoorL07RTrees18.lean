/- ComposeTrees. -/
import Derived.Test.YtiklocoaghcliaaGreatDoorMf
set_option linter.all false
namespace Go.Fw.L07
open Go Go.Fw
open Go.Fw.Sh renaming intro -> Kg
open Go.Fw renaming G_reg -> Ka,G_regp -> Ka,VO_chk -> Kb,VO_go -> Kc,VO_gx -> Kd,G_cond -> Ke,VO_end -> Kf,G_fin -> Kh,G_ret -> Ki,G_weak -> Kj,G_again -> Kl,G_loop -> Km,Gx -> Kn
open And renaming intro -> Kp
open Go.Proofs.Tryz renaming prog -> QP
open Go.Fw.V.one renaming injEq -> Qs
open Go.Fw.V.agg renaming injEq -> Qt
open Go.Fw.V.tup renaming injEq -> Qu
open Go.Fw.A.d renaming injEq -> Qv
open Go.Fw.D.bool renaming injEq -> Qw
open Go.Fw.D.int renaming injEq -> Qx
open Go.Fw.D.str renaming injEq -> Qy
open Go.Fw.D.sl renaming injEq -> Qz
open List.cons renaming injEq -> Za
set_option maxRecDepth 4000
variable {gp : Heap} {ua : Addr}
def kidK (g : Gr) (i : Nat) : Int := (((g.l.take i).flatMap Nd.kids).length : Int)
theorem kidK_0 (g : Gr) : kidK g 0 = 0 := by simp [kidK]
theorem kidK_s {g : Gr} {i : Nat} {x : Nd} (hx : g.l[i]? = some x) : kidK g (i + 1) = kidK g i + (x.kids.length : Int) := by
 unfold kidK
 rw [<- take_snoc hx,List.flatMap_append]; simp
theorem kidK_n (g : Gr) : kidK g g.l.length = ((flat g).length : Int) := by unfold kidK flat; rw [List.take_length]
theorem kidK_b {g : Gr} (hs : Small g) : ∀ i : Nat,0 <= kidK g i /\ kidK g i <= 12 * (i : Int)
 | 0 => by rw [kidK_0]; omega
 | i + 1 => by
  have h := kidK_b hs i
  by_cases hi : i < g.l.length
  ·obtain ⟨x,hx⟩ := at_lt hi
   have := (hs x (List.mem_of_getElem? hx)).2
   rw [kidK_s hx]; omega
  ·have : kidK g (i + 1) = kidK g i := by unfold kidK; rw [List.take_of_length_le (by omega),List.take_of_length_le (by omega)]
   rw [this]; omega
set_option maxHeartbeats 4000000 in
theorem trees18_walk (h : Env18 gp ua) (g : Gr) {t : Tr} {e : Int} (hsg : Small (tidG g)) (hlg : (tidG g).l.length <= 40) (hst : smT t) (c3 : Does QP gp 11 [(tidG g).v] (.tup [t.v,vi e]))
  (hlaw : e = 0 -> (flat (tidG g)).length + 1 = (tidG g).l.length -> graphT rightS t = (tidG g,0) /\ namesT t = [] /\ (flatT t).length <= 1000000) : Does QP gp 3 [g.v] (vb true) := by
 have c1 := shown18_ok h
 have c2 := tidied18 h.e g
 generalize tidG g = q at *
 have c4 := graph18 h t hst
 have c6 := same_gr (gp := gp) q q
 simp only [decide_true] at c6
 have hkb := kidK_b hsg
 refine f3_in ?_
 simp only [go_sem]
 repeat' (first | refine Kn rfl ?_ | ((first | refine Ka ?_ | refine G_regp rfl rfl ?_ | refine Kb ?_ | refine Kc ?_ | refine Kd ?_ | refine Ke ?_); simp only [go_sem]) | refine Kf ?_ | refine Kg ?_ | refine ⟨_,c1,Kg ?_⟩ | refine ⟨_,⟨c1,rfl⟩,Kg ?_⟩ | refine ⟨_,c2,Kg ?_⟩ | refine ⟨_,⟨c2,rfl⟩,Kg ?_⟩ | refine ⟨_,c3,Kg ?_⟩ | refine ⟨_,⟨c3,rfl⟩,Kg ?_⟩ | refine ⟨_,c4,Kg ?_⟩ | refine ⟨_,⟨c4,rfl⟩,Kg ?_⟩ | (refine Kp (fun _ => ?_) (fun _ => ?_) <;> try (exfalso; omega)))
 refine Kj (fr 66 [(1,.one (.ptr 0 0)),(2,vb false),(3,vb true),(4,.one (.ptr 1 0)),(5,vi e),(6,.one (.ptr 2 0)),(7,vi (graphT rightS t).2),(8,vi (kidK q 0)),(9,vi 0)]) (by simp only [kidK_0,go_sem]; repeat' (first | refine Kp ?_ ?_ | exact Or.inl rfl | exact Or.inr rfl | rfl)) ?_
 refine Kj (fr 66 [(1,.one (.ptr 0 0)),(2,vb false),(3,vb true),(4,.one (.ptr 1 0)),(5,vi e),(6,.one (.ptr 2 0)),(7,vi (graphT rightS t).2),(8,vi (kidK q (0 : Nat))),(9,vi (0 : Nat))]) (by (simp only [go_sem]; repeat' (first | refine Kp ?_ ?_ | exact Or.inl rfl | exact Or.inr rfl | rfl))) ?_
 refine Km (fun mz sz => ∃ i : Nat,i <= q.l.length /\ mz = q.l.length - i /\ (0 <= i) /\ sz = ⟨fr 66 [(1,.one (.ptr 0 0)),(2,vb false),(3,vb true),(4,.one (.ptr 1 0)),(5,vi e),(6,.one (.ptr 2 0)),(7,vi (graphT rightS t).2),(8,vi (kidK q i)),(9,vi i)],[.cells q.as,.cells t.as,.cells (graphT rightS t).1.as]⟩) (q.l.length) ⟨0,Nat.zero_le _,(Nat.sub_zero _).symm,?_,rfl⟩ ?_
 ·exact Nat.zero_le _
 rintro _ _ ⟨i,hi,rfl,-,rfl⟩
 simp only [go_sem]
 by_cases hil : i < q.l.length
 ·obtain ⟨x,hx⟩ := at_lt hil
  have hks := kidK_s hx
  have hik : inK .i64 (kidK q i + (x.kids.length : Int)) := by
   have := hkb (i + 1)
   rw [<- hks]; simp [inK,IntKind.min,IntKind.max,IntKind.signed,IntKind.bits]; omega
  have hik2 : inK .i64 ((i : Int) + 1) := by simp [inK,IntKind.min,IntKind.max,IntKind.signed,IntKind.bits]; omega
  repeat' (first | refine Kn rfl ?_ | ((first | refine Ka ?_ | refine G_regp rfl rfl ?_ | refine Kb ?_ | refine Kc ?_ | refine Kd ?_ | refine Ke ?_); simp only [go_sem]) | refine Kf ?_ | refine Kg ?_ | refine ⟨_,⟨Int.natCast_nonneg _,(by first | exact map_at hx | (rw [Int.toNat_natCast]; exact map_at hx)),rfl⟩,Kg ?_⟩ | refine ⟨hik,?_⟩ | refine ⟨hik2,?_⟩ | (refine Kp (fun _ => ?_) (fun _ => ?_) <;> try (exfalso; omega)))
  rw [<- hks]
  refine Kj (fr 66 [(1,.one (.ptr 0 0)),(2,vb false),(3,vb true),(4,.one (.ptr 1 0)),(5,vi e),(6,.one (.ptr 2 0)),(7,vi (graphT rightS t).2),(8,vi (kidK q (i + 1))),(9,vi (i + 1))]) (by (simp only [go_sem]; repeat' (first | refine Kp ?_ ?_ | exact Or.inl rfl | exact Or.inr rfl | rfl))) ?_
  refine Kl ⟨q.l.length - (i + 1),by omega,i + 1,by omega,rfl,?_,rfl⟩
  exact Nat.zero_le _
 ·obtain rfl : q.l.length = i := by omega
  have hik : inK .i64 ((q.l.length : Int) - 1) := by simp [inK,IntKind.min,IntKind.max,IntKind.signed,IntKind.bits]; omega
  by_cases he : e = 0
  ·have e1 : (e != 0) = false := by simp [he]
   by_cases hk : (flat q).length + 1 = q.l.length
   ·obtain ⟨g1,g2,g3⟩ := hlaw he hk
    have e2 : (kidK q q.l.length != (q.l.length : Int) - 1) = false := by rw [kidK_n]; simp; omega
    have c5 := names18 (gp := gp) t g3
    rw [g2] at c5
    rw [g1]
    repeat' (first | refine Kn rfl ?_ | ((first | refine Ka ?_ | refine G_regp rfl rfl ?_ | refine Kb ?_ | refine Kc ?_ | refine Kd ?_ | refine Ke ?_); simp only [e1,e2,go_sem]) | refine Kf ?_ | refine Kg ?_ | refine ⟨_,c5,Kg ?_⟩ | refine ⟨_,⟨c5,rfl⟩,Kg ?_⟩ | refine ⟨_,c6,Kg ?_⟩ | refine ⟨_,⟨c6,rfl⟩,Kg ?_⟩ | refine ⟨hik,?_⟩ | (refine Kp (fun _ => ?_) (fun _ => ?_) <;> try (exfalso; omega)) | ((first | refine Kh ?_ | refine Ki rfl ?_); simp only [e1,e2,or_self,Qs,Qt,Qu,Qv,Qw,Qx,Qy,Qz,Za,go_sem]))
   ·have e2 : (kidK q q.l.length != (q.l.length : Int) - 1) = true := by rw [kidK_n]; simp; omega
    repeat' (first | refine Kn rfl ?_ | ((first | refine Ka ?_ | refine G_regp rfl rfl ?_ | refine Kb ?_ | refine Kc ?_ | refine Kd ?_ | refine Ke ?_); simp only [e1,e2,go_sem]) | refine Kf ?_ | refine Kg ?_ | refine ⟨hik,?_⟩ | (refine Kp (fun _ => ?_) (fun _ => ?_) <;> try (exfalso; omega)) | ((first | refine Kh ?_ | refine Ki rfl ?_); simp only [e1,e2,or_self,Qs,Qt,Qu,Qv,Qw,Qx,Qy,Qz,Za,go_sem]))
  ·have e1 : (e != 0) = true := by simp [he]
   repeat' (first | refine Kn rfl ?_ | ((first | refine Ka ?_ | refine G_regp rfl rfl ?_ | refine Kb ?_ | refine Kc ?_ | refine Kd ?_ | refine Ke ?_); simp only [e1,go_sem]) | refine Kf ?_ | refine Kg ?_ | refine ⟨hik,?_⟩ | (refine Kp (fun _ => ?_) (fun _ => ?_) <;> try (exfalso; omega)) | ((first | refine Kh ?_ | refine Ki rfl ?_); simp only [e1,or_self,Qs,Qt,Qu,Qv,Qw,Qx,Qy,Qz,Za,go_sem]))
theorem trees18_ok (h : Env18 gp ua) (g : Gr) : Does QP gp 3 [g.v] (vb true) := by
 rcases tidG_ok g with ⟨hg,hl⟩ | ⟨hs,hc,hl⟩
 ·by_cases hd : deepOK (tidG g)
  ·obtain ⟨t,met,f,hof,hst,hlay⟩ := tree_whole hg hd (by omega)
   refine trees18_walk h g hg.good.s hl hst (tree_ok h hg hd hof) fun _ hk => ?_
   obtain ⟨h1,h2⟩ := tree_same hg hk hlay
   have h3 := flat_plain hg (fun i hi => tree_anc hg hk hi) f 0 [] met t hof
   have h4 := own_flat t fun c hc => (h3 c hc).2
   have h5 := layT_own t 1 0 [] h1
   have h6 := layT_len (R := rightS) t 1 0 [] (by omega)
   refine ⟨?_,names_none h3,by omega⟩
   unfold graphT
   rw [if_pos h1,h2]
  ·exact trees18_walk h g hg.good.s hl (by simp [smT,smL]) (tree_deep h hg hd) fun he => absurd he (by decide)
 ·exact trees18_walk h g hs hl (by simp [smT,smL]) (tree_bad h.e hs fun hh => hc hh.1) fun he => absurd he (by decide)
end Go.Fw.L07
