/- ComposeWraps. -/
import Derived.Test.YtiklocoaghcliaaGreatDoorMe
set_option linter.all false
namespace Go.Fw.L07
open Go Go.Fw
open Go.Fw.Sh renaming intro -> Kg
open Go.Fw renaming G_reg -> Ka,G_regp -> Ka,VO_chk -> Kb,VO_go -> Kc,VO_gx -> Kd,G_cond -> Ke,VO_end -> Kf,G_fin -> Kh,G_ret -> Ki,G_weak -> Kj,G_drop -> Kk,G_again -> Kl,G_loop -> Km,Gx -> Kn,Gw -> Ko
open Int renaming natCast_nonneg -> Kq
open And renaming intro -> Kp
open Go.Proofs.Tryz renaming prog -> QP
open Go.Fw.V.one renaming injEq -> Qs
open Go.Fw.V.agg renaming injEq -> Qt
open Go.Fw.V.tup renaming injEq -> Qu
open Go.Fw.A.d renaming injEq -> Qv
open Go.Fw.D.bool renaming injEq -> Qw
open Go.Fw.D.int renaming injEq -> Qx
open Go.Fw.D.str renaming injEq -> Qy
open Go.Fw.D.sl renaming injEq -> Qz
open List.cons renaming injEq -> Za
set_option maxRecDepth 4000
variable {gp : Heap} {ua : Addr}
set_option maxHeartbeats 4000000 in
theorem wraps18_ok (h : Env18 gp ua) (t : Tr) : Does QP gp 5 [t.v] (vb true) := by
 have c1 := shown18_ok h
 have c2 := cut16 (gp := gp) t
 have hs := cut_sm 7 t
 have hh : htT (cutTr 7 t) <= 22 := Nat.le_trans (cut_ht 7 t) (by omega)
 generalize cutTr 7 t = T at *
 have c3 := graph18 h T hs
 have c4 : Does QP gp 12 [.agg [.d (.int .i64 1),.d (.str ⟨#[]⟩),.d (.int .i64 0),.d (.int .i64 0),.d (.str ⟨#[]⟩),.d (.sl []),.d (.sl [T.dd])]] (.tup [(graphT rightS (.mk 1 ⟨#[]⟩ ⟨0,0,⟨#[]⟩⟩ [] [T])).1.v,vi (graphT rightS (.mk 1 ⟨#[]⟩ ⟨0,0,⟨#[]⟩⟩ [] [T])).2]) := by
  rw [show [T.dd] = trs [T] from by simp [trs,Tr.ds_eq]]; exact graph18 h (tSeq ⟨#[]⟩ [T]) (by simp [smT,smL,hs])
 obtain ⟨w1,w2,w3⟩ := wrap_ok T hh hs
 have hgood : (graphT rightS T).2 = 0 -> Good ⟨0,(graphT rightS T).1.l⟩ := by
  intro h0
  unfold graphT at h0 ⊢
  by_cases he : (layT rightS T 1 0 []).e = 0
  ·rw [if_pos he]; exact (graph_ok hs he).1
  ·rw [if_neg he] at h0; exact absurd h0 he
 generalize graphT rightS (.mk 1 ⟨#[]⟩ ⟨0,0,⟨#[]⟩⟩ [] [T]) = H at *
 generalize graphT rightS T = G at *
 refine f5_in ?_
 simp only [go_sem]
 by_cases hG : G.2 = 0
 ·by_cases hH : H.2 = 0
  ·have e3 := w3 hG hH
   have hg := hgood hG
   rw [hG] at c3
   rw [hH] at c4
   obtain ⟨⟨gr,L⟩,ge⟩ := G
   obtain ⟨⟨hr,HL⟩,he⟩ := H
   simp only at e3 c3 c4 hg
   subst e3
   have hlen := hg.len
   simp only at hlen
   have c5 := ints_eq (gp := gp) [1] [1]
   simp only [decide_true] at c5
   have e4 : (((L.map shN).length + 1 : Nat) : Int) = ((L.length : Nat) : Int) + 1 := by simp
   have e5 : (((L.length + 1 : Nat) : Int) != (L.length : Int) + 1) = false := by simp
   have hik0 : inK .i64 ((L.length : Int) + 1) := by simp [inK,IntKind.min,IntKind.max,IntKind.signed,IntKind.bits]; omega
   repeat' (first | refine Kn rfl ?_ | ((first | refine Ka ?_ | refine G_regp rfl rfl ?_ | refine Kb ?_ | refine Kc ?_ | refine Kd ?_ | refine Ke ?_); simp only [e4,e5,List.length_map,List.length_cons,go_sem]) | refine Kf ?_ | refine Kg ?_ | refine ⟨_,c1,Kg ?_⟩ | refine ⟨_,⟨c1,rfl⟩,Kg ?_⟩ | refine ⟨_,c2,Kg ?_⟩ | refine ⟨_,⟨c2,rfl⟩,Kg ?_⟩ | refine ⟨_,c3,Kg ?_⟩ | refine ⟨_,⟨c3,rfl⟩,Kg ?_⟩ | refine ⟨_,c4,Kg ?_⟩ | refine ⟨_,⟨c4,rfl⟩,Kg ?_⟩ | refine ⟨_,c5,Kg ?_⟩ | refine ⟨_,⟨c5,rfl⟩,Kg ?_⟩ | refine ⟨hik0,?_⟩ | refine ⟨_,⟨rfl,rfl⟩,Kg ?_⟩ | (refine Kp (fun _ => ?_) (fun _ => ?_) <;> try (exfalso; omega)))
   refine Kj (fr 138 [(1,.one (.ptr 0 0)),(2,vb false),(3,vb true),(4,.one (.ptr 1 0)),(6,.one (.ptr 2 0)),(8,vi (0 : Nat))]) (by (simp only [go_sem]; repeat' (first | refine Kp ?_ ?_ | exact Or.inl rfl | exact Or.inr rfl | rfl))) ?_
   refine Km (fun mz sz => ∃ i : Nat,i <= L.length /\ mz = L.length - i /\ (0 <= i) /\ sz = ⟨fr 138 [(1,.one (.ptr 0 0)),(2,vb false),(3,vb true),(4,.one (.ptr 1 0)),(6,.one (.ptr 2 0)),(8,vi i)],[.cells T.as,.cells (Gr.as ⟨gr,L⟩),.cells (Gr.as ⟨hr,⟨1,⟨0,0,⟨#[]⟩⟩,[],[1]⟩ :: L.map shN⟩)]⟩) (L.length) ⟨0,Nat.zero_le _,(Nat.sub_zero _).symm,?_,rfl⟩ ?_
   ·exact Nat.zero_le _
   rintro _ _ ⟨i,hi,rfl,-,rfl⟩
   simp only [go_sem]
   by_cases hil : i < L.length
   ·obtain ⟨x,hx⟩ := at_lt hil
    have hxm := List.mem_of_getElem? hx
    have hsx := hg.s x hxm
    have hnx := (chk_ok hg.c).2.2 x hxm
    have hkx : ∀ k ∈ x.kids,0 <= k /\ k < 1000 := fun k hk => by
     have h1 := (kids_ok hnx).inn k ((kidsOf_perm hnx k).2 hk)
     simp only at h1; omega
    have hx2 : ((⟨1,⟨0,0,⟨#[]⟩⟩,[],[1]⟩ : Nd) :: L.map shN)[i + 1]? = some (shN x) := by rw [List.getElem?_cons_succ]; exact map_at hx
    repeat' (first | refine Kn rfl ?_ | ((first | refine Ka ?_ | refine G_regp rfl rfl ?_ | refine Kb ?_ | refine Kc ?_ | refine Kd ?_ | refine Ke ?_); simp only [go_sem]) | refine Kf ?_ | refine Kg ?_ | (refine Kp (fun _ => ?_) (fun _ => ?_) <;> try (exfalso; omega)))
    refine G_row0 9 1 (by decide) rfl ?_
    simp only [go_sem]
    refine Kj (fr 138 [(1,.one (.ptr 0 0)),(2,vb false),(3,vb true),(4,.one (.ptr 1 0)),(6,.one (.ptr 2 0)),(8,vi i),(9,.one (.own 3 (0 : Nat))),(10,vi (0 : Nat))]) (by (simp only [go_sem]; repeat' (first | refine Kp ?_ ?_ | exact Or.inl rfl | exact Or.inr rfl | rfl))) ?_
    refine Km (fun mz sz => ∃ j : Nat,j <= x.kids.length /\ mz = x.kids.length - j /\ (0 <= j) /\ sz = ⟨fr 138 [(1,.one (.ptr 0 0)),(2,vb false),(3,vb true),(4,.one (.ptr 1 0)),(6,.one (.ptr 2 0)),(8,vi i),(9,.one (.own 3 j)),(10,vi j)],[.cells T.as,.cells (Gr.as ⟨gr,L⟩),.cells (Gr.as ⟨hr,⟨1,⟨0,0,⟨#[]⟩⟩,[],[1]⟩ :: L.map shN⟩),.row 1 j (ints ((x.kids.take j).map shI))]⟩) (x.kids.length) ⟨0,Nat.zero_le _,(Nat.sub_zero _).symm,?_,rfl⟩ ?_
    ·exact Nat.zero_le _
    rintro _ _ ⟨j,hj,rfl,-,rfl⟩
    simp only [go_sem]
    by_cases hjl : j < x.kids.length
    ·obtain ⟨k,hk⟩ := at_lt hjl
     have hkk := hkx k (List.mem_of_getElem? hk)
     have hik1 : inK .i64 (k + 1) := by simp [inK,IntKind.min,IntKind.max,IntKind.signed,IntKind.bits]; omega
     have hik2 : inK .i64 ((j : Int) + 1) := by simp [inK,IntKind.min,IntKind.max,IntKind.signed,IntKind.bits]; omega
     have hp1 : (x.kids.take j).length + 1 <= 13 := by rw [List.length_take]; omega
     have hp2 : ((x.kids.take j).length + 1) * 8 <= 140737488355328 := by omega
     have hp3 : (x.kids.take j).length + 1 < lenMax := by unfold lenMax; omega
     repeat' (first | refine Kn rfl ?_ | ((first | refine Ka ?_ | refine G_regp rfl rfl ?_ | refine Kb ?_ | refine Kc ?_ | refine Kd ?_ | refine Ke ?_); simp only [List.length_map,go_sem]) | refine Kf ?_ | refine Kg ?_ | refine ⟨_,⟨Kq _,(by first | exact map_at hx | (rw [Int.toNat_natCast]; exact map_at hx)),rfl⟩,Kg ?_⟩ | refine ⟨_,⟨Kq _,(by first | exact map_at hk | (rw [Int.toNat_natCast]; exact map_at hk)),rfl⟩,Kg ?_⟩ | refine ⟨hik1,?_⟩ | refine ⟨by simp,hp2,hp3,?_⟩ | refine ⟨hik2,?_⟩ | (refine Kp (fun _ => ?_) (fun _ => ?_) <;> try (exfalso; omega)))
     refine Kj (fr 138 [(1,.one (.ptr 0 0)),(2,vb false),(3,vb true),(4,.one (.ptr 1 0)),(6,.one (.ptr 2 0)),(8,vi i),(9,.one (.own 3 (j + 1))),(10,vi (j + 1))]) (by (simp only [go_sem]; repeat' (first | refine Kp ?_ ?_ | exact Or.inl rfl | exact Or.inr rfl | rfl))) ?_
     refine Kl ⟨x.kids.length - (j + 1),by omega,j + 1,by omega,rfl,?_,(by rw [<- take_snoc hk]; simp [shI]; try rfl)⟩
     exact Nat.zero_le _
    ·obtain rfl : x.kids.length = j := by omega
     rw [List.take_length]
     repeat' (first | refine Ko rfl ?_ | ((first | refine Ka ?_ | refine G_regp rfl rfl ?_ | refine Kb ?_ | refine Kc ?_ | refine Kd ?_ | refine Ke ?_); simp only [go_sem]) | refine Kf ?_ | refine Kg ?_ | refine ⟨_,⟨Kq _,(by first | exact map_at hx | (rw [Int.toNat_natCast]; exact map_at hx)),rfl⟩,Kg ?_⟩ | (refine Kp (fun _ => ?_) (fun _ => ?_) <;> try (exfalso; omega)) | ((first | refine Kh ?_ | refine Ki rfl ?_); simp only [or_self,Qs,Qt,Qu,Qv,Qw,Qx,Qy,Qz,Za,go_sem]))
     refine G_freeze 3 ?_
     simp only [go_sem]
     have c6 := ints_eq (gp := gp) (x.kids.map shI) (x.kids.map shI)
     simp only [decide_true] at c6
     have hq : (i : Int) + 1 = ((i + 1 : Nat) : Int) := by omega
     have hik1 : inK .i64 ((i + 1 : Nat) : Int) := by simp [inK,IntKind.min,IntKind.max,IntKind.signed,IntKind.bits]; omega
     have e6 : ((shN x).k != x.k) = false := by simp [shN]
     have e7 : (!((shN x).x.k == x.x.k && ((shN x).x.n == x.x.n && decide ((shN x).x.s = x.x.s)))) = false := by simp [shN]
     repeat' (first | refine Kn rfl ?_ | ((first | refine Ka ?_ | refine G_regp rfl rfl ?_ | refine Kb ?_ | refine Kc ?_ | refine Kd ?_ | refine Ke ?_); simp only [hq,e6,e7,go_sem]) | refine Kf ?_ | refine Kg ?_ | refine ⟨_,c6,Kg ?_⟩ | refine ⟨_,⟨c6,rfl⟩,Kg ?_⟩ | refine ⟨_,⟨Kq _,(by first | exact map_at hx | (rw [Int.toNat_natCast]; exact map_at hx)),rfl⟩,Kg ?_⟩ | refine ⟨_,⟨Kq _,(by first | exact map_at hx2 | (rw [Int.toNat_natCast]; exact map_at hx2)),rfl⟩,Kg ?_⟩ | refine ⟨hik1,?_⟩ | (refine Kp (fun _ => ?_) (fun _ => ?_) <;> try (exfalso; omega)))
     refine Kj (fr 138 [(1,.one (.ptr 0 0)),(2,vb false),(3,vb true),(4,.one (.ptr 1 0)),(6,.one (.ptr 2 0)),(8,vi (i + 1))]) (by (simp only [go_sem]; repeat' (first | refine Kp ?_ ?_ | exact Or.inl rfl | exact Or.inr rfl | rfl))) ?_
     refine Kk 3 (by simp only [List.length_nil,List.length_cons]; decide) (by simp only [go_sem]) (by simp only [go_sem]) ?_
     simp only [go_sem]
     refine Kl ⟨L.length - (i + 1),by omega,i + 1,by omega,rfl,?_,rfl⟩
     exact Nat.zero_le _
   ·obtain rfl : L.length = i := by omega
    repeat' (first | refine Kn rfl ?_ | ((first | refine Ka ?_ | refine G_regp rfl rfl ?_ | refine Kb ?_ | refine Kc ?_ | refine Kd ?_ | refine Ke ?_); simp only [go_sem]) | refine Kf ?_ | refine Kg ?_ | (refine Kp (fun _ => ?_) (fun _ => ?_) <;> try (exfalso; omega)) | ((first | refine Kh ?_ | refine Ki rfl ?_); simp only [or_self,Qs,Qt,Qu,Qv,Qw,Qx,Qy,Qz,Za,go_sem]))
  ·obtain ⟨e2,e3⟩ := w2 hG hH
   rw [hG] at c3
   rw [e2] at c4
   have e4 : ((G.1.l.length : Int) == 200) = true := by simp; omega
   repeat' (first | refine Kn rfl ?_ | ((first | refine Ka ?_ | refine G_regp rfl rfl ?_ | refine Kb ?_ | refine Kc ?_ | refine Kd ?_ | refine Ke ?_); simp only [e4,go_sem]) | refine Kf ?_ | refine Kg ?_ | refine ⟨_,c1,Kg ?_⟩ | refine ⟨_,⟨c1,rfl⟩,Kg ?_⟩ | refine ⟨_,c2,Kg ?_⟩ | refine ⟨_,⟨c2,rfl⟩,Kg ?_⟩ | refine ⟨_,c3,Kg ?_⟩ | refine ⟨_,⟨c3,rfl⟩,Kg ?_⟩ | refine ⟨_,c4,Kg ?_⟩ | refine ⟨_,⟨c4,rfl⟩,Kg ?_⟩ | (refine Kp (fun _ => ?_) (fun _ => ?_) <;> try (exfalso; omega)) | ((first | refine Kh ?_ | refine Ki rfl ?_); simp only [e4,or_self,Qs,Qt,Qu,Qv,Qw,Qx,Qy,Qz,Za,go_sem]))
 ·have e1 : (G.2 != 0) = true := by simpa using hG
  have e2 : (H.2 != 0) = true := by simpa using w1 hG
  repeat' (first | refine Kn rfl ?_ | ((first | refine Ka ?_ | refine G_regp rfl rfl ?_ | refine Kb ?_ | refine Kc ?_ | refine Kd ?_ | refine Ke ?_); simp only [e1,e2,go_sem]) | refine Kf ?_ | refine Kg ?_ | refine ⟨_,c1,Kg ?_⟩ | refine ⟨_,⟨c1,rfl⟩,Kg ?_⟩ | refine ⟨_,c2,Kg ?_⟩ | refine ⟨_,⟨c2,rfl⟩,Kg ?_⟩ | refine ⟨_,c3,Kg ?_⟩ | refine ⟨_,⟨c3,rfl⟩,Kg ?_⟩ | refine ⟨_,c4,Kg ?_⟩ | refine ⟨_,⟨c4,rfl⟩,Kg ?_⟩ | (refine Kp (fun _ => ?_) (fun _ => ?_) <;> try (exfalso; omega)) | ((first | refine Kh ?_ | refine Ki rfl ?_); simp only [e1,e2,or_self,Qs,Qt,Qu,Qv,Qw,Qx,Qy,Qz,Za,go_sem]))
end Go.Fw.L07
