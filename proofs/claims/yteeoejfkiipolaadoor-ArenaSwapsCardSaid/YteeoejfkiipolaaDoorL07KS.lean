/- Chapter 7: graphs cut,keys,as own rows. -/
import Derived.Test.YteeoejfkiipolaaDoorJc
set_option linter.all false
namespace Go.Fw.L07
open Go Go.Fw
open Go.Fw.Sh renaming intro -> Kg
open Go.Fw renaming G_reg -> Ka,VO_chk -> Kb,VO_go -> Kc,VO_gx -> Kd,G_cond -> Ke,VO_end -> Kf,G_fin -> Kh,G_ret -> Ki,G_weak -> Kj,G_drop -> Kk,G_again -> Kl,G_loop -> Km,Gx -> Kn,Gw -> Ko
open And renaming intro -> Kp
open Go.Proofs.Tryd renaming prog -> QP
open Go.Fw.V.one renaming injEq -> Qs
open Go.Fw.V.agg renaming injEq -> Qt
open Go.Fw.V.tup renaming injEq -> Qu
open Go.Fw.A.d renaming injEq -> Qv
open Go.Fw.D.bool renaming injEq -> Qw
open Go.Fw.D.int renaming injEq -> Qx
open Go.Fw.D.str renaming injEq -> Qy
open Go.Fw.D.sl renaming injEq -> Qz
open List.cons renaming injEq -> Za
set_option maxRecDepth 4000
variable {gp : Heap}
theorem keys_own (g : Gr) (i : Int) (hg : Small g) : Tri QP gp 8 [g.v,vi i] [] fun r post => r = .tup [.one (.own 1 (keysOf (ndAt g.l i)).length),vi (atE g.l i)] /\ post = [.dead,.row 3 (keysOf (ndAt g.l i)).length (scs (keysOf (ndAt g.l i)))] := by
 refine f8_tri ?_
 simp only [go_sem]
 obtain ⟨h1,h2⟩ := hg.at i
 have ha := at_node (gp := gp) g i
 generalize ndAt g.l i = x at *
 generalize atE g.l i = e at *
 generalize atN g.l i = n at *
 have hq := pairsOf_len x
 have hk : keysOf x = (pairsOf x).map Pr.key := rfl
 repeat' (first | refine Kn rfl ?_ | ((first | refine Ka ?_ | refine Kb ?_ | refine Kc ?_ | refine Kd ?_ | refine Ke ?_); simp only [f8_r0,f8_r1,f8_r2,f8_r3,f8_r4,f8_r8,f8_r9,f8_r12,f8_r19,go_sem]) | refine Kf ?_ | refine Kg ?_ | refine ⟨_,ha,Sh.intro ?_⟩ | refine ⟨_,⟨ha,rfl⟩,Sh.intro ?_⟩ | refine ⟨_,pairs x n (by omega),Sh.intro ?_⟩ | refine ⟨_,⟨pairs x n (by omega),rfl⟩,Sh.intro ?_⟩ | refine Kp (fun _ => ?_) (fun _ => ?_) | ((first | refine Kh ?_ | refine Ki rfl ?_); simp only [f8_r0,f8_r1,f8_r2,f8_r3,f8_r4,f8_r8,f8_r9,f8_r12,f8_r19,or_self,Qs,Qt,Qu,Qv,Qw,Qx,Qy,Qz,Za,go_sem]))
 rw [hk,List.length_map]
 refine G_row0 8 3 (by decide) rfl ?_
 simp only [go_sem]
 refine Kj (fr 32 [(7,vi e),(8,.one (.own 1 (0 : Nat))),(18,.one (.d (.sl (prs (pairsOf x))))),(19,vi (pairsOf x).length),(20,vi (0 : Nat))]) (by (simp only [go_sem]; repeat' (first | refine Kp ?_ ?_ | exact Or.inl rfl | exact Or.inr rfl | rfl))) ?_
 refine Km (fun mz sz => ∃ i : Nat,i <= (pairsOf x).length /\ mz = (pairsOf x).length - i /\ (0 <= i) /\ sz = ⟨fr 32 [(7,vi e),(8,.one (.own 1 i)),(18,.one (.d (.sl (prs (pairsOf x))))),(19,vi (pairsOf x).length),(20,vi i)],[.cells _,.row 3 i (scs (((pairsOf x).map Pr.key).take i))]⟩) ((pairsOf x).length) ⟨0,Nat.zero_le _,(Nat.sub_zero _).symm,?_,rfl⟩ ?_
 ·exact Nat.zero_le _
 rintro _ _ ⟨i,hi,rfl,-,rfl⟩
 simp only [go_sem]
 by_cases hil : i < (pairsOf x).length
 ·obtain ⟨p,hp⟩ := at_lt hil
  repeat' (first | refine Kn rfl ?_ | ((first | refine Ka ?_ | refine Kb ?_ | refine Kc ?_ | refine Kd ?_ | refine Ke ?_); simp only [f8_r0,f8_r1,f8_r2,f8_r3,f8_r4,f8_r8,f8_r9,f8_r12,f8_r19,go_sem]) | refine Kf ?_ | refine Kg ?_ | refine ⟨_,⟨Int.natCast_nonneg _,(by first | exact map_at hp | (rw [Int.toNat_natCast]; exact map_at hp)),rfl⟩,Sh.intro ?_⟩ | refine Kp (fun _ => ?_) (fun _ => ?_) | ((first | refine Kh ?_ | refine Ki rfl ?_); simp only [f8_r0,f8_r1,f8_r2,f8_r3,f8_r4,f8_r8,f8_r9,f8_r12,f8_r19,or_self,Qs,Qt,Qu,Qv,Qw,Qx,Qy,Qz,Za,go_sem]))
  ·refine ⟨by simp,by simp; omega,by simp [lenMax]; omega,?_⟩
   rw [show scs (((pairsOf x).map Pr.key).take i) ++ [_] = scs (((pairsOf x).map Pr.key).take (i + 1)) from scs_snoc (by rw [List.getElem?_map,hp]; rfl)]
   repeat' (first | refine Kn rfl ?_ | ((first | refine Ka ?_ | refine Kb ?_ | refine Kc ?_ | refine Kd ?_ | refine Ke ?_); simp only [f8_r0,f8_r1,f8_r2,f8_r3,f8_r4,f8_r8,f8_r9,f8_r12,f8_r19,go_sem]) | refine Kf ?_ | refine Kg ?_ | refine Kp (fun _ => ?_) (fun _ => ?_) | ((first | refine Kh ?_ | refine Ki rfl ?_); simp only [f8_r0,f8_r1,f8_r2,f8_r3,f8_r4,f8_r8,f8_r9,f8_r12,f8_r19,or_self,Qs,Qt,Qu,Qv,Qw,Qx,Qy,Qz,Za,go_sem]))
   refine ⟨inK_nat hil (by unfold lenMax; omega),?_⟩
   refine Kj (fr 32 [(7,vi e),(8,.one (.own 1 (i + 1))),(18,.one (.d (.sl (prs (pairsOf x))))),(19,vi (pairsOf x).length),(20,vi (i + 1))]) (by (simp only [go_sem]; repeat' (first | refine Kp ?_ ?_ | exact Or.inl rfl | exact Or.inr rfl | rfl))) ?_
   refine Kk 2 (by simp only [List.length_nil,List.length_cons]; decide) (by simp only [go_sem]) (by simp only [go_sem]) ?_
   simp only [go_sem]
   refine Kl ⟨(pairsOf x).length - (i + 1),by omega,i + 1,by omega,rfl,?_,rfl⟩
   exact Nat.zero_le _
  ·omega
 ·repeat refine Ko rfl ?_
  refine Ka ?_
  simp only [f8_r4,go_sem]
  repeat refine Ko rfl ?_
  refine Ke ?_
  simp only [go_sem]
  refine ⟨fun h => by exfalso; omega,fun _ => G_exit rfl ?_⟩
  obtain rfl : i = (pairsOf x).length := by omega
  rw [List.take_of_length_le (by simp)]
  refine G_freeze 0 ?_
  simp only [go_sem]
  repeat' (first | refine Kn rfl ?_ | ((first | refine Ka ?_ | refine Kb ?_ | refine Kc ?_ | refine Kd ?_ | refine Ke ?_); simp only [f8_r0,f8_r1,f8_r2,f8_r3,f8_r4,f8_r8,f8_r9,f8_r12,f8_r19,go_sem]) | refine Kf ?_ | refine Kg ?_ | refine Kp (fun _ => ?_) (fun _ => ?_) | ((first | refine Kh ?_ | refine Ki rfl ?_); simp only [f8_r0,f8_r1,f8_r2,f8_r3,f8_r4,f8_r8,f8_r9,f8_r12,f8_r19,or_self,Qs,Qt,Qu,Qv,Qw,Qx,Qy,Qz,Za,go_sem]))
set_option maxHeartbeats 1000000 in
theorem cut_own (g : Gr) : Tri QP gp 5 [g.v] [] fun r post => r = .agg [.d (.int .i64 g.root),.own 2 (min g.l.length 201)] /\ post = [.cells [.d (.int .i64 g.root),.own 2 (min g.l.length 201)],.cells [.d (.int .i64 g.root),.own 2 (min g.l.length 201)],.row 6 (min g.l.length 201) (nds g.cut.l)] := by
 refine f5_tri ?_
 simp only [go_sem]
 repeat' (first | refine Kn rfl ?_ | ((first | refine Ka ?_ | refine Kb ?_ | refine Kc ?_ | refine Kd ?_ | refine Ke ?_); simp only [go_sem]) | refine Kf ?_ | refine Kg ?_ | refine Kp (fun _ => ?_) (fun _ => ?_) | ((first | refine Kh ?_ | refine Ki rfl ?_); simp only [or_self,Qs,Qt,Qu,Qv,Qw,Qx,Qy,Qz,Za,go_sem]))
 refine G_row0c 1 1 6 (by decide) rfl rfl ?_
 simp only [go_sem]
 obtain ⟨M,hM⟩ : ∃ M,M = min g.l.length 201 := ⟨_,rfl⟩
 refine Kj (fr 84 [(1,.one (.d (.bx [.int .i64 g.root,.sl (nds g.l)]))),(2,.one (.ptr 0 0)),(3,.one (.ptr 1 0)),(4,vi (0 : Nat))]) (by (simp only [go_sem]; repeat' (first | refine Kp ?_ ?_ | exact Or.inl rfl | exact Or.inr rfl | rfl))) ?_
 refine Km (fun mz sz => ∃ i : Nat,i <= M /\ mz = M - i /\ (0 <= i) /\ sz = ⟨fr 84 [(1,.one (.d (.bx [.int .i64 g.root,.sl (nds g.l)]))),(2,.one (.ptr 0 0)),(3,.one (.ptr 1 0)),(4,vi i)],[.cells [.d (.int .i64 0),.nil],.cells [.d (.int .i64 g.root),.own 2 i],.row 6 i (nds ((g.l.map Nd.cut).take i))]⟩) (M) ⟨0,Nat.zero_le _,(Nat.sub_zero _).symm,?_,rfl⟩ ?_
 ·exact Nat.zero_le _
 rintro _ _ ⟨i,hi,rfl,-,rfl⟩
 simp only [go_sem]
 by_cases hil : i < M
 ·obtain ⟨x,hx⟩ := at_lt (l := g.l) (i := i) (by omega)
  repeat' (first | refine Ko rfl ?_ | ((first | refine Ka ?_ | refine Kb ?_ | refine Kc ?_ | refine Kd ?_ | refine Ke ?_); simp only [go_sem]) | refine Kf ?_ | refine Kg ?_ | refine ⟨_,cut_sc x.x,Sh.intro ?_⟩ | refine ⟨_,⟨cut_sc x.x,rfl⟩,Sh.intro ?_⟩ | refine ⟨_,⟨Int.natCast_nonneg _,(by first | exact map_at hx | (rw [Int.toNat_natCast]; exact map_at hx)),rfl⟩,Sh.intro ?_⟩ | refine Kp (fun _ => ?_) (fun _ => ?_) | ((first | refine Kh ?_ | refine Ki rfl ?_); simp only [or_self,Qs,Qt,Qu,Qv,Qw,Qx,Qy,Qz,Za,go_sem]))
  ·obtain ⟨K,hK⟩ : ∃ K,K = min x.keys.length 12 := ⟨_,rfl⟩
   obtain ⟨L,hL⟩ : ∃ L,L = min x.kids.length 12 := ⟨_,rfl⟩
   have hcut : (Nd.cut x).ds = [.int .i64 x.k,.int .i64 x.x.cut.k,.int .i64 x.x.cut.n,.str x.x.cut.s,.sl (scs ((x.keys.map Sc.cut).take K)),.sl (ints (x.kids.take L))] := by
    have e1 : (x.keys.take 12).map Sc.cut = (x.keys.map Sc.cut).take K := by rw [List.map_take,hK,<- List.length_map (f := Sc.cut),Nat.min_comm,<- List.take_eq_take_min]
    have e2 : x.kids.take 12 = x.kids.take L := by rw [hL,Nat.min_comm,<- List.take_eq_take_min]
    simp only [Nd.cut,e1,e2]
   have hx2 : (g.l.map Nd.cut)[i]? = some x.cut := by rw [List.getElem?_map,hx]; rfl
   have hkl : (x.keys.map Sc.cut).length = x.keys.length := List.length_map _
   refine G_row0c 4 4 3 (by decide) rfl rfl ?_
   simp only [go_sem]
   refine G_row0c 4 5 1 (by decide) rfl rfl ?_
   simp only [go_sem]
   refine Kj (fr 84 [(1,.one (.d (.bx [.int .i64 g.root,.sl (nds g.l)]))),(2,.one (.ptr 0 0)),(3,.one (.ptr 1 0)),(4,vi i),(5,.one (.ptr 3 0)),(6,.one (.ptr 4 0)),(7,vi (0 : Nat))]) (by (simp only [go_sem]; repeat' (first | refine Kp ?_ ?_ | exact Or.inl rfl | exact Or.inr rfl | rfl))) ?_
   refine Km (fun mz sz => ∃ j : Nat,j <= K /\ mz = K - j /\ (0 <= j) /\ sz = ⟨fr 84 [(1,.one (.d (.bx [.int .i64 g.root,.sl (nds g.l)]))),(2,.one (.ptr 0 0)),(3,.one (.ptr 1 0)),(4,vi i),(5,.one (.ptr 3 0)),(6,.one (.ptr 4 0)),(7,vi j)],[.cells [.d (.int .i64 0),.nil],.cells [.d (.int .i64 g.root),.own 2 i],.row 6 i (nds ((g.l.map Nd.cut).take i)),.cells x.as,.cells [.d (.int .i64 x.k),.d (.int .i64 x.x.cut.k),.d (.int .i64 x.x.cut.n),.d (.str x.x.cut.s),.own 5 j,.own 6 0],.row 3 j (scs ((x.keys.map Sc.cut).take j)),.row 1 0 []]⟩) (K) ⟨0,Nat.zero_le _,(Nat.sub_zero _).symm,?_,rfl⟩ ?_
   ·exact Nat.zero_le _
   ·rintro _ _ ⟨j,hj,rfl,-,rfl⟩
    simp only [go_sem]
    by_cases hjl : j < K
    ·obtain ⟨y,hy⟩ := at_lt (l := x.keys) (i := j) (by omega)
     have hy2 : (x.keys.map Sc.cut)[j]? = some y.cut := by rw [List.getElem?_map,hy]; rfl
     repeat' (first | refine Ko rfl ?_ | ((first | refine Ka ?_ | refine Kb ?_ | refine Kc ?_ | refine Kd ?_ | refine Ke ?_); simp only [go_sem]) | refine Kf ?_ | refine Kg ?_ | refine ⟨_,cut_sc y,Sh.intro ?_⟩ | refine ⟨_,⟨cut_sc y,rfl⟩,Sh.intro ?_⟩ | refine ⟨_,⟨Int.natCast_nonneg _,(by first | exact map_at hy | (rw [Int.toNat_natCast]; exact map_at hy)),rfl⟩,Sh.intro ?_⟩ | refine Kp (fun _ => ?_) (fun _ => ?_) | ((first | refine Kh ?_ | refine Ki rfl ?_); simp only [or_self,Qs,Qt,Qu,Qv,Qw,Qx,Qy,Qz,Za,go_sem]))
     ·refine ⟨by simp,by simp; omega,by simp [lenMax]; omega,?_⟩
      rw [show scs ((x.keys.map Sc.cut).take j) ++ [_] = scs ((x.keys.map Sc.cut).take (j + 1)) from scs_snoc hy2]
      repeat' (first | refine Ko rfl ?_ | ((first | refine Ka ?_ | refine Kb ?_ | refine Kc ?_ | refine Kd ?_ | refine Ke ?_); simp only [go_sem]) | refine Kf ?_ | refine Kg ?_ | refine Kp (fun _ => ?_) (fun _ => ?_) | ((first | refine Kh ?_ | refine Ki rfl ?_); simp only [or_self,Qs,Qt,Qu,Qv,Qw,Qx,Qy,Qz,Za,go_sem]))
      refine ⟨inK_nat hjl (by unfold lenMax; omega),?_⟩
      refine Kj (fr 84 [(1,.one (.d (.bx [.int .i64 g.root,.sl (nds g.l)]))),(2,.one (.ptr 0 0)),(3,.one (.ptr 1 0)),(4,vi i),(5,.one (.ptr 3 0)),(6,.one (.ptr 4 0)),(7,vi (j + 1))]) (by (simp only [go_sem]; repeat' (first | refine Kp ?_ ?_ | exact Or.inl rfl | exact Or.inr rfl | rfl))) ?_
      refine Kl ⟨K - (j + 1),by omega,j + 1,by omega,rfl,?_,rfl⟩
      exact Nat.zero_le _
     all_goals (exfalso; omega)
    ·obtain rfl : K = j := by omega
     repeat' (first | refine Ko rfl ?_ | ((first | refine Ka ?_ | refine Kb ?_ | refine Kc ?_ | refine Kd ?_ | refine Ke ?_); simp only [go_sem]) | refine Kf ?_ | refine Kg ?_ | refine Kp (fun _ => ?_) (fun _ => ?_) | ((first | refine Kh ?_ | refine Ki rfl ?_); simp only [or_self,Qs,Qt,Qu,Qv,Qw,Qx,Qy,Qz,Za,go_sem]))
     all_goals first | (exfalso; omega) | skip
     all_goals
      refine G_exit rfl ?_
      repeat' (first | refine Ko rfl ?_ | ((first | refine Ka ?_ | refine Kb ?_ | refine Kc ?_ | refine Kd ?_ | refine Ke ?_); simp only [go_sem]) | refine Kf ?_ | refine Kg ?_ | refine Kp (fun _ => ?_) (fun _ => ?_) | ((first | refine Kh ?_ | refine Ki rfl ?_); simp only [or_self,Qs,Qt,Qu,Qv,Qw,Qx,Qy,Qz,Za,go_sem]))
      refine Kj (fr 84 [(1,.one (.d (.bx [.int .i64 g.root,.sl (nds g.l)]))),(2,.one (.ptr 0 0)),(3,.one (.ptr 1 0)),(4,vi i),(5,.one (.ptr 3 0)),(6,.one (.ptr 4 0)),(8,vi (0 : Nat))]) (by (simp only [go_sem]; repeat' (first | refine Kp ?_ ?_ | exact Or.inl rfl | exact Or.inr rfl | rfl))) ?_
      refine Km (fun mz sz => ∃ j : Nat,j <= L /\ mz = L - j /\ (0 <= j) /\ sz = ⟨fr 84 [(1,.one (.d (.bx [.int .i64 g.root,.sl (nds g.l)]))),(2,.one (.ptr 0 0)),(3,.one (.ptr 1 0)),(4,vi i),(5,.one (.ptr 3 0)),(6,.one (.ptr 4 0)),(8,vi j)],[.cells [.d (.int .i64 0),.nil],.cells [.d (.int .i64 g.root),.own 2 i],.row 6 i (nds ((g.l.map Nd.cut).take i)),.cells x.as,.cells [.d (.int .i64 x.k),.d (.int .i64 x.x.cut.k),.d (.int .i64 x.x.cut.n),.d (.str x.x.cut.s),.own 5 K,.own 6 j],.row 3 K (scs ((x.keys.map Sc.cut).take K)),.row 1 j (ints (x.kids.take j))]⟩) (L) ⟨0,Nat.zero_le _,(Nat.sub_zero _).symm,?_,rfl⟩ ?_
      ·exact Nat.zero_le _
      rintro _ _ ⟨j,hj,rfl,-,rfl⟩
      simp only [go_sem]
      by_cases hjl : j < L
      ·obtain ⟨y,hy⟩ := at_lt (l := x.kids) (i := j) (by omega)
       repeat' (first | refine Ko rfl ?_ | ((first | refine Ka ?_ | refine Kb ?_ | refine Kc ?_ | refine Kd ?_ | refine Ke ?_); simp only [go_sem]) | refine Kf ?_ | refine Kg ?_ | refine ⟨_,⟨Int.natCast_nonneg _,(by first | exact map_at hy | (rw [Int.toNat_natCast]; exact map_at hy)),rfl⟩,Sh.intro ?_⟩ | refine Kp (fun _ => ?_) (fun _ => ?_) | ((first | refine Kh ?_ | refine Ki rfl ?_); simp only [or_self,Qs,Qt,Qu,Qv,Qw,Qx,Qy,Qz,Za,go_sem]))
       ·refine ⟨by simp,by simp; omega,by simp [lenMax]; omega,?_⟩
        rw [show ints (x.kids.take j) ++ [_] = ints (x.kids.take (j + 1)) from ints_snoc hy]
        repeat' (first | refine Ko rfl ?_ | ((first | refine Ka ?_ | refine Kb ?_ | refine Kc ?_ | refine Kd ?_ | refine Ke ?_); simp only [go_sem]) | refine Kf ?_ | refine Kg ?_ | refine Kp (fun _ => ?_) (fun _ => ?_) | ((first | refine Kh ?_ | refine Ki rfl ?_); simp only [or_self,Qs,Qt,Qu,Qv,Qw,Qx,Qy,Qz,Za,go_sem]))
        refine ⟨inK_nat hjl (by unfold lenMax; omega),?_⟩
        refine Kj (fr 84 [(1,.one (.d (.bx [.int .i64 g.root,.sl (nds g.l)]))),(2,.one (.ptr 0 0)),(3,.one (.ptr 1 0)),(4,vi i),(5,.one (.ptr 3 0)),(6,.one (.ptr 4 0)),(8,vi (j + 1))]) (by (simp only [go_sem]; repeat' (first | refine Kp ?_ ?_ | exact Or.inl rfl | exact Or.inr rfl | rfl))) ?_
        refine Kl ⟨L - (j + 1),by omega,j + 1,by omega,rfl,?_,rfl⟩
        exact Nat.zero_le _
       all_goals (exfalso; omega)
      ·obtain rfl : L = j := by omega
       repeat' (first | refine Ko rfl ?_ | ((first | refine Ka ?_ | refine Kb ?_ | refine Kc ?_ | refine Kd ?_ | refine Ke ?_); simp only [go_sem]) | refine Kf ?_ | refine Kg ?_ | refine Kp (fun _ => ?_) (fun _ => ?_) | ((first | refine Kh ?_ | refine Ki rfl ?_); simp only [or_self,Qs,Qt,Qu,Qv,Qw,Qx,Qy,Qz,Za,go_sem]))
       all_goals first | (exfalso; omega) | skip
       all_goals
        refine G_exit rfl ?_
        refine G_freeze 5 ?_
        simp only [go_sem]
        refine G_freeze 6 ?_
        simp only [go_sem]
        repeat' (first | refine Ko rfl ?_ | ((first | refine Ka ?_ | refine Kb ?_ | refine Kc ?_ | refine Kd ?_ | refine Ke ?_); simp only [go_sem]) | refine Kf ?_ | refine Kg ?_ | refine Kp (fun _ => ?_) (fun _ => ?_) | ((first | refine Kh ?_ | refine Ki rfl ?_); simp only [or_self,Qs,Qt,Qu,Qv,Qw,Qx,Qy,Qz,Za,go_sem]))
        refine ⟨by simp,by simp; omega,by simp [lenMax]; omega,?_⟩
        rw [show nds ((g.l.map Nd.cut).take i) ++ [_] = nds ((g.l.map Nd.cut).take (i + 1)) from by rw [<- hcut]; exact nds_snoc hx2]
        repeat' (first | refine Ko rfl ?_ | ((first | refine Ka ?_ | refine Kb ?_ | refine Kc ?_ | refine Kd ?_ | refine Ke ?_); simp only [go_sem]) | refine Kf ?_ | refine Kg ?_ | refine Kp (fun _ => ?_) (fun _ => ?_) | ((first | refine Kh ?_ | refine Ki rfl ?_); simp only [or_self,Qs,Qt,Qu,Qv,Qw,Qx,Qy,Qz,Za,go_sem]))
        refine ⟨inK_nat hil (by unfold lenMax; omega),?_⟩
        refine Kj (fr 84 [(1,.one (.d (.bx [.int .i64 g.root,.sl (nds g.l)]))),(2,.one (.ptr 0 0)),(3,.one (.ptr 1 0)),(4,vi (i + 1))]) (by (simp only [go_sem]; repeat' (first | refine Kp ?_ ?_ | exact Or.inl rfl | exact Or.inr rfl | rfl))) ?_
        refine Kk 3 (by simp only [List.length_nil,List.length_cons]; decide) (by simp only [go_sem]) (by simp only [go_sem]) ?_
        simp only [go_sem]
        refine Kl ⟨M - (i + 1),by omega,i + 1,by omega,rfl,?_,rfl⟩
        exact Nat.zero_le _
  all_goals (exfalso; omega)
 ·obtain rfl : M = i := by omega
  repeat' (first | refine Ko rfl ?_ | ((first | refine Ka ?_ | refine Kb ?_ | refine Kc ?_ | refine Kd ?_ | refine Ke ?_); simp only [go_sem]) | refine Kf ?_ | refine Kg ?_ | refine Kp (fun _ => ?_) (fun _ => ?_) | ((first | refine Kh ?_ | refine Ki rfl ?_); simp only [or_self,Qs,Qt,Qu,Qv,Qw,Qx,Qy,Qz,Za,go_sem]))
  all_goals first | (exfalso; omega) | skip
  all_goals
   refine G_exit rfl ?_
   repeat' (first | refine Ko rfl ?_ | ((first | refine Ka ?_ | refine Kb ?_ | refine Kc ?_ | refine Kd ?_ | refine Ke ?_); simp only [go_sem]) | refine Kf ?_ | refine Kg ?_ | refine Kp (fun _ => ?_) (fun _ => ?_) | ((first | refine Kh ?_ | refine Ki rfl ?_); simp only [or_self,Qs,Qt,Qu,Qv,Qw,Qx,Qy,Qz,Za,go_sem]))
   have e1 : (g.l.take 201).map Nd.cut = (g.l.map Nd.cut).take M := by rw [List.map_take,hM,<- List.length_map (f := Nd.cut),Nat.min_comm,<- List.take_eq_take_min]
   rw [<- hM]
   exact ⟨rfl,rfl,rfl,by rw [<- e1]; rfl⟩
end Go.Fw.L07
