/- Chapter 7: kids as own rows. -/
import Derived.Test.YteeoejfkiipolaaDoorL07R
set_option linter.all false
namespace Go.Fw
open Go
section
variable {S : Sx} {Y : Dyn} {k : List MI} {s : St} {a : Act} {w w' : World} {H : Heap} {an : Anc} {F : Nat -> Nat -> Prop} {ms : List Nat}
theorem SatX.nil_row_v (h : SatX S Y s a w H an F ms) {u : Value} (hu : ∃ A,u = .slice A 0 0) (sz ver : Nat) (hsz : 0 < sz) :
  SatX S Y { s with own := s.own ++ [.row sz ver []] } a w H (an.put s.own.length (ver,u)) (fun j b => if j = s.own.length then False else F j b) ms := by
 obtain ⟨A,rfl⟩ := hu
 exact h.add_own (WKeep.refl w _) (fun _ hb => hb.elim) ⟨rfl,⟨_,_,_,rfl⟩,hsz,by simp,by simp [lenMax],.inl ⟨rfl,⟨_,rfl⟩,fun _ hb => hb⟩⟩
theorem G_row0v (t sz ver : Nat) (hsz : 0 < sz) (ht : getV s.fr t = .one .nil) (h : G S k ⟨setV s.fr t (.one (.own s.own.length ver)),s.own ++ [.row sz ver []]⟩) : G S k s := by
 rintro Y a w ⟨H,an,F,ms,hs⟩
 obtain ⟨u,hu,hd⟩ := hs.fr.get (getV_some _ _ _ ht (by simp))
 have hd : ∃ A,u = .slice A 0 0 := hd
 have h1 := hs.nil_row_v hd sz ver hsz
 refine h Y a w ⟨H,_,_,ms,h1.reframe ?_⟩
 have := All2_setV s.fr a.tmps.toList t (.one (.own s.own.length ver)) u h1.fr (by
  obtain ⟨A,rfl⟩ := hd
  exact ⟨rfl,(ver,.slice A 0 0),by simp [Anc.put],Nat.le_refl _,fun _ => rfl⟩)
 rwa [set_at hu] at this
end
end Go.Fw
namespace Go.Fw.L07
open Go Go.Fw
open Go.Fw.Sh renaming intro -> Kg
open Go.Fw renaming G_reg -> Ka,VO_chk -> Kb,VO_go -> Kc,VO_gx -> Kd,G_cond -> Ke,VO_end -> Kf,G_fin -> Kh,G_ret -> Ki,G_weak -> Kj,G_drop -> Kk,G_again -> Kl,G_loop -> Km,Gx -> Kn,Gw -> Ko
open And renaming intro -> Kp
open Go.Proofs.Tryd renaming prog -> QP
open Nat renaming reduceAdd -> Qa,reduceSub -> Qb,reduceMul -> Qc,reduceLeDiff -> Qd,reduceLT -> Qe,reduceEqDiff -> Qf
open Int renaming reduceToNat -> Qg,reduceLT -> Qh,reduceLE -> Qi,reduceGT -> Qj,reduceGE -> Qk,reduceEq -> Ql,reduceNe -> Qm,reduceBEq -> Qn,reduceBNe -> Qo,reduceAdd -> Qp,reduceSub -> Qq,reduceNeg -> Qr
open Go.Fw.V.one renaming injEq -> Qs
open Go.Fw.V.agg renaming injEq -> Qt
open Go.Fw.V.tup renaming injEq -> Qu
open Go.Fw.A.d renaming injEq -> Qv
open Go.Fw.D.bool renaming injEq -> Qw
open Go.Fw.D.int renaming injEq -> Qx
open Go.Fw.D.str renaming injEq -> Qy
open Go.Fw.D.sl renaming injEq -> Qz
open List.cons renaming injEq -> Za
set_option maxRecDepth 4000
variable {gp : Heap}
theorem clone_own (l : List Int) (hl : l.length < 1000000) : Tri QP gp 17 [.one (.d (.sl (ints l)))] [] fun r post => r = .one (.own 0 1) /\ post = [.row 1 1 (ints l)] := by
 refine f17_tri ?_
 simp only [go_sem]
 cases l with
 | nil =>
  refine G_sl0 0 rfl fun q c => ?_
  cases q with
  | none =>
   simp only [go_sem]
   repeat' (first | refine Kn rfl ?_ | ((first | refine Ka ?_ | refine Kb ?_ | refine Kc ?_ | refine Kd ?_ | refine Ke ?_); simp only [f17_r0,f17_r1,go_sem]) | refine Kf ?_ | refine Kg ?_ | refine Kp (fun _ => ?_) (fun _ => ?_) | ((first | refine Kh ?_ | refine Ki rfl ?_); simp only [f17_r0,f17_r1,or_self,Qs,Qt,Qu,Qv,Qw,Qx,Qy,Qz,Za,go_sem]))
   repeat' (first | refine Kn rfl ?_ | ((first | refine Ka ?_ | refine Kb ?_ | refine Kc ?_ | refine Kd ?_); simp only [f17_r2,go_sem]) | refine Kf ?_ | refine Kg ?_)
   refine G_row0v 2 1 1 (by decide) rfl ?_
   simp only [go_sem]
   repeat' (first | refine Kn rfl ?_ | ((first | refine Ka ?_ | refine Kb ?_ | refine Kc ?_ | refine Kd ?_ | refine Ke ?_); simp only [f17_r0,f17_r1,f17_r2,f17_r8,go_sem]) | refine Kf ?_ | refine Kg ?_ | refine Kp (fun _ => ?_) (fun _ => ?_) | ((first | refine Kh ?_ | refine Ki rfl ?_); simp only [f17_r0,f17_r1,f17_r2,f17_r8,or_self,Qs,Qt,Qu,Qv,Qw,Qx,Qy,Qz,Za,go_sem]))
  | some q =>
   simp only [go_sem]
   refine G_seq ?_
   repeat' (first | refine Kn rfl ?_ | ((first | refine Ka ?_ | refine Kb ?_ | refine Kc ?_ | refine Kd ?_ | refine Ke ?_); simp only [f17_r0,f17_r1,go_sem]) | refine Kf ?_ | refine Kg ?_ | refine Kp (fun _ => ?_) (fun _ => ?_) | ((first | refine Kh ?_ | refine Ki rfl ?_); simp only [f17_r0,f17_r1,or_self,Qs,Qt,Qu,Qv,Qw,Qx,Qy,Qz,Za,go_sem]))
   refine G_unraw 0 rfl ?_
   simp only [go_sem]
   repeat' (first | refine Kn rfl ?_ | ((first | refine Ka ?_ | refine Kb ?_ | refine Kc ?_ | refine Kd ?_ | refine Ke ?_); simp only [f17_r0,f17_r1,f17_r2,f17_r8,go_sem]) | refine Kf ?_ | refine Kg ?_ | refine Kp (fun _ => ?_) (fun _ => ?_) | ((first | refine Kh ?_ | refine Ki rfl ?_); simp only [f17_r0,f17_r1,f17_r2,f17_r8,or_self,Qs,Qt,Qu,Qv,Qw,Qx,Qy,Qz,Za,go_sem]))
   refine ⟨by simp,by simp [lenMax],?_⟩
   repeat' (first | refine Kn rfl ?_ | ((first | refine Ka ?_ | refine Kb ?_ | refine Kc ?_ | refine Kd ?_ | refine Ke ?_); simp only [f17_r0,f17_r1,f17_r2,f17_r8,go_sem]) | refine Kf ?_ | refine Kg ?_ | refine Kp (fun _ => ?_) (fun _ => ?_) | ((first | refine Kh ?_ | refine Ki rfl ?_); simp only [f17_r0,f17_r1,f17_r2,f17_r8,or_self,Qs,Qt,Qu,Qv,Qw,Qx,Qy,Qz,Za,go_sem]))
 | cons x l =>
  simp only [go_sem]
  repeat' (first | refine Kn rfl ?_ | ((first | refine Ka ?_ | refine Kb ?_ | refine Kc ?_ | refine Kd ?_ | refine Ke ?_); simp only [f17_r0,f17_r1,f17_r2,f17_r8,go_sem]) | refine Kf ?_ | refine Kg ?_ | refine Kp (fun _ => ?_) (fun _ => ?_) | ((first | refine Kh ?_ | refine Ki rfl ?_); simp only [f17_r0,f17_r1,f17_r2,f17_r8,or_self,Qs,Qt,Qu,Qv,Qw,Qx,Qy,Qz,Za,go_sem]))
  refine ⟨by simp,by simp at hl; omega,by simp [lenMax] at hl ⊢; omega,?_⟩
  repeat' (first | refine Kn rfl ?_ | ((first | refine Ka ?_ | refine Kb ?_ | refine Kc ?_ | refine Kd ?_ | refine Ke ?_); simp only [f17_r0,f17_r1,f17_r2,f17_r8,go_sem]) | refine Kf ?_ | refine Kg ?_ | refine Kp (fun _ => ?_) (fun _ => ?_) | ((first | refine Kh ?_ | refine Ki rfl ?_); simp only [f17_r0,f17_r1,f17_r2,f17_r8,or_self,Qs,Qt,Qu,Qv,Qw,Qx,Qy,Qz,Za,go_sem]))
def kidV (x : Nd) : Nat := if x.k = 1 then 1 else (pairsOf x).length
theorem kids_own (g : Gr) (i : Int) (hg : Small g) : Tri QP gp 7 [g.v,vi i] [] fun r post => r = .tup [.one (.own 1 (kidV (ndAt g.l i))),vi (atE g.l i)] /\ post = [.dead,.row 1 (kidV (ndAt g.l i)) (ints (kidsOf (ndAt g.l i)))] := by
 refine f7_tri ?_
 simp only [go_sem]
 refine G_hint 28 ?_
 simp only [go_sem]
 obtain ⟨h1,h2⟩ := hg.at i
 have hz := atE_zero g.l i
 have ha := at_node (gp := gp) g i
 generalize ndAt g.l i = x at *
 generalize atE g.l i = e at *
 generalize atN g.l i = n at *
 have hq := pairsOf_len x
 repeat' (first | refine Kn rfl ?_ | ((first | refine Ka ?_ | refine Kb ?_ | refine Kc ?_ | refine Kd ?_ | refine Ke ?_); simp only [f7_r0,f7_r1,f7_r2,f7_r3,f7_r9,f7_r10,f7_r11,f7_r15,f7_r16,f7_r19,f7_r26,go_sem]) | refine Kf ?_ | refine Kg ?_ | refine ⟨_,ha,Sh.intro ?_⟩ | refine ⟨_,⟨ha,rfl⟩,Sh.intro ?_⟩ | refine ⟨_,pairs x n (by omega),Sh.intro ?_⟩ | refine ⟨_,⟨pairs x n (by omega),rfl⟩,Sh.intro ?_⟩ | refine Kp (fun _ => ?_) (fun _ => ?_) | ((first | refine Kh ?_ | refine Ki rfl ?_); simp only [f7_r0,f7_r1,f7_r2,f7_r3,f7_r9,f7_r10,f7_r11,f7_r15,f7_r16,f7_r19,f7_r26,or_self,Qs,Qt,Qu,Qv,Qw,Qx,Qy,Qz,Za,go_sem]))
 ·rename_i h
  have h : x.k = 1 := by simpa using h
  have hk : kidsOf x = x.kids := by unfold kidsOf; rw [if_pos h]
  have hv : kidV x = 1 := by unfold kidV; rw [if_pos h]
  rw [hk,hv]
  refine Or.inr ⟨[],.one (.own 0 1),[.row 1 1 (ints x.kids)],(by simp only [CallR,rnVs,rnV,rnA,rnAs,rn0,rn0s,posN,rnCs,rnC,getC,List.isEmpty_nil,reduceCtorEq,↓reduceIte,Qa,Qb,Qc,Qd,Qe,Qf,Qg,Qh,Qi,Qj,Qk,Ql,Qm,Qn,Qo,Qp,Qq,Qr]; simp only [go_sem]; exact ⟨f17_ok,clone_own x.kids (by omega)⟩),Sh.intro ?_⟩
  simp only [go_sem]
  refine Kk 2 (by simp only [List.length_nil,List.length_cons]; decide) (by simp only [go_sem]) (by simp only [go_sem]) ?_
  simp only [go_sem]
  refine G_freeze 0 ?_
  simp only [go_sem]
  repeat' (first | refine Kn rfl ?_ | ((first | refine Ka ?_ | refine Kb ?_ | refine Kc ?_ | refine Kd ?_ | refine Ke ?_); simp only [f7_r0,f7_r1,f7_r2,f7_r3,f7_r9,f7_r10,f7_r11,f7_r15,f7_r16,f7_r19,f7_r26,go_sem]) | refine Kf ?_ | refine Kg ?_ | refine Kp (fun _ => ?_) (fun _ => ?_) | ((first | refine Kh ?_ | refine Ki rfl ?_); simp only [f7_r0,f7_r1,f7_r2,f7_r3,f7_r9,f7_r10,f7_r11,f7_r15,f7_r16,f7_r19,f7_r26,or_self,Qs,Qt,Qu,Qv,Qw,Qx,Qy,Qz,Za,go_sem]))
 ·rename_i h
  have h : ¬ x.k = 1 := by simpa using h
  have hk : kidsOf x = (pairsOf x).map Pr.kid := by unfold kidsOf; rw [if_neg h]
  have hv : kidV x = (pairsOf x).length := by unfold kidV; rw [if_neg (h)]
  rw [hk,hv]
  refine G_row0 8 1 (by decide) rfl ?_
  simp only [go_sem]
  refine Kj (fr 45 [(7,vi e),(8,.one (.own 1 (0 : Nat))),(31,.one (.d (.sl (prs (pairsOf x))))),(32,vi (pairsOf x).length),(33,vi (0 : Nat))]) (by (simp only [go_sem]; repeat' (first | refine Kp ?_ ?_ | exact Or.inl rfl | exact Or.inr rfl | rfl))) ?_
  refine Km (fun mz sz => ∃ i : Nat,i <= (pairsOf x).length /\ mz = (pairsOf x).length - i /\ (0 <= i) /\ sz = ⟨fr 45 [(7,vi e),(8,.one (.own 1 i)),(31,.one (.d (.sl (prs (pairsOf x))))),(32,vi (pairsOf x).length),(33,vi i)],[.cells _,.row 1 i (ints (((pairsOf x).map Pr.kid).take i))]⟩) ((pairsOf x).length) ⟨0,Nat.zero_le _,(Nat.sub_zero _).symm,?_,rfl⟩ ?_
  ·exact Nat.zero_le _
  rintro _ _ ⟨i,hi,rfl,-,rfl⟩
  simp only [go_sem]
  by_cases hil : i < (pairsOf x).length
  ·obtain ⟨p,hp⟩ := at_lt hil
   repeat' (first | refine Kn rfl ?_ | ((first | refine Ka ?_ | refine Kb ?_ | refine Kc ?_ | refine Kd ?_ | refine Ke ?_); simp only [f7_r0,f7_r1,f7_r2,f7_r3,f7_r9,f7_r10,f7_r11,f7_r15,f7_r16,f7_r19,f7_r26,go_sem]) | refine Kf ?_ | refine Kg ?_ | refine ⟨_,⟨Int.natCast_nonneg _,(by first | exact map_at hp | (rw [Int.toNat_natCast]; exact map_at hp)),rfl⟩,Sh.intro ?_⟩ | refine Kp (fun _ => ?_) (fun _ => ?_) | ((first | refine Kh ?_ | refine Ki rfl ?_); simp only [f7_r0,f7_r1,f7_r2,f7_r3,f7_r9,f7_r10,f7_r11,f7_r15,f7_r16,f7_r19,f7_r26,or_self,Qs,Qt,Qu,Qv,Qw,Qx,Qy,Qz,Za,go_sem]))
   ·refine ⟨by simp,by simp; omega,by simp [lenMax]; omega,?_⟩
    rw [show ints (((pairsOf x).map Pr.kid).take i) ++ [_] = ints (((pairsOf x).map Pr.kid).take (i + 1)) from ints_snoc (by rw [List.getElem?_map,hp]; rfl)]
    repeat' (first | refine Kn rfl ?_ | ((first | refine Ka ?_ | refine Kb ?_ | refine Kc ?_ | refine Kd ?_ | refine Ke ?_); simp only [f7_r0,f7_r1,f7_r2,f7_r3,f7_r9,f7_r10,f7_r11,f7_r15,f7_r16,f7_r19,f7_r26,go_sem]) | refine Kf ?_ | refine Kg ?_ | refine Kp (fun _ => ?_) (fun _ => ?_) | ((first | refine Kh ?_ | refine Ki rfl ?_); simp only [f7_r0,f7_r1,f7_r2,f7_r3,f7_r9,f7_r10,f7_r11,f7_r15,f7_r16,f7_r19,f7_r26,or_self,Qs,Qt,Qu,Qv,Qw,Qx,Qy,Qz,Za,go_sem]))
    refine ⟨inK_nat hil (by unfold lenMax; omega),?_⟩
    refine Kj (fr 45 [(7,vi e),(8,.one (.own 1 (i + 1))),(31,.one (.d (.sl (prs (pairsOf x))))),(32,vi (pairsOf x).length),(33,vi (i + 1))]) (by (simp only [go_sem]; repeat' (first | refine Kp ?_ ?_ | exact Or.inl rfl | exact Or.inr rfl | rfl))) ?_
    refine Kk 2 (by simp only [List.length_nil,List.length_cons]; decide) (by simp only [go_sem]) (by simp only [go_sem]) ?_
    simp only [go_sem]
    refine Kl ⟨(pairsOf x).length - (i + 1),by omega,i + 1,by omega,rfl,?_,rfl⟩
    exact Nat.zero_le _
   ·omega
  ·repeat refine Ko rfl ?_
   refine Ka ?_
   simp only [f7_r11,go_sem]
   repeat refine Ko rfl ?_
   refine Ke ?_
   simp only [go_sem]
   refine ⟨fun h => by exfalso; omega,fun _ => G_exit rfl ?_⟩
   obtain rfl : i = (pairsOf x).length := by omega
   rw [List.take_of_length_le (by simp)]
   refine G_freeze 0 ?_
   simp only [go_sem]
   repeat' (first | refine Kn rfl ?_ | ((first | refine Ka ?_ | refine Kb ?_ | refine Kc ?_ | refine Kd ?_ | refine Ke ?_); simp only [f7_r0,f7_r1,f7_r2,f7_r3,f7_r9,f7_r10,f7_r11,f7_r15,f7_r16,f7_r19,f7_r26,go_sem]) | refine Kf ?_ | refine Kg ?_ | refine Kp (fun _ => ?_) (fun _ => ?_) | ((first | refine Kh ?_ | refine Ki rfl ?_); simp only [f7_r0,f7_r1,f7_r2,f7_r3,f7_r9,f7_r10,f7_r11,f7_r15,f7_r16,f7_r19,f7_r26,or_self,Qs,Qt,Qu,Qv,Qw,Qx,Qy,Qz,Za,go_sem]))
 ·rename_i h
  have h : x = Nd.zero := hz (by intro h2; simp [h2] at h)
  have hk : kidsOf x = (pairsOf x).map Pr.kid := by rw [h]; rfl
  have hv : kidV x = (pairsOf x).length := by unfold kidV; rw [if_neg (by rw [h]; decide)]
  rw [hk,hv]
  refine G_row0 8 1 (by decide) rfl ?_
  simp only [go_sem]
  refine Kj (fr 45 [(7,vi e),(8,.one (.own 1 (0 : Nat))),(31,.one (.d (.sl (prs (pairsOf x))))),(32,vi (pairsOf x).length),(33,vi (0 : Nat))]) (by (simp only [go_sem]; repeat' (first | refine Kp ?_ ?_ | exact Or.inl rfl | exact Or.inr rfl | rfl))) ?_
  refine Km (fun mz sz => ∃ i : Nat,i <= (pairsOf x).length /\ mz = (pairsOf x).length - i /\ (0 <= i) /\ sz = ⟨fr 45 [(7,vi e),(8,.one (.own 1 i)),(31,.one (.d (.sl (prs (pairsOf x))))),(32,vi (pairsOf x).length),(33,vi i)],[.cells _,.row 1 i (ints (((pairsOf x).map Pr.kid).take i))]⟩) ((pairsOf x).length) ⟨0,Nat.zero_le _,(Nat.sub_zero _).symm,?_,rfl⟩ ?_
  ·exact Nat.zero_le _
  rintro _ _ ⟨i,hi,rfl,-,rfl⟩
  simp only [go_sem]
  by_cases hil : i < (pairsOf x).length
  ·obtain ⟨p,hp⟩ := at_lt hil
   repeat' (first | refine Kn rfl ?_ | ((first | refine Ka ?_ | refine Kb ?_ | refine Kc ?_ | refine Kd ?_ | refine Ke ?_); simp only [f7_r0,f7_r1,f7_r2,f7_r3,f7_r9,f7_r10,f7_r11,f7_r15,f7_r16,f7_r19,f7_r26,go_sem]) | refine Kf ?_ | refine Kg ?_ | refine ⟨_,⟨Int.natCast_nonneg _,(by first | exact map_at hp | (rw [Int.toNat_natCast]; exact map_at hp)),rfl⟩,Sh.intro ?_⟩ | refine Kp (fun _ => ?_) (fun _ => ?_) | ((first | refine Kh ?_ | refine Ki rfl ?_); simp only [f7_r0,f7_r1,f7_r2,f7_r3,f7_r9,f7_r10,f7_r11,f7_r15,f7_r16,f7_r19,f7_r26,or_self,Qs,Qt,Qu,Qv,Qw,Qx,Qy,Qz,Za,go_sem]))
   ·refine ⟨by simp,by simp; omega,by simp [lenMax]; omega,?_⟩
    rw [show ints (((pairsOf x).map Pr.kid).take i) ++ [_] = ints (((pairsOf x).map Pr.kid).take (i + 1)) from ints_snoc (by rw [List.getElem?_map,hp]; rfl)]
    repeat' (first | refine Kn rfl ?_ | ((first | refine Ka ?_ | refine Kb ?_ | refine Kc ?_ | refine Kd ?_ | refine Ke ?_); simp only [f7_r0,f7_r1,f7_r2,f7_r3,f7_r9,f7_r10,f7_r11,f7_r15,f7_r16,f7_r19,f7_r26,go_sem]) | refine Kf ?_ | refine Kg ?_ | refine Kp (fun _ => ?_) (fun _ => ?_) | ((first | refine Kh ?_ | refine Ki rfl ?_); simp only [f7_r0,f7_r1,f7_r2,f7_r3,f7_r9,f7_r10,f7_r11,f7_r15,f7_r16,f7_r19,f7_r26,or_self,Qs,Qt,Qu,Qv,Qw,Qx,Qy,Qz,Za,go_sem]))
    refine ⟨inK_nat hil (by unfold lenMax; omega),?_⟩
    refine Kj (fr 45 [(7,vi e),(8,.one (.own 1 (i + 1))),(31,.one (.d (.sl (prs (pairsOf x))))),(32,vi (pairsOf x).length),(33,vi (i + 1))]) (by (simp only [go_sem]; repeat' (first | refine Kp ?_ ?_ | exact Or.inl rfl | exact Or.inr rfl | rfl))) ?_
    refine Kk 2 (by simp only [List.length_nil,List.length_cons]; decide) (by simp only [go_sem]) (by simp only [go_sem]) ?_
    simp only [go_sem]
    refine Kl ⟨(pairsOf x).length - (i + 1),by omega,i + 1,by omega,rfl,?_,rfl⟩
    exact Nat.zero_le _
   ·omega
  ·repeat refine Ko rfl ?_
   refine Ka ?_
   simp only [f7_r11,go_sem]
   repeat refine Ko rfl ?_
   refine Ke ?_
   simp only [go_sem]
   refine ⟨fun h => by exfalso; omega,fun _ => G_exit rfl ?_⟩
   obtain rfl : i = (pairsOf x).length := by omega
   rw [List.take_of_length_le (by simp)]
   refine G_freeze 0 ?_
   simp only [go_sem]
   repeat' (first | refine Kn rfl ?_ | ((first | refine Ka ?_ | refine Kb ?_ | refine Kc ?_ | refine Kd ?_ | refine Ke ?_); simp only [f7_r0,f7_r1,f7_r2,f7_r3,f7_r9,f7_r10,f7_r11,f7_r15,f7_r16,f7_r19,f7_r26,go_sem]) | refine Kf ?_ | refine Kg ?_ | refine Kp (fun _ => ?_) (fun _ => ?_) | ((first | refine Kh ?_ | refine Ki rfl ?_); simp only [f7_r0,f7_r1,f7_r2,f7_r3,f7_r9,f7_r10,f7_r11,f7_r15,f7_r16,f7_r19,f7_r26,or_self,Qs,Qt,Qu,Qv,Qw,Qx,Qy,Qz,Za,go_sem]))
end Go.Fw.L07
