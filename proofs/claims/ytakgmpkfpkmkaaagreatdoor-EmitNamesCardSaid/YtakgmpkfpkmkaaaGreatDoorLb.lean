/- Chapter 7,part 6: pairs in order. -/
import Derived.Test.YtakgmpkfpkmkaaaGreatDoorLa
import Derived.Shelf.Lays
import Derived.Shelf.Unicode.DecodeAny
import Derived.Lib.RuneCountTail
set_option linter.all false
namespace Go.Fw.L07
open Go Go.Fw
open Go.Fw.Sh renaming intro -> Kg
open Go.Fw renaming G_reg -> Ka,VO_chk -> Kb,VO_go -> Kc,VO_gx -> Kd,G_cond -> Ke,VO_end -> Kf,G_fin -> Kh,G_ret -> Ki,G_weak -> Kj,G_drop -> Kk,G_again -> Kl,G_loop -> Km,Gx -> Kn,Gw -> Ko
open Int renaming natCast_nonneg -> Kq
open List renaming getElem?_eq_some_iff -> Kr
open And renaming intro -> Kp
open Go.Proofs.Tryz renaming prog -> QP
open Go.Fw.V.one renaming injEq -> Qs
open Go.Fw.V.agg renaming injEq -> Qt
open Go.Fw.V.tup renaming injEq -> Qu
open Go.Fw.A.d renaming injEq -> Qv
open Go.Fw.D.bool renaming injEq -> Qw
open Go.Fw.D.int renaming injEq -> Qx
open Go.Fw.D.str renaming injEq -> Qy
open Go.Fw.D.sl renaming injEq -> Qz
open List.cons renaming injEq -> Za
set_option maxRecDepth 4000
variable {gp : Heap}
structure Pr where
 key : Sc
 kid : Int
abbrev Pr.ds (p : Pr) : List D := [.int .i64 p.key.k,.int .i64 p.key.n,.str p.key.s,.int .i64 p.kid]
abbrev Pr.as (p : Pr) : List A := [.d (.int .i64 p.key.k),.d (.int .i64 p.key.n),.d (.str p.key.s),.d (.int .i64 p.kid)]
abbrev Pr.v (p : Pr) : V := .agg p.as
abbrev prs (l : List Pr) : List (List D) := l.map Pr.ds
def insJ {α : Type} (c : α -> α -> Int) (x : α) (p : List α) : Nat -> List α
 | 0 => x :: p
 | j + 1 => match p[j]? with
  | some y => if c x y < 0 then insJ c x p j else p.take (j + 1) ++ x :: p.drop (j + 1)
  | none => p ++ [x]
def isortN {α : Type} (c : α -> α -> Int) (l : List α) : Nat -> List α
 | 0 => []
 | i + 1 => match l[i]? with
  | some x => insJ c x (isortN c l i) i
  | none => isortN c l i
section
variable {α : Type} {c : α -> α -> Int}
theorem insJ_len (x : α) (p : List α) : ∀ j,(insJ c x p j).length = p.length + 1
 | 0 => rfl
 | j + 1 => by
  simp only [insJ]
  split
  ·split
   ·exact insJ_len x p j
   ·rename_i y h _
    have := (Kr.1 h).1
    simp; omega
  ·simp
theorem isortN_len (l : List α) : ∀ i,i <= l.length -> (isortN c l i).length = i
 | 0,_ => rfl
 | i + 1,h => by
  obtain ⟨x,hx⟩ := at_lt (l := l) (i := i) (by omega)
  simp only [isortN,hx]
  rw [insJ_len,isortN_len l i (by omega)]
theorem insJ_go {x y : α} {p : List α} {j : Nat} (h : p[j]? = some y) (hc : c x y < 0) : insJ c x p (j + 1) = insJ c x p j := by
 simp only [insJ,h,if_pos hc]
theorem insJ_stop {x y : α} {p : List α} {j : Nat} (h : p[j]? = some y) (hc : ¬ c x y < 0) : insJ c x p (j + 1) = p.take (j + 1) ++ x :: p.drop (j + 1) := by
 simp only [insJ,h,if_neg hc]
def mid (p : List α) (x : α) (rest : List α) (j : Nat) : List α := p.take j ++ x :: (p.drop j ++ rest)
theorem mid_len {p : List α} {x : α} {rest : List α} {j : Nat} (h : j <= p.length) : (mid p x rest j).length = p.length + 1 + rest.length := by
 unfold mid; simp; omega
theorem mid_at {p : List α} {x : α} {rest : List α} {j : Nat} (h : j <= p.length) : (mid p x rest j)[j]? = some x := by
 unfold mid
 rw [List.getElem?_append_right (by simp; omega)]
 simp [Nat.min_eq_left h]
theorem mid_pred {p : List α} {x : α} {rest : List α} {j : Nat} (h : j + 1 <= p.length) : (mid p x rest (j + 1))[j]? = p[j]? := by
 unfold mid
 rw [List.getElem?_append_left (by simp; omega),List.getElem?_take]
 simp
theorem mid_swap {p : List α} {x y : α} {rest : List α} {j : Nat} (hy : p[j]? = some y) : ((mid p x rest (j + 1)).set (j + 1) y).set j x = mid p x rest j := by
 obtain ⟨hj,rfl⟩ := Kr.1 hy
 have h1 : mid p x rest (j + 1) = p.take j ++ (p[j] :: x :: (p.drop (j + 1) ++ rest)) := by
  unfold mid
  rw [List.take_succ,List.getElem?_eq_getElem hj,List.append_assoc]; rfl
 have hl : (p.take j).length = j := by simp; omega
 rw [h1,List.set_append_right _ _ (by omega),List.set_append_right _ _ (by omega),hl]
 unfold mid
 have h2 : p.drop j = p[j] :: p.drop (j + 1) := List.drop_eq_getElem_cons hj
 rw [h2,Nat.add_sub_cancel_left,Nat.sub_self]
 rfl
theorem mid_first {l : List α} {i : Nat} {x : α} (hx : l[i]? = some x) : isortN c l i ++ l.drop i = mid (isortN c l i) x (l.drop (i + 1)) i := by
 obtain ⟨hi,rfl⟩ := Kr.1 hx
 unfold mid
 have hn : (isortN c l i).length = i := isortN_len l i (by omega)
 have h1 : (isortN c l i).take i = isortN c l i := List.take_of_length_le (by omega)
 have h2 : (isortN c l i).drop i = [] := List.drop_of_length_le (by omega)
 have h3 : l.drop i = l[i] :: l.drop (i + 1) := List.drop_eq_getElem_cons hi
 rw [h1,h2,h3]
 rfl
end
theorem prs_set (l : List Pr) (j : Nat) (p : Pr) : (prs l).set j p.ds = prs (l.set j p) := by
 simp [prs,List.map_set]
set_option maxRecDepth 10000 in
theorem insertion (f : FuncId) (c : Pr -> Pr -> Int) (hf : ∀ a b : Pr,Does QP gp f [a.v,b.v] (vi (c a b))) (l : List Pr) (ver : Nat) :
  Tri QP gp 169 [.one (.own 0 ver),vi 0,vi l.length,.one (.d (.fn (.func f) []))] [.row 4 ver (prs l)] fun r post => r = .tup [] /\ post = [.row 4 ver (prs (isortN c l l.length))] := by
 refine f169_tri ?_
 simp only [go_sem]
 repeat' (first | refine Kn rfl ?_ | ((first | refine Ka ?_ | refine Kb ?_ | refine Kc ?_ | refine Kd ?_ | refine Ke ?_); simp only [go_sem]) | refine Kf ?_ | refine Kg ?_ | refine Kp (fun _ => ?_) (fun _ => ?_) | ((first | refine Kh ?_ | refine Ki rfl ?_); simp only [or_self,Qs,Qt,Qu,Qv,Qw,Qx,Qy,Qz,Za,go_sem]))
 refine ⟨by simp [inK,IntKind.min,IntKind.max,IntKind.signed,IntKind.bits],?_⟩
 repeat' (first | refine Kn rfl ?_ | ((first | refine Ka ?_ | refine Kb ?_ | refine Kc ?_ | refine Kd ?_ | refine Ke ?_); simp only [go_sem]) | refine Kf ?_ | refine Kg ?_ | refine Kp (fun _ => ?_) (fun _ => ?_) | ((first | refine Kh ?_ | refine Ki rfl ?_); simp only [or_self,Qs,Qt,Qu,Qv,Qw,Qx,Qy,Qz,Za,go_sem]))
 refine G_lenC 0 rfl fun hl => ?_
 simp only [List.length_map] at hl
 have h0 : prs l = prs (isortN c l (0 + 1) ++ l.drop (0 + 1)) := by
  cases l with
  | nil => rfl
  | cons x l => rfl
 rw [h0]
 refine Kj (fr 53 [(0,.one (.own 0 ver)),(1,vi 0),(2,vi l.length),(3,.one (.d (.fn (.func f) []))),(8,vi (((0 : Nat) + 1 : Nat)))]) (by (simp only [go_sem]; repeat' (first | refine Kp ?_ ?_ | exact Or.inl rfl | exact Or.inr rfl | rfl))) ?_
 refine Km (fun mz sz => ∃ i : Nat,i <= (l.length - 1) /\ mz = (l.length - 1) - i /\ (0 <= i) /\ sz = ⟨fr 53 [(0,.one (.own 0 ver)),(1,vi 0),(2,vi l.length),(3,.one (.d (.fn (.func f) []))),(8,vi ((i + 1 : Nat)))],[.row 4 ver (prs (isortN c l (i + 1) ++ l.drop (i + 1)))]⟩) ((l.length - 1)) ⟨0,Nat.zero_le _,(Nat.sub_zero _).symm,?_,rfl⟩ ?_
 ·exact Nat.zero_le _
 rintro _ _ ⟨i,hi,rfl,-,rfl⟩
 simp only [go_sem]
 by_cases hil : i + 1 < l.length
 ·obtain ⟨x,hx⟩ := at_lt hil
  repeat' (first | refine Kn rfl ?_ | ((first | refine Ka ?_ | refine Kb ?_ | refine Kc ?_ | refine Kd ?_ | refine Ke ?_); simp only [go_sem]) | refine Kf ?_ | refine Kg ?_ | refine Kp (fun _ => ?_) (fun _ => ?_) | ((first | refine Kh ?_ | refine Ki rfl ?_); simp only [or_self,Qs,Qt,Qu,Qv,Qw,Qx,Qy,Qz,Za,go_sem]))
  ·have hp : (isortN c l (i + 1)).length = i + 1 := isortN_len l (i + 1) (by omega)
   rw [mid_first hx]
   have hs : isortN c l (i + 1 + 1) = insJ c x (isortN c l (i + 1)) (i + 1) := by rw [isortN,hx]
   generalize hpp : isortN c l (i + 1) = p at hp hs
   refine Kj (fr 53 [(0,.one (.own 0 ver)),(1,vi 0),(2,vi l.length),(3,.one (.d (.fn (.func f) []))),(8,vi ((i + 1 : Nat))),(9,vi ((i + 1 : Nat)))]) (by (simp only [go_sem]; repeat' (first | refine Kp ?_ ?_ | exact Or.inl rfl | exact Or.inr rfl | rfl))) ?_
   refine Km (fun n s => ∃ j : Nat,j <= i + 1 /\ n = j /\ insJ c x p (i + 1) = insJ c x p j /\ s = ⟨fr 53 [(0,.one (.own 0 ver)),(1,vi 0),(2,vi l.length),(3,.one (.d (.fn (.func f) []))),(8,vi ((i + 1 : Nat))),(9,vi j)],[.row 4 ver (prs (mid p x (l.drop (i + 1 + 1)) j))]⟩) (i + 1) ⟨i + 1,Nat.le_refl _,rfl,rfl,rfl⟩ ?_
   rintro j _ ⟨_,hj,rfl,hj2,rfl⟩
   simp only [go_sem]
   have hfin : prs (insJ c x p (i + 1) ++ l.drop (i + 1 + 1)) = prs (isortN c l (i + 1 + 1) ++ l.drop (i + 1 + 1)) := by rw [hs]
   have hin : inK .i64 (((i + 1 : Nat) : Int) + 1) := inK_nat hil hl
   have hout : ∀ q,insJ c x p (i + 1) = q -> prs (q ++ l.drop (i + 1 + 1)) = prs (isortN c l (i + 1 + 1) ++ l.drop (i + 1 + 1)) := fun q hq => by rw [hs,hq]
   have hmid : (mid p x (l.drop (i + 1 + 1)) j).length = l.length := by rw [mid_len (by omega),hp]; simp; omega
   cases j with
   | zero =>
    repeat' (first | refine Kn rfl ?_ | ((first | refine Ka ?_ | refine Kb ?_ | refine Kc ?_ | refine Kd ?_ | refine Ke ?_); simp only [go_sem]) | refine Kf ?_ | refine Kg ?_ | refine Kp (fun _ => ?_) (fun _ => ?_) | ((first | refine Kh ?_ | refine Ki rfl ?_); simp only [or_self,Qs,Qt,Qu,Qv,Qw,Qx,Qy,Qz,Za,go_sem]))
    ·refine ⟨hin,?_⟩
     rw [show prs (mid p x (l.drop (i + 1 + 1)) 0) = _ from hout _ hj2]
     refine Kj (fr 53 [(0,.one (.own 0 ver)),(1,vi 0),(2,vi l.length),(3,.one (.d (.fn (.func f) []))),(8,vi (((i + 1) + 1 : Nat)))]) (by (simp only [go_sem]; repeat' (first | refine Kp ?_ ?_ | exact Or.inl rfl | exact Or.inr rfl | rfl))) ?_
     refine Kl ⟨(l.length - 1) - (i + 1),by omega,i + 1,by omega,rfl,?_,rfl⟩
     exact Nat.zero_le _
   | succ j =>
    obtain ⟨y,hy⟩ := at_lt (l := p) (i := j) (by omega)
    have hj1 : ((j + 1 : Nat) : Int) - 1 = (j : Int) := by omega
    have hik : inK .i64 (j : Int) := by rw [<- hj1]; exact inK_dec (by omega)
    have ha : (prs (mid p x (l.drop (i + 1 + 1)) (j + 1)))[j + 1]? = some x.ds := map_at (mid_at (by omega))
    have hb : (prs (mid p x (l.drop (i + 1 + 1)) (j + 1)))[j]? = some y.ds := map_at ((mid_pred (by omega)).trans hy)
    repeat' (first | refine Kn rfl ?_ | ((first | refine Ka ?_ | refine Kb ?_ | refine Kc ?_ | refine Kd ?_ | refine Ke ?_); simp only [hj1,go_sem]) | refine Kf ?_ | refine Kg ?_ | refine ⟨_,hf _ _,Kg ?_⟩ | refine ⟨_,⟨hf _ _,rfl⟩,Kg ?_⟩ | refine ⟨_,⟨ha,Nat.le_refl _⟩,Kg ?_⟩ | refine ⟨_,⟨hb,Nat.le_refl _⟩,Kg ?_⟩ | refine ⟨Kq _,show j + 1 < _ by omega,?_⟩ | refine ⟨Kq _,show j < _ by omega,?_⟩ | refine ⟨hik,?_⟩ | refine Kp (fun _ => ?_) (fun _ => ?_) | ((first | refine Kh ?_ | refine Ki rfl ?_); simp only [hj1,or_self,Qs,Qt,Qu,Qv,Qw,Qx,Qy,Qz,Za,go_sem]))
    ·rename_i hc
     have hM : ((mid p x (l.drop (i + 1 + 1)) (j + 1)).set (j + 1) y)[j]? = some y := by
      rw [List.getElem?_set_ne (by omega),mid_pred (by omega),hy]
     rw [show (prs (mid p x (l.drop (i + 1 + 1)) (j + 1))).set (j + 1) _ = prs ((mid p x (l.drop (i + 1 + 1)) (j + 1)).set (j + 1) y) from prs_set _ _ y]
     refine ⟨Kq _,by rw [List.length_map,List.length_set]; omega,_,⟨map_at hM,Nat.le_refl _⟩,Kg ?_⟩
     simp only [go_sem]
     rw [show (prs ((mid p x (l.drop (i + 1 + 1)) (j + 1)).set (j + 1) y)).set j _ = prs (mid p x (l.drop (i + 1 + 1)) j) from (prs_set _ _ x).trans (by rw [mid_swap hy])]
     repeat' (first | refine Kn rfl ?_ | ((first | refine Ka ?_ | refine Kb ?_ | refine Kc ?_ | refine Kd ?_ | refine Ke ?_); simp only [hj1,go_sem]) | refine Kf ?_ | refine Kg ?_ | refine Kp (fun _ => ?_) (fun _ => ?_) | ((first | refine Kh ?_ | refine Ki rfl ?_); simp only [hj1,or_self,Qs,Qt,Qu,Qv,Qw,Qx,Qy,Qz,Za,go_sem]))
     refine ⟨hik,?_⟩
     refine Kj (fr 53 [(0,.one (.own 0 ver)),(1,vi 0),(2,vi l.length),(3,.one (.d (.fn (.func f) []))),(8,vi ((i + 1 : Nat))),(9,vi j)]) (by (simp only [go_sem]; repeat' (first | refine Kp ?_ ?_ | exact Or.inl rfl | exact Or.inr rfl | rfl))) ?_
     exact Kl ⟨j,Nat.lt_succ_self j,j,by omega,rfl,hj2.trans (insJ_go hy hc),rfl⟩
    ·rename_i hc
     refine ⟨hin,?_⟩
     rw [show prs (mid p x (l.drop (i + 1 + 1)) (j + 1)) = prs (isortN c l (i + 1 + 1) ++ l.drop (i + 1 + 1)) from by
      rw [<- hout _ (hj2.trans (insJ_stop hy hc))]; unfold mid; simp]
     refine Kj (fr 53 [(0,.one (.own 0 ver)),(1,vi 0),(2,vi l.length),(3,.one (.d (.fn (.func f) []))),(8,vi (((i + 1) + 1 : Nat)))]) (by (simp only [go_sem]; repeat' (first | refine Kp ?_ ?_ | exact Or.inl rfl | exact Or.inr rfl | rfl))) ?_
     refine Kl ⟨(l.length - 1) - (i + 1),by omega,i + 1,by omega,rfl,?_,rfl⟩
     exact Nat.zero_le _
    ·exfalso; omega
  ·omega
 ·repeat' (first | refine Kn rfl ?_ | ((first | refine Ka ?_ | refine Kb ?_ | refine Kc ?_ | refine Kd ?_ | refine Ke ?_); simp only [go_sem]) | refine Kf ?_ | refine Kg ?_ | refine Kp (fun _ => ?_) (fun _ => ?_) | ((first | refine Kh ?_ | refine Ki rfl ?_); simp only [or_self,Qs,Qt,Qu,Qv,Qw,Qx,Qy,Qz,Za,go_sem]))
  ·omega
  ·cases l with
   | nil =>
    have : ∀ n,isortN c ([] : List Pr) n = [] := by intro n; induction n with | zero => rfl | succ n ih => simp [isortN,ih]
    simp [this]
   | cons x l =>
    have e : i + 1 = (x :: l).length := by simp at hi hil ⊢; omega
    rw [e,List.drop_length,List.append_nil]
theorem pair_cmp (a b : Pr) : Does QP gp 115 [a.v,b.v] (vi (cmpSc a.key b.key)) := by
 refine f115_in ?_
 simp only [go_sem]
 repeat' (first | refine Kn rfl ?_ | ((first | refine Ka ?_ | refine Kb ?_ | refine Kc ?_ | refine Kd ?_ | refine Ke ?_); simp only [go_sem]) | refine Kf ?_ | refine Kg ?_ | refine ⟨_,compare ⟨_,_,_⟩ ⟨_,_,_⟩,Kg ?_⟩ | refine ⟨_,⟨compare ⟨_,_,_⟩ ⟨_,_,_⟩,rfl⟩,Kg ?_⟩ | refine Kp (fun _ => ?_) (fun _ => ?_) | ((first | refine Kh ?_ | refine Ki rfl ?_); simp only [or_self,Qs,Qt,Qu,Qv,Qw,Qx,Qy,Qz,Za,go_sem]))
abbrev cmpPr (a b : Pr) : Int := cmpSc a.key b.key
abbrev srt (l : List Pr) : List Pr := isortN cmpPr l l.length
theorem stable (l : List Pr) (ver : Nat) (hl : l.length < 20) :
  Tri QP gp 145 [.one (.own 0 ver),vi l.length,.one (.d (.fn (.func 115) []))] [.row 4 ver (prs l)] fun r post => r = .tup [] /\ post = [.row 4 ver (prs (srt l))] := by
 refine f145_tri ?_
 simp only [go_sem]
 repeat' (first | refine Kn rfl ?_ | ((first | refine Ka ?_ | refine Kb ?_ | refine Kc ?_ | refine Kd ?_ | refine Ke ?_); simp only [go_sem]) | refine Kf ?_ | refine Kg ?_ | refine Kp (fun _ => ?_) (fun _ => ?_) | ((first | refine Kh ?_ | refine Ki rfl ?_); simp only [or_self,Qs,Qt,Qu,Qv,Qw,Qx,Qy,Qz,Za,go_sem]))
 refine G_loop1 ?_
 repeat' (first | refine Kn rfl ?_ | ((first | refine Ka ?_ | refine Kb ?_ | refine Kc ?_ | refine Kd ?_ | refine Ke ?_); simp only [go_sem]) | refine Kf ?_ | refine Kg ?_ | refine Kp (fun _ => ?_) (fun _ => ?_) | ((first | refine Kh ?_ | refine Ki rfl ?_); simp only [or_self,Qs,Qt,Qu,Qv,Qw,Qx,Qy,Qz,Za,go_sem]))
 ·omega
 ·refine Or.inr (Or.inl ⟨0,.tup [],.row 4 ver (prs (srt l)),(by simp only [CallN,go_sem]; exact ⟨rfl,rfl,f169_ok,insertion _ cmpPr pair_cmp l ver⟩),Kg ?_⟩)
  simp only [go_sem]
  repeat' (first | refine Kn rfl ?_ | ((first | refine Ka ?_ | refine Kb ?_ | refine Kc ?_ | refine Kd ?_ | refine Ke ?_); simp only [go_sem]) | refine Kf ?_ | refine Kg ?_ | refine Kp (fun _ => ?_) (fun _ => ?_) | ((first | refine Kh ?_ | refine Ki rfl ?_); simp only [or_self,Qs,Qt,Qu,Qv,Qw,Qx,Qy,Qz,Za,go_sem]))
  refine G_loop1 ?_
  repeat' (first | refine Kn rfl ?_ | ((first | refine Ka ?_ | refine Kb ?_ | refine Kc ?_ | refine Kd ?_ | refine Ke ?_); simp only [go_sem]) | refine Kf ?_ | refine Kg ?_ | refine Kp (fun _ => ?_) (fun _ => ?_) | ((first | refine Kh ?_ | refine Ki rfl ?_); simp only [or_self,Qs,Qt,Qu,Qv,Qw,Qx,Qy,Qz,Za,go_sem]))
  omega
theorem sort_stable (l : List Pr) (ver : Nat) (hl : l.length < 20) :
  Tri QP gp 114 [.one (.own 0 ver),.one (.d (.fn (.func 115) []))] [.row 4 ver (prs l)] fun r post => r = .tup [] /\ post = [.row 4 ver (prs (srt l))] := by
 refine f114_tri ?_
 simp only [go_sem]
 repeat' (first | refine Kn rfl ?_ | ((first | refine Ka ?_ | refine Kb ?_ | refine Kc ?_ | refine Kd ?_ | refine Ke ?_); simp only [go_sem]) | refine Kf ?_ | refine Kg ?_ | refine Kp (fun _ => ?_) (fun _ => ?_) | ((first | refine Kh ?_ | refine Ki rfl ?_); simp only [or_self,Qs,Qt,Qu,Qv,Qw,Qx,Qy,Qz,Za,go_sem]))
 refine Or.inr (Or.inl ⟨0,.tup [],.row 4 ver (prs (srt l)),(by simp only [CallN,go_sem]; exact ⟨rfl,rfl,f145_ok,stable l ver hl⟩),Kg ?_⟩)
 simp only [go_sem]
 repeat' (first | refine Kn rfl ?_ | ((first | refine Ka ?_ | refine Kb ?_ | refine Kc ?_ | refine Kd ?_ | refine Ke ?_); simp only [go_sem]) | refine Kf ?_ | refine Kg ?_ | refine Kp (fun _ => ?_) (fun _ => ?_) | ((first | refine Kh ?_ | refine Ki rfl ?_); simp only [or_self,Qs,Qt,Qu,Qv,Qw,Qx,Qy,Qz,Za,go_sem]))
def zips (x : Nd) : List Pr := List.zipWith Pr.mk x.keys x.kids
def pairsOf (x : Nd) : List Pr := if x.k = 2 /\ x.keys.length = x.kids.length then srt (zips x) else []
theorem zip_at {x : Nd} {i : Nat} {a : Sc} {b : Int} (ha : x.keys[i]? = some a) (hb : x.kids[i]? = some b) : (zips x)[i]? = some ⟨a,b⟩ := by
 unfold zips; rw [List.getElem?_zipWith,ha,hb]
theorem prs_snoc {l : List Pr} {i : Nat} {p : Pr} (h : l[i]? = some p) : prs (l.take i) ++ [p.ds] = prs (l.take (i + 1)) := by
 rw [<- take_snoc h]; simp [prs]
theorem pairs (x : Nd) (n : Int) (hx : x.keys.length < 20) : Does QP gp 75 [x.vw n] (.one (.d (.sl (prs (pairsOf x))))) := by
 refine f75_in ?_
 simp only [go_sem]
 repeat' (first | refine Kn rfl ?_ | ((first | refine Ka ?_ | refine Kb ?_ | refine Kc ?_ | refine Kd ?_ | refine Ke ?_); simp only [go_sem]) | refine Kf ?_ | refine Kg ?_ | refine ⟨_,is_paired x n,Kg ?_⟩ | refine ⟨_,⟨is_paired x n,rfl⟩,Kg ?_⟩ | refine Kp (fun _ => ?_) (fun _ => ?_) | ((first | refine Kh ?_ | refine Ki rfl ?_); simp only [or_self,Qs,Qt,Qu,Qv,Qw,Qx,Qy,Qz,Za,go_sem]))
 ·rename_i h1 h2
  have : ¬ x.keys.length = x.kids.length := by intro h; simp [h] at h2
  unfold pairsOf; rw [if_neg (by simp [this])]; rfl
 ·rename_i h1 h2
  have hk : x.k = 2 := by simpa using h1
  have hl : x.keys.length = x.kids.length := Classical.byContradiction fun h => by simp [h] at h2
  have hp : pairsOf x = srt (zips x) := by unfold pairsOf; rw [if_pos ⟨hk,hl⟩]
  have hz : (zips x).length = x.keys.length := by unfold zips; simp [<- hl]
  rw [hp]
  refine G_row0 3 4 (by decide) rfl ?_
  simp only [go_sem]
  refine Kj (fr 39 [(1,.one (.d (.bx (x.vd n)))),(2,.one .nil),(3,.one (.own 0 (0 : Nat))),(17,.one (.d (.sl (scs x.keys)))),(18,vi x.keys.length),(19,vi (0 : Nat))]) (by (simp only [go_sem]; repeat' (first | refine Kp ?_ ?_ | exact Or.inl rfl | exact Or.inr rfl | rfl))) ?_
  refine Km (fun mz sz => ∃ i : Nat,i <= x.keys.length /\ mz = x.keys.length - i /\ (0 <= i) /\ sz = ⟨fr 39 [(1,.one (.d (.bx (x.vd n)))),(2,.one .nil),(3,.one (.own 0 i)),(17,.one (.d (.sl (scs x.keys)))),(18,vi x.keys.length),(19,vi i)],[.row 4 i (prs ((zips x).take i))]⟩) (x.keys.length) ⟨0,Nat.zero_le _,(Nat.sub_zero _).symm,?_,rfl⟩ ?_
  ·exact Nat.zero_le _
  rintro _ _ ⟨i,hi,rfl,-,rfl⟩
  simp only [go_sem]
  by_cases hil : i < x.keys.length
  ·obtain ⟨a,ha⟩ := at_lt hil
   obtain ⟨b,hb⟩ := at_lt (l := x.kids) (i := i) (by omega)
   repeat' (first | refine Kn rfl ?_ | ((first | refine Ka ?_ | refine Kb ?_ | refine Kc ?_ | refine Kd ?_ | refine Ke ?_); simp only [go_sem]) | refine Kf ?_ | refine Kg ?_ | refine ⟨_,⟨Kq _,(by first | exact map_at ha | (rw [Int.toNat_natCast]; exact map_at ha)),rfl⟩,Kg ?_⟩ | refine ⟨_,⟨Kq _,(by first | exact map_at hb | (rw [Int.toNat_natCast]; exact map_at hb)),rfl⟩,Kg ?_⟩ | refine Kp (fun _ => ?_) (fun _ => ?_) | ((first | refine Kh ?_ | refine Ki rfl ?_); simp only [or_self,Qs,Qt,Qu,Qv,Qw,Qx,Qy,Qz,Za,go_sem]))
   ·refine ⟨by simp,by simp; omega,by simp [lenMax]; omega,?_⟩
    rw [show prs ((zips x).take i) ++ [_] = prs ((zips x).take (i + 1)) from prs_snoc (zip_at ha hb)]
    repeat' (first | refine Kn rfl ?_ | ((first | refine Ka ?_ | refine Kb ?_ | refine Kc ?_ | refine Kd ?_ | refine Ke ?_); simp only [go_sem]) | refine Kf ?_ | refine Kg ?_ | refine Kp (fun _ => ?_) (fun _ => ?_) | ((first | refine Kh ?_ | refine Ki rfl ?_); simp only [or_self,Qs,Qt,Qu,Qv,Qw,Qx,Qy,Qz,Za,go_sem]))
    refine ⟨inK_nat hil (by unfold lenMax; omega),?_⟩
    refine Kj (fr 39 [(1,.one (.d (.bx (x.vd n)))),(2,.one .nil),(3,.one (.own 0 (i + 1))),(17,.one (.d (.sl (scs x.keys)))),(18,vi x.keys.length),(19,vi (i + 1))]) (by (simp only [go_sem]; repeat' (first | refine Kp ?_ ?_ | exact Or.inl rfl | exact Or.inr rfl | rfl))) ?_
    refine Kk 1 (by simp only [List.length_nil,List.length_cons]; decide) (by simp only [go_sem]) (by simp only [go_sem]) ?_
    simp only [go_sem]
    refine Kl ⟨x.keys.length - (i + 1),by omega,i + 1,by omega,rfl,?_,rfl⟩
    exact Nat.zero_le _
   ·omega
  ·repeat' (first | refine Kn rfl ?_ | ((first | refine Ka ?_ | refine Kb ?_ | refine Kc ?_ | refine Kd ?_ | refine Ke ?_); simp only [go_sem]) | refine Kf ?_ | refine Kg ?_ | refine Kp (fun _ => ?_) (fun _ => ?_) | ((first | refine Kh ?_ | refine Ki rfl ?_); simp only [or_self,Qs,Qt,Qu,Qv,Qw,Qx,Qy,Qz,Za,go_sem]))
   ·omega
   ·rw [List.take_of_length_le (by omega)]
    refine Or.inr (Or.inl ⟨0,.tup [],.row 4 i (prs (srt (zips x))),(by simp only [CallN,go_sem]; exact ⟨rfl,rfl,f114_ok,sort_stable (zips x) i (by omega)⟩),Kg ?_⟩)
    simp only [go_sem]
    refine G_freeze 0 ?_
    simp only [go_sem]
    repeat' (first | refine Kn rfl ?_ | ((first | refine Ka ?_ | refine Kb ?_ | refine Kc ?_ | refine Kd ?_ | refine Ke ?_); simp only [go_sem]) | refine Kf ?_ | refine Kg ?_ | refine Kp (fun _ => ?_) (fun _ => ?_) | ((first | refine Kh ?_ | refine Ki rfl ?_); simp only [or_self,Qs,Qt,Qu,Qv,Qw,Qx,Qy,Qz,Za,go_sem]))
 ·rename_i h
  have hk : ¬ x.k = 2 := by intro h2; simp [h2] at h
  unfold pairsOf; rw [if_neg (by simp [hk])]; rfl
theorem clone_ints (l : List Int) (hl : l.length < 100) : Does QP gp 76 [.one (.d (.sl (ints l)))] (.one (.d (.sl (ints l)))) := by
 refine f76_in ?_
 simp only [go_sem]
 cases l with
 | nil =>
  refine G_sl0 0 rfl fun q c => ?_
  cases q with
  | none =>
   simp only [go_sem]
   repeat' (first | refine Kn rfl ?_ | ((first | refine Ka ?_ | refine Kb ?_ | refine Kc ?_ | refine Kd ?_ | refine Ke ?_); simp only [f76_r0,f76_r1,f76_r2,f76_r8,go_sem]) | refine Kf ?_ | refine Kg ?_ | refine Kp (fun _ => ?_) (fun _ => ?_) | ((first | refine Kh ?_ | refine Ki rfl ?_); simp only [f76_r0,f76_r1,f76_r2,f76_r8,or_self,Qs,Qt,Qu,Qv,Qw,Qx,Qy,Qz,Za,go_sem]))
  | some q =>
   simp only [go_sem]
   refine G_seq ?_
   repeat' (first | refine Kn rfl ?_ | ((first | refine Ka ?_ | refine Kb ?_ | refine Kc ?_ | refine Kd ?_ | refine Ke ?_); simp only [f76_r0,f76_r1,go_sem]) | refine Kf ?_ | refine Kg ?_ | refine Kp (fun _ => ?_) (fun _ => ?_) | ((first | refine Kh ?_ | refine Ki rfl ?_); simp only [f76_r0,f76_r1,or_self,Qs,Qt,Qu,Qv,Qw,Qx,Qy,Qz,Za,go_sem]))
   refine G_unraw 0 rfl ?_
   simp only [go_sem]
   repeat' (first | refine Kn rfl ?_ | ((first | refine Ka ?_ | refine Kb ?_ | refine Kc ?_ | refine Kd ?_ | refine Ke ?_); simp only [f76_r0,f76_r1,f76_r2,f76_r8,go_sem]) | refine Kf ?_ | refine Kg ?_ | refine Kp (fun _ => ?_) (fun _ => ?_) | ((first | refine Kh ?_ | refine Ki rfl ?_); simp only [f76_r0,f76_r1,f76_r2,f76_r8,or_self,Qs,Qt,Qu,Qv,Qw,Qx,Qy,Qz,Za,go_sem]))
   refine ⟨by simp,by simp [lenMax],?_⟩
   refine G_freeze 0 ?_
   simp only [go_sem]
   repeat' (first | refine Kn rfl ?_ | ((first | refine Ka ?_ | refine Kb ?_ | refine Kc ?_ | refine Kd ?_ | refine Ke ?_); simp only [f76_r0,f76_r1,f76_r2,f76_r8,go_sem]) | refine Kf ?_ | refine Kg ?_ | refine Kp (fun _ => ?_) (fun _ => ?_) | ((first | refine Kh ?_ | refine Ki rfl ?_); simp only [f76_r0,f76_r1,f76_r2,f76_r8,or_self,Qs,Qt,Qu,Qv,Qw,Qx,Qy,Qz,Za,go_sem]))
 | cons x l =>
  simp only [go_sem]
  repeat' (first | refine Kn rfl ?_ | ((first | refine Ka ?_ | refine Kb ?_ | refine Kc ?_ | refine Kd ?_ | refine Ke ?_); simp only [f76_r0,f76_r1,f76_r2,f76_r8,go_sem]) | refine Kf ?_ | refine Kg ?_ | refine Kp (fun _ => ?_) (fun _ => ?_) | ((first | refine Kh ?_ | refine Ki rfl ?_); simp only [f76_r0,f76_r1,f76_r2,f76_r8,or_self,Qs,Qt,Qu,Qv,Qw,Qx,Qy,Qz,Za,go_sem]))
  refine ⟨by simp,by simp at hl; omega,by simp [lenMax] at hl ⊢; omega,?_⟩
  refine G_freeze 0 ?_
  simp only [go_sem]
  repeat' (first | refine Kn rfl ?_ | ((first | refine Ka ?_ | refine Kb ?_ | refine Kc ?_ | refine Kd ?_ | refine Ke ?_); simp only [f76_r0,f76_r1,f76_r2,f76_r8,go_sem]) | refine Kf ?_ | refine Kg ?_ | refine Kp (fun _ => ?_) (fun _ => ?_) | ((first | refine Kh ?_ | refine Ki rfl ?_); simp only [f76_r0,f76_r1,f76_r2,f76_r8,or_self,Qs,Qt,Qu,Qv,Qw,Qx,Qy,Qz,Za,go_sem]))
def Small (g : Gr) : Prop := ∀ x ∈ g.l,x.keys.length <= 12 /\ x.kids.length <= 12
theorem Small.at {g : Gr} (h : Small g) (i : Int) : (ndAt g.l i).keys.length <= 12 /\ (ndAt g.l i).kids.length <= 12 := by
 unfold ndAt
 split
 ·cases e : g.l[i.toNat]? with
  | none => simp [Nd.zero]
  | some x => exact h x (List.mem_of_getElem? e)
 ·simp [Nd.zero]
def kidsOf (x : Nd) : List Int := if x.k = 1 then x.kids else (pairsOf x).map Pr.kid
def keysOf (x : Nd) : List Sc := (pairsOf x).map Pr.key
theorem isortN_len' {α : Type} {c : α -> α -> Int} (l : List α) : (isortN c l l.length).length = l.length := isortN_len l _ (Nat.le_refl _)
theorem pairsOf_len (x : Nd) : (pairsOf x).length <= x.keys.length := by
 unfold pairsOf
 split
 ·rw [isortN_len']; unfold zips; simp; omega
 ·simp
theorem ints_snoc {l : List Int} {i : Nat} {p : Int} (h : l[i]? = some p) : ints (l.take i) ++ [[.int .i64 p]] = ints (l.take (i + 1)) := by
 rw [<- take_snoc h]; simp [ints]
theorem scs_snoc {l : List Sc} {i : Nat} {p : Sc} (h : l[i]? = some p) : scs (l.take i) ++ [p.ds] = scs (l.take (i + 1)) := by
 rw [<- take_snoc h]; simp [scs]
theorem atE_zero (l : List Nd) (i : Int) (h : atE l i ≠ 0) : ndAt l i = Nd.zero := by
 unfold atE at h; unfold ndAt
 split at h
 ·exact absurd rfl h
 ·rename_i h2; rw [if_neg h2]
theorem kids (g : Gr) (i : Int) (hg : Small g) : Does QP gp 51 [g.v,vi i] (.tup [.one (.d (.sl (ints (kidsOf (ndAt g.l i))))),vi (atE g.l i)]) := by
 refine f51_in ?_
 simp only [go_sem]
 obtain ⟨h1,h2⟩ := hg.at i
 have hz := atE_zero g.l i
 have ha := at_node (gp := gp) g i
 generalize ndAt g.l i = x at *
 generalize atE g.l i = e at *
 generalize atN g.l i = n at *
 have hq := pairsOf_len x
 repeat' (first | refine Kn rfl ?_ | ((first | refine Ka ?_ | refine Kb ?_ | refine Kc ?_ | refine Kd ?_ | refine Ke ?_); simp only [f51_r0,f51_r1,f51_r2,f51_r3,f51_r9,f51_r10,f51_r11,f51_r15,f51_r16,f51_r19,f51_r26,go_sem]) | refine Kf ?_ | refine Kg ?_ | refine ⟨_,ha,Kg ?_⟩ | refine ⟨_,⟨ha,rfl⟩,Kg ?_⟩ | refine ⟨_,clone_ints x.kids (by omega),Kg ?_⟩ | refine ⟨_,⟨clone_ints x.kids (by omega),rfl⟩,Kg ?_⟩ | refine ⟨_,pairs x n (by omega),Kg ?_⟩ | refine ⟨_,⟨pairs x n (by omega),rfl⟩,Kg ?_⟩ | refine Kp (fun _ => ?_) (fun _ => ?_) | ((first | refine Kh ?_ | refine Ki rfl ?_); simp only [f51_r0,f51_r1,f51_r2,f51_r3,f51_r9,f51_r10,f51_r11,f51_r15,f51_r16,f51_r19,f51_r26,or_self,Qs,Qt,Qu,Qv,Qw,Qx,Qy,Qz,Za,go_sem]))
 ·rename_i h
  have h : x.k = 1 := by simpa using h
  simp [kidsOf,h]
 ·rename_i h
  have h : ¬ x.k = 1 := by simpa using h
  have hk : kidsOf x = (pairsOf x).map Pr.kid := by unfold kidsOf; rw [if_neg h]
  rw [hk]
  refine G_row0 8 1 (by decide) rfl ?_
  simp only [go_sem]
  refine Kj (fr 45 [(7,vi e),(8,.one (.own 1 (0 : Nat))),(31,.one (.d (.sl (prs (pairsOf x))))),(32,vi (pairsOf x).length),(33,vi (0 : Nat))]) (by (simp only [go_sem]; repeat' (first | refine Kp ?_ ?_ | exact Or.inl rfl | exact Or.inr rfl | rfl))) ?_
  refine Km (fun mz sz => ∃ i : Nat,i <= (pairsOf x).length /\ mz = (pairsOf x).length - i /\ (0 <= i) /\ sz = ⟨fr 45 [(7,vi e),(8,.one (.own 1 i)),(31,.one (.d (.sl (prs (pairsOf x))))),(32,vi (pairsOf x).length),(33,vi i)],[.cells _,.row 1 i (ints (((pairsOf x).map Pr.kid).take i))]⟩) ((pairsOf x).length) ⟨0,Nat.zero_le _,(Nat.sub_zero _).symm,?_,rfl⟩ ?_
  ·exact Nat.zero_le _
  rintro _ _ ⟨i,hi,rfl,-,rfl⟩
  simp only [go_sem]
  by_cases hil : i < (pairsOf x).length
  ·obtain ⟨p,hp⟩ := at_lt hil
   repeat' (first | refine Kn rfl ?_ | ((first | refine Ka ?_ | refine Kb ?_ | refine Kc ?_ | refine Kd ?_ | refine Ke ?_); simp only [f51_r0,f51_r1,f51_r2,f51_r3,f51_r9,f51_r10,f51_r11,f51_r15,f51_r16,f51_r19,f51_r26,go_sem]) | refine Kf ?_ | refine Kg ?_ | refine ⟨_,⟨Kq _,(by first | exact map_at hp | (rw [Int.toNat_natCast]; exact map_at hp)),rfl⟩,Kg ?_⟩ | refine Kp (fun _ => ?_) (fun _ => ?_) | ((first | refine Kh ?_ | refine Ki rfl ?_); simp only [f51_r0,f51_r1,f51_r2,f51_r3,f51_r9,f51_r10,f51_r11,f51_r15,f51_r16,f51_r19,f51_r26,or_self,Qs,Qt,Qu,Qv,Qw,Qx,Qy,Qz,Za,go_sem]))
   ·refine ⟨by simp,by simp; omega,by simp [lenMax]; omega,?_⟩
    rw [show ints (((pairsOf x).map Pr.kid).take i) ++ [_] = ints (((pairsOf x).map Pr.kid).take (i + 1)) from ints_snoc (by rw [List.getElem?_map,hp]; rfl)]
    repeat' (first | refine Kn rfl ?_ | ((first | refine Ka ?_ | refine Kb ?_ | refine Kc ?_ | refine Kd ?_ | refine Ke ?_); simp only [f51_r0,f51_r1,f51_r2,f51_r3,f51_r9,f51_r10,f51_r11,f51_r15,f51_r16,f51_r19,f51_r26,go_sem]) | refine Kf ?_ | refine Kg ?_ | refine Kp (fun _ => ?_) (fun _ => ?_) | ((first | refine Kh ?_ | refine Ki rfl ?_); simp only [f51_r0,f51_r1,f51_r2,f51_r3,f51_r9,f51_r10,f51_r11,f51_r15,f51_r16,f51_r19,f51_r26,or_self,Qs,Qt,Qu,Qv,Qw,Qx,Qy,Qz,Za,go_sem]))
    refine ⟨inK_nat hil (by unfold lenMax; omega),?_⟩
    refine Kj (fr 45 [(7,vi e),(8,.one (.own 1 (i + 1))),(31,.one (.d (.sl (prs (pairsOf x))))),(32,vi (pairsOf x).length),(33,vi (i + 1))]) (by (simp only [go_sem]; repeat' (first | refine Kp ?_ ?_ | exact Or.inl rfl | exact Or.inr rfl | rfl))) ?_
    refine Kk 2 (by simp only [List.length_nil,List.length_cons]; decide) (by simp only [go_sem]) (by simp only [go_sem]) ?_
    simp only [go_sem]
    refine Kl ⟨(pairsOf x).length - (i + 1),by omega,i + 1,by omega,rfl,?_,rfl⟩
    exact Nat.zero_le _
   ·omega
  ·repeat refine Ko rfl ?_
   refine Ka ?_
   simp only [f51_r11,go_sem]
   repeat refine Ko rfl ?_
   refine Ke ?_
   simp only [go_sem]
   refine ⟨fun h => by exfalso; omega,fun _ => G_exit rfl ?_⟩
   rw [List.take_of_length_le (by simp; omega)]
   refine G_freeze 1 ?_
   simp only [go_sem]
   repeat' (first | refine Kn rfl ?_ | ((first | refine Ka ?_ | refine Kb ?_ | refine Kc ?_ | refine Kd ?_ | refine Ke ?_); simp only [f51_r0,f51_r1,f51_r2,f51_r3,f51_r9,f51_r10,f51_r11,f51_r15,f51_r16,f51_r19,f51_r26,go_sem]) | refine Kf ?_ | refine Kg ?_ | refine Kp (fun _ => ?_) (fun _ => ?_) | ((first | refine Kh ?_ | refine Ki rfl ?_); simp only [f51_r0,f51_r1,f51_r2,f51_r3,f51_r9,f51_r10,f51_r11,f51_r15,f51_r16,f51_r19,f51_r26,or_self,Qs,Qt,Qu,Qv,Qw,Qx,Qy,Qz,Za,go_sem]))
 ·rename_i h
  have h : x = Nd.zero := hz (by intro h2; simp [h2] at h)
  have hk : kidsOf x = (pairsOf x).map Pr.kid := by rw [h]; rfl
  rw [hk]
  refine G_row0 8 1 (by decide) rfl ?_
  simp only [go_sem]
  refine Kj (fr 45 [(7,vi e),(8,.one (.own 1 (0 : Nat))),(31,.one (.d (.sl (prs (pairsOf x))))),(32,vi (pairsOf x).length),(33,vi (0 : Nat))]) (by (simp only [go_sem]; repeat' (first | refine Kp ?_ ?_ | exact Or.inl rfl | exact Or.inr rfl | rfl))) ?_
  refine Km (fun mz sz => ∃ i : Nat,i <= (pairsOf x).length /\ mz = (pairsOf x).length - i /\ (0 <= i) /\ sz = ⟨fr 45 [(7,vi e),(8,.one (.own 1 i)),(31,.one (.d (.sl (prs (pairsOf x))))),(32,vi (pairsOf x).length),(33,vi i)],[.cells _,.row 1 i (ints (((pairsOf x).map Pr.kid).take i))]⟩) ((pairsOf x).length) ⟨0,Nat.zero_le _,(Nat.sub_zero _).symm,?_,rfl⟩ ?_
  ·exact Nat.zero_le _
  rintro _ _ ⟨i,hi,rfl,-,rfl⟩
  simp only [go_sem]
  by_cases hil : i < (pairsOf x).length
  ·obtain ⟨p,hp⟩ := at_lt hil
   repeat' (first | refine Kn rfl ?_ | ((first | refine Ka ?_ | refine Kb ?_ | refine Kc ?_ | refine Kd ?_ | refine Ke ?_); simp only [f51_r0,f51_r1,f51_r2,f51_r3,f51_r9,f51_r10,f51_r11,f51_r15,f51_r16,f51_r19,f51_r26,go_sem]) | refine Kf ?_ | refine Kg ?_ | refine ⟨_,⟨Kq _,(by first | exact map_at hp | (rw [Int.toNat_natCast]; exact map_at hp)),rfl⟩,Kg ?_⟩ | refine Kp (fun _ => ?_) (fun _ => ?_) | ((first | refine Kh ?_ | refine Ki rfl ?_); simp only [f51_r0,f51_r1,f51_r2,f51_r3,f51_r9,f51_r10,f51_r11,f51_r15,f51_r16,f51_r19,f51_r26,or_self,Qs,Qt,Qu,Qv,Qw,Qx,Qy,Qz,Za,go_sem]))
   ·refine ⟨by simp,by simp; omega,by simp [lenMax]; omega,?_⟩
    rw [show ints (((pairsOf x).map Pr.kid).take i) ++ [_] = ints (((pairsOf x).map Pr.kid).take (i + 1)) from ints_snoc (by rw [List.getElem?_map,hp]; rfl)]
    repeat' (first | refine Kn rfl ?_ | ((first | refine Ka ?_ | refine Kb ?_ | refine Kc ?_ | refine Kd ?_ | refine Ke ?_); simp only [f51_r0,f51_r1,f51_r2,f51_r3,f51_r9,f51_r10,f51_r11,f51_r15,f51_r16,f51_r19,f51_r26,go_sem]) | refine Kf ?_ | refine Kg ?_ | refine Kp (fun _ => ?_) (fun _ => ?_) | ((first | refine Kh ?_ | refine Ki rfl ?_); simp only [f51_r0,f51_r1,f51_r2,f51_r3,f51_r9,f51_r10,f51_r11,f51_r15,f51_r16,f51_r19,f51_r26,or_self,Qs,Qt,Qu,Qv,Qw,Qx,Qy,Qz,Za,go_sem]))
    refine ⟨inK_nat hil (by unfold lenMax; omega),?_⟩
    refine Kj (fr 45 [(7,vi e),(8,.one (.own 1 (i + 1))),(31,.one (.d (.sl (prs (pairsOf x))))),(32,vi (pairsOf x).length),(33,vi (i + 1))]) (by (simp only [go_sem]; repeat' (first | refine Kp ?_ ?_ | exact Or.inl rfl | exact Or.inr rfl | rfl))) ?_
    refine Kk 2 (by simp only [List.length_nil,List.length_cons]; decide) (by simp only [go_sem]) (by simp only [go_sem]) ?_
    simp only [go_sem]
    refine Kl ⟨(pairsOf x).length - (i + 1),by omega,i + 1,by omega,rfl,?_,rfl⟩
    exact Nat.zero_le _
   ·omega
  ·repeat refine Ko rfl ?_
   refine Ka ?_
   simp only [f51_r11,go_sem]
   repeat refine Ko rfl ?_
   refine Ke ?_
   simp only [go_sem]
   refine ⟨fun h => by exfalso; omega,fun _ => G_exit rfl ?_⟩
   rw [List.take_of_length_le (by simp; omega)]
   refine G_freeze 1 ?_
   simp only [go_sem]
   repeat' (first | refine Kn rfl ?_ | ((first | refine Ka ?_ | refine Kb ?_ | refine Kc ?_ | refine Kd ?_ | refine Ke ?_); simp only [f51_r0,f51_r1,f51_r2,f51_r3,f51_r9,f51_r10,f51_r11,f51_r15,f51_r16,f51_r19,f51_r26,go_sem]) | refine Kf ?_ | refine Kg ?_ | refine Kp (fun _ => ?_) (fun _ => ?_) | ((first | refine Kh ?_ | refine Ki rfl ?_); simp only [f51_r0,f51_r1,f51_r2,f51_r3,f51_r9,f51_r10,f51_r11,f51_r15,f51_r16,f51_r19,f51_r26,or_self,Qs,Qt,Qu,Qv,Qw,Qx,Qy,Qz,Za,go_sem]))
theorem keys (g : Gr) (i : Int) (hg : Small g) : Does QP gp 50 [g.v,vi i] (.tup [.one (.d (.sl (scs (keysOf (ndAt g.l i))))),vi (atE g.l i)]) := by
 refine f50_in ?_
 simp only [go_sem]
 obtain ⟨h1,h2⟩ := hg.at i
 have ha := at_node (gp := gp) g i
 generalize ndAt g.l i = x at *
 generalize atE g.l i = e at *
 generalize atN g.l i = n at *
 have hq := pairsOf_len x
 have hk : keysOf x = (pairsOf x).map Pr.key := rfl
 repeat' (first | refine Kn rfl ?_ | ((first | refine Ka ?_ | refine Kb ?_ | refine Kc ?_ | refine Kd ?_ | refine Ke ?_); simp only [f50_r0,f50_r1,f50_r2,f50_r3,f50_r4,f50_r8,f50_r9,f50_r12,f50_r19,go_sem]) | refine Kf ?_ | refine Kg ?_ | refine ⟨_,ha,Kg ?_⟩ | refine ⟨_,⟨ha,rfl⟩,Kg ?_⟩ | refine ⟨_,pairs x n (by omega),Kg ?_⟩ | refine ⟨_,⟨pairs x n (by omega),rfl⟩,Kg ?_⟩ | refine Kp (fun _ => ?_) (fun _ => ?_) | ((first | refine Kh ?_ | refine Ki rfl ?_); simp only [f50_r0,f50_r1,f50_r2,f50_r3,f50_r4,f50_r8,f50_r9,f50_r12,f50_r19,or_self,Qs,Qt,Qu,Qv,Qw,Qx,Qy,Qz,Za,go_sem]))
 rw [hk]
 refine G_row0 8 3 (by decide) rfl ?_
 simp only [go_sem]
 refine Kj (fr 32 [(7,vi e),(8,.one (.own 1 (0 : Nat))),(18,.one (.d (.sl (prs (pairsOf x))))),(19,vi (pairsOf x).length),(20,vi (0 : Nat))]) (by (simp only [go_sem]; repeat' (first | refine Kp ?_ ?_ | exact Or.inl rfl | exact Or.inr rfl | rfl))) ?_
 refine Km (fun mz sz => ∃ i : Nat,i <= (pairsOf x).length /\ mz = (pairsOf x).length - i /\ (0 <= i) /\ sz = ⟨fr 32 [(7,vi e),(8,.one (.own 1 i)),(18,.one (.d (.sl (prs (pairsOf x))))),(19,vi (pairsOf x).length),(20,vi i)],[.cells _,.row 3 i (scs (((pairsOf x).map Pr.key).take i))]⟩) ((pairsOf x).length) ⟨0,Nat.zero_le _,(Nat.sub_zero _).symm,?_,rfl⟩ ?_
 ·exact Nat.zero_le _
 rintro _ _ ⟨i,hi,rfl,-,rfl⟩
 simp only [go_sem]
 by_cases hil : i < (pairsOf x).length
 ·obtain ⟨p,hp⟩ := at_lt hil
  repeat' (first | refine Kn rfl ?_ | ((first | refine Ka ?_ | refine Kb ?_ | refine Kc ?_ | refine Kd ?_ | refine Ke ?_); simp only [f50_r0,f50_r1,f50_r2,f50_r3,f50_r4,f50_r8,f50_r9,f50_r12,f50_r19,go_sem]) | refine Kf ?_ | refine Kg ?_ | refine ⟨_,⟨Kq _,(by first | exact map_at hp | (rw [Int.toNat_natCast]; exact map_at hp)),rfl⟩,Kg ?_⟩ | refine Kp (fun _ => ?_) (fun _ => ?_) | ((first | refine Kh ?_ | refine Ki rfl ?_); simp only [f50_r0,f50_r1,f50_r2,f50_r3,f50_r4,f50_r8,f50_r9,f50_r12,f50_r19,or_self,Qs,Qt,Qu,Qv,Qw,Qx,Qy,Qz,Za,go_sem]))
  ·refine ⟨by simp,by simp; omega,by simp [lenMax]; omega,?_⟩
   rw [show scs (((pairsOf x).map Pr.key).take i) ++ [_] = scs (((pairsOf x).map Pr.key).take (i + 1)) from scs_snoc (by rw [List.getElem?_map,hp]; rfl)]
   repeat' (first | refine Kn rfl ?_ | ((first | refine Ka ?_ | refine Kb ?_ | refine Kc ?_ | refine Kd ?_ | refine Ke ?_); simp only [f50_r0,f50_r1,f50_r2,f50_r3,f50_r4,f50_r8,f50_r9,f50_r12,f50_r19,go_sem]) | refine Kf ?_ | refine Kg ?_ | refine Kp (fun _ => ?_) (fun _ => ?_) | ((first | refine Kh ?_ | refine Ki rfl ?_); simp only [f50_r0,f50_r1,f50_r2,f50_r3,f50_r4,f50_r8,f50_r9,f50_r12,f50_r19,or_self,Qs,Qt,Qu,Qv,Qw,Qx,Qy,Qz,Za,go_sem]))
   refine ⟨inK_nat hil (by unfold lenMax; omega),?_⟩
   refine Kj (fr 32 [(7,vi e),(8,.one (.own 1 (i + 1))),(18,.one (.d (.sl (prs (pairsOf x))))),(19,vi (pairsOf x).length),(20,vi (i + 1))]) (by (simp only [go_sem]; repeat' (first | refine Kp ?_ ?_ | exact Or.inl rfl | exact Or.inr rfl | rfl))) ?_
   refine Kk 2 (by simp only [List.length_nil,List.length_cons]; decide) (by simp only [go_sem]) (by simp only [go_sem]) ?_
   simp only [go_sem]
   refine Kl ⟨(pairsOf x).length - (i + 1),by omega,i + 1,by omega,rfl,?_,rfl⟩
   exact Nat.zero_le _
  ·omega
 ·repeat refine Ko rfl ?_
  refine Ka ?_
  simp only [f50_r4,go_sem]
  repeat refine Ko rfl ?_
  refine Ke ?_
  simp only [go_sem]
  refine ⟨fun h => by exfalso; omega,fun _ => G_exit rfl ?_⟩
  rw [List.take_of_length_le (by simp; omega)]
  refine G_freeze 1 ?_
  simp only [go_sem]
  repeat' (first | refine Kn rfl ?_ | ((first | refine Ka ?_ | refine Kb ?_ | refine Kc ?_ | refine Kd ?_ | refine Ke ?_); simp only [f50_r0,f50_r1,f50_r2,f50_r3,f50_r4,f50_r8,f50_r9,f50_r12,f50_r19,go_sem]) | refine Kf ?_ | refine Kg ?_ | refine Kp (fun _ => ?_) (fun _ => ?_) | ((first | refine Kh ?_ | refine Ki rfl ?_); simp only [f50_r0,f50_r1,f50_r2,f50_r3,f50_r4,f50_r8,f50_r9,f50_r12,f50_r19,or_self,Qs,Qt,Qu,Qv,Qw,Qx,Qy,Qz,Za,go_sem]))
def findIn (l : List Sc) (m : List Int) (key : Sc) : Int × Bool :=
 match (List.zip l m).find? fun p => decide (p.1 = key) with
 | some p => (p.2,true)
 | none => (0,false)
def findOf (x : Nd) (key : Sc) : Int × Bool := if x.k = 2 then findIn x.keys x.kids key else (0,false)
def Nd.cut (x : Nd) : Nd := ⟨x.k,x.x.cut,(x.keys.take 12).map Sc.cut,x.kids.take 12⟩
def Gr.cut (g : Gr) : Gr := ⟨g.root,(g.l.take 201).map Nd.cut⟩
theorem Gr.cut_small (g : Gr) : Small g.cut := by
 intro x hx
 obtain ⟨y,_,rfl⟩ := List.mem_map.1 hx
 simp [Nd.cut]; omega
theorem nds_snoc {l : List Nd} {i : Nat} {p : Nd} (h : l[i]? = some p) : nds (l.take i) ++ [p.ds] = nds (l.take (i + 1)) := by
 rw [<- take_snoc h]; simp [nds]
theorem cut_gr (g : Gr) : Does QP gp 24 [g.v] g.cut.v := by
 refine f24_in ?_
 simp only [go_sem]
 repeat' (first | refine Kn rfl ?_ | ((first | refine Ka ?_ | refine Kb ?_ | refine Kc ?_ | refine Kd ?_ | refine Ke ?_); simp only [go_sem]) | refine Kf ?_ | refine Kg ?_ | refine Kp (fun _ => ?_) (fun _ => ?_) | ((first | refine Kh ?_ | refine Ki rfl ?_); simp only [or_self,Qs,Qt,Qu,Qv,Qw,Qx,Qy,Qz,Za,go_sem]))
 refine G_row0c 1 1 6 (by decide) rfl rfl ?_
 simp only [go_sem]
 obtain ⟨M,hM⟩ : ∃ M,M = min g.l.length 201 := ⟨_,rfl⟩
 refine Kj (fr 84 [(1,.one (.d (.bx [.int .i64 g.root,.sl (nds g.l)]))),(2,.one (.ptr 0 0)),(3,.one (.ptr 1 0)),(4,vi (0 : Nat))]) (by (simp only [go_sem]; repeat' (first | refine Kp ?_ ?_ | exact Or.inl rfl | exact Or.inr rfl | rfl))) ?_
 refine Km (fun mz sz => ∃ i : Nat,i <= M /\ mz = M - i /\ (0 <= i) /\ sz = ⟨fr 84 [(1,.one (.d (.bx [.int .i64 g.root,.sl (nds g.l)]))),(2,.one (.ptr 0 0)),(3,.one (.ptr 1 0)),(4,vi i)],[.cells [.d (.int .i64 0),.nil],.cells [.d (.int .i64 g.root),.own 2 i],.row 6 i (nds ((g.l.map Nd.cut).take i))]⟩) (M) ⟨0,Nat.zero_le _,(Nat.sub_zero _).symm,?_,rfl⟩ ?_
 ·exact Nat.zero_le _
 rintro _ _ ⟨i,hi,rfl,-,rfl⟩
 simp only [go_sem]
 by_cases hil : i < M
 ·obtain ⟨x,hx⟩ := at_lt (l := g.l) (i := i) (by omega)
  repeat' (first | refine Ko rfl ?_ | ((first | refine Ka ?_ | refine Kb ?_ | refine Kc ?_ | refine Kd ?_ | refine Ke ?_); simp only [go_sem]) | refine Kf ?_ | refine Kg ?_ | refine ⟨_,cut_sc x.x,Kg ?_⟩ | refine ⟨_,⟨cut_sc x.x,rfl⟩,Kg ?_⟩ | refine ⟨_,⟨Kq _,(by first | exact map_at hx | (rw [Int.toNat_natCast]; exact map_at hx)),rfl⟩,Kg ?_⟩ | refine Kp (fun _ => ?_) (fun _ => ?_) | ((first | refine Kh ?_ | refine Ki rfl ?_); simp only [or_self,Qs,Qt,Qu,Qv,Qw,Qx,Qy,Qz,Za,go_sem]))
  ·obtain ⟨K,hK⟩ : ∃ K,K = min x.keys.length 12 := ⟨_,rfl⟩
   obtain ⟨L,hL⟩ : ∃ L,L = min x.kids.length 12 := ⟨_,rfl⟩
   have hcut : (Nd.cut x).ds = [.int .i64 x.k,.int .i64 x.x.cut.k,.int .i64 x.x.cut.n,.str x.x.cut.s,.sl (scs ((x.keys.map Sc.cut).take K)),.sl (ints (x.kids.take L))] := by
    have e1 : (x.keys.take 12).map Sc.cut = (x.keys.map Sc.cut).take K := by rw [List.map_take,hK,<- List.length_map (f := Sc.cut),Nat.min_comm,<- List.take_eq_take_min]
    have e2 : x.kids.take 12 = x.kids.take L := by rw [hL,Nat.min_comm,<- List.take_eq_take_min]
    simp only [Nd.cut,e1,e2]
   have hx2 : (g.l.map Nd.cut)[i]? = some x.cut := by rw [List.getElem?_map,hx]; rfl
   have hkl : (x.keys.map Sc.cut).length = x.keys.length := List.length_map _
   refine G_row0c 4 4 3 (by decide) rfl rfl ?_
   simp only [go_sem]
   refine G_row0c 4 5 1 (by decide) rfl rfl ?_
   simp only [go_sem]
   refine Kj (fr 84 [(1,.one (.d (.bx [.int .i64 g.root,.sl (nds g.l)]))),(2,.one (.ptr 0 0)),(3,.one (.ptr 1 0)),(4,vi i),(5,.one (.ptr 3 0)),(6,.one (.ptr 4 0)),(7,vi (0 : Nat))]) (by (simp only [go_sem]; repeat' (first | refine Kp ?_ ?_ | exact Or.inl rfl | exact Or.inr rfl | rfl))) ?_
   refine Km (fun mz sz => ∃ j : Nat,j <= K /\ mz = K - j /\ (0 <= j) /\ sz = ⟨fr 84 [(1,.one (.d (.bx [.int .i64 g.root,.sl (nds g.l)]))),(2,.one (.ptr 0 0)),(3,.one (.ptr 1 0)),(4,vi i),(5,.one (.ptr 3 0)),(6,.one (.ptr 4 0)),(7,vi j)],[.cells [.d (.int .i64 0),.nil],.cells [.d (.int .i64 g.root),.own 2 i],.row 6 i (nds ((g.l.map Nd.cut).take i)),.cells x.as,.cells [.d (.int .i64 x.k),.d (.int .i64 x.x.cut.k),.d (.int .i64 x.x.cut.n),.d (.str x.x.cut.s),.own 5 j,.own 6 0],.row 3 j (scs ((x.keys.map Sc.cut).take j)),.row 1 0 []]⟩) (K) ⟨0,Nat.zero_le _,(Nat.sub_zero _).symm,?_,rfl⟩ ?_
   ·exact Nat.zero_le _
   ·rintro _ _ ⟨j,hj,rfl,-,rfl⟩
    simp only [go_sem]
    by_cases hjl : j < K
    ·obtain ⟨y,hy⟩ := at_lt (l := x.keys) (i := j) (by omega)
     have hy2 : (x.keys.map Sc.cut)[j]? = some y.cut := by rw [List.getElem?_map,hy]; rfl
     repeat' (first | refine Ko rfl ?_ | ((first | refine Ka ?_ | refine Kb ?_ | refine Kc ?_ | refine Kd ?_ | refine Ke ?_); simp only [go_sem]) | refine Kf ?_ | refine Kg ?_ | refine ⟨_,cut_sc y,Kg ?_⟩ | refine ⟨_,⟨cut_sc y,rfl⟩,Kg ?_⟩ | refine ⟨_,⟨Kq _,(by first | exact map_at hy | (rw [Int.toNat_natCast]; exact map_at hy)),rfl⟩,Kg ?_⟩ | refine Kp (fun _ => ?_) (fun _ => ?_) | ((first | refine Kh ?_ | refine Ki rfl ?_); simp only [or_self,Qs,Qt,Qu,Qv,Qw,Qx,Qy,Qz,Za,go_sem]))
     ·refine ⟨by simp,by simp; omega,by simp [lenMax]; omega,?_⟩
      rw [show scs ((x.keys.map Sc.cut).take j) ++ [_] = scs ((x.keys.map Sc.cut).take (j + 1)) from scs_snoc hy2]
      repeat' (first | refine Ko rfl ?_ | ((first | refine Ka ?_ | refine Kb ?_ | refine Kc ?_ | refine Kd ?_ | refine Ke ?_); simp only [go_sem]) | refine Kf ?_ | refine Kg ?_ | refine Kp (fun _ => ?_) (fun _ => ?_) | ((first | refine Kh ?_ | refine Ki rfl ?_); simp only [or_self,Qs,Qt,Qu,Qv,Qw,Qx,Qy,Qz,Za,go_sem]))
      refine ⟨inK_nat hjl (by unfold lenMax; omega),?_⟩
      refine Kj (fr 84 [(1,.one (.d (.bx [.int .i64 g.root,.sl (nds g.l)]))),(2,.one (.ptr 0 0)),(3,.one (.ptr 1 0)),(4,vi i),(5,.one (.ptr 3 0)),(6,.one (.ptr 4 0)),(7,vi (j + 1))]) (by (simp only [go_sem]; repeat' (first | refine Kp ?_ ?_ | exact Or.inl rfl | exact Or.inr rfl | rfl))) ?_
      refine Kl ⟨K - (j + 1),by omega,j + 1,by omega,rfl,?_,rfl⟩
      exact Nat.zero_le _
     all_goals (exfalso; omega)
    ·obtain rfl : K = j := by omega
     repeat' (first | refine Ko rfl ?_ | ((first | refine Ka ?_ | refine Kb ?_ | refine Kc ?_ | refine Kd ?_ | refine Ke ?_); simp only [go_sem]) | refine Kf ?_ | refine Kg ?_ | refine Kp (fun _ => ?_) (fun _ => ?_) | ((first | refine Kh ?_ | refine Ki rfl ?_); simp only [or_self,Qs,Qt,Qu,Qv,Qw,Qx,Qy,Qz,Za,go_sem]))
     all_goals first | (exfalso; omega) | skip
     all_goals
      refine G_exit rfl ?_
      repeat' (first | refine Ko rfl ?_ | ((first | refine Ka ?_ | refine Kb ?_ | refine Kc ?_ | refine Kd ?_ | refine Ke ?_); simp only [go_sem]) | refine Kf ?_ | refine Kg ?_ | refine Kp (fun _ => ?_) (fun _ => ?_) | ((first | refine Kh ?_ | refine Ki rfl ?_); simp only [or_self,Qs,Qt,Qu,Qv,Qw,Qx,Qy,Qz,Za,go_sem]))
      refine Kj (fr 84 [(1,.one (.d (.bx [.int .i64 g.root,.sl (nds g.l)]))),(2,.one (.ptr 0 0)),(3,.one (.ptr 1 0)),(4,vi i),(5,.one (.ptr 3 0)),(6,.one (.ptr 4 0)),(8,vi (0 : Nat))]) (by (simp only [go_sem]; repeat' (first | refine Kp ?_ ?_ | exact Or.inl rfl | exact Or.inr rfl | rfl))) ?_
      refine Km (fun mz sz => ∃ j : Nat,j <= L /\ mz = L - j /\ (0 <= j) /\ sz = ⟨fr 84 [(1,.one (.d (.bx [.int .i64 g.root,.sl (nds g.l)]))),(2,.one (.ptr 0 0)),(3,.one (.ptr 1 0)),(4,vi i),(5,.one (.ptr 3 0)),(6,.one (.ptr 4 0)),(8,vi j)],[.cells [.d (.int .i64 0),.nil],.cells [.d (.int .i64 g.root),.own 2 i],.row 6 i (nds ((g.l.map Nd.cut).take i)),.cells x.as,.cells [.d (.int .i64 x.k),.d (.int .i64 x.x.cut.k),.d (.int .i64 x.x.cut.n),.d (.str x.x.cut.s),.own 5 K,.own 6 j],.row 3 K (scs ((x.keys.map Sc.cut).take K)),.row 1 j (ints (x.kids.take j))]⟩) (L) ⟨0,Nat.zero_le _,(Nat.sub_zero _).symm,?_,rfl⟩ ?_
      ·exact Nat.zero_le _
      rintro _ _ ⟨j,hj,rfl,-,rfl⟩
      simp only [go_sem]
      by_cases hjl : j < L
      ·obtain ⟨y,hy⟩ := at_lt (l := x.kids) (i := j) (by omega)
       repeat' (first | refine Ko rfl ?_ | ((first | refine Ka ?_ | refine Kb ?_ | refine Kc ?_ | refine Kd ?_ | refine Ke ?_); simp only [go_sem]) | refine Kf ?_ | refine Kg ?_ | refine ⟨_,⟨Kq _,(by first | exact map_at hy | (rw [Int.toNat_natCast]; exact map_at hy)),rfl⟩,Kg ?_⟩ | refine Kp (fun _ => ?_) (fun _ => ?_) | ((first | refine Kh ?_ | refine Ki rfl ?_); simp only [or_self,Qs,Qt,Qu,Qv,Qw,Qx,Qy,Qz,Za,go_sem]))
       ·refine ⟨by simp,by simp; omega,by simp [lenMax]; omega,?_⟩
        rw [show ints (x.kids.take j) ++ [_] = ints (x.kids.take (j + 1)) from ints_snoc hy]
        repeat' (first | refine Ko rfl ?_ | ((first | refine Ka ?_ | refine Kb ?_ | refine Kc ?_ | refine Kd ?_ | refine Ke ?_); simp only [go_sem]) | refine Kf ?_ | refine Kg ?_ | refine Kp (fun _ => ?_) (fun _ => ?_) | ((first | refine Kh ?_ | refine Ki rfl ?_); simp only [or_self,Qs,Qt,Qu,Qv,Qw,Qx,Qy,Qz,Za,go_sem]))
        refine ⟨inK_nat hjl (by unfold lenMax; omega),?_⟩
        refine Kj (fr 84 [(1,.one (.d (.bx [.int .i64 g.root,.sl (nds g.l)]))),(2,.one (.ptr 0 0)),(3,.one (.ptr 1 0)),(4,vi i),(5,.one (.ptr 3 0)),(6,.one (.ptr 4 0)),(8,vi (j + 1))]) (by (simp only [go_sem]; repeat' (first | refine Kp ?_ ?_ | exact Or.inl rfl | exact Or.inr rfl | rfl))) ?_
        refine Kl ⟨L - (j + 1),by omega,j + 1,by omega,rfl,?_,rfl⟩
        exact Nat.zero_le _
       all_goals (exfalso; omega)
      ·obtain rfl : L = j := by omega
       repeat' (first | refine Ko rfl ?_ | ((first | refine Ka ?_ | refine Kb ?_ | refine Kc ?_ | refine Kd ?_ | refine Ke ?_); simp only [go_sem]) | refine Kf ?_ | refine Kg ?_ | refine Kp (fun _ => ?_) (fun _ => ?_) | ((first | refine Kh ?_ | refine Ki rfl ?_); simp only [or_self,Qs,Qt,Qu,Qv,Qw,Qx,Qy,Qz,Za,go_sem]))
       all_goals first | (exfalso; omega) | skip
       all_goals
        refine G_exit rfl ?_
        refine G_freeze 5 ?_
        simp only [go_sem]
        refine G_freeze 6 ?_
        simp only [go_sem]
        repeat' (first | refine Ko rfl ?_ | ((first | refine Ka ?_ | refine Kb ?_ | refine Kc ?_ | refine Kd ?_ | refine Ke ?_); simp only [go_sem]) | refine Kf ?_ | refine Kg ?_ | refine Kp (fun _ => ?_) (fun _ => ?_) | ((first | refine Kh ?_ | refine Ki rfl ?_); simp only [or_self,Qs,Qt,Qu,Qv,Qw,Qx,Qy,Qz,Za,go_sem]))
        refine ⟨by simp,by simp; omega,by simp [lenMax]; omega,?_⟩
        rw [show nds ((g.l.map Nd.cut).take i) ++ [_] = nds ((g.l.map Nd.cut).take (i + 1)) from by rw [<- hcut]; exact nds_snoc hx2]
        repeat' (first | refine Ko rfl ?_ | ((first | refine Ka ?_ | refine Kb ?_ | refine Kc ?_ | refine Kd ?_ | refine Ke ?_); simp only [go_sem]) | refine Kf ?_ | refine Kg ?_ | refine Kp (fun _ => ?_) (fun _ => ?_) | ((first | refine Kh ?_ | refine Ki rfl ?_); simp only [or_self,Qs,Qt,Qu,Qv,Qw,Qx,Qy,Qz,Za,go_sem]))
        refine ⟨inK_nat hil (by unfold lenMax; omega),?_⟩
        refine Kj (fr 84 [(1,.one (.d (.bx [.int .i64 g.root,.sl (nds g.l)]))),(2,.one (.ptr 0 0)),(3,.one (.ptr 1 0)),(4,vi (i + 1))]) (by (simp only [go_sem]; repeat' (first | refine Kp ?_ ?_ | exact Or.inl rfl | exact Or.inr rfl | rfl))) ?_
        refine Kk 3 (by simp only [List.length_nil,List.length_cons]; decide) (by simp only [go_sem]) (by simp only [go_sem]) ?_
        simp only [go_sem]
        refine Kl ⟨M - (i + 1),by omega,i + 1,by omega,rfl,?_,rfl⟩
        exact Nat.zero_le _
  all_goals (exfalso; omega)
 ·obtain rfl : M = i := by omega
  repeat' (first | refine Ko rfl ?_ | ((first | refine Ka ?_ | refine Kb ?_ | refine Kc ?_ | refine Kd ?_ | refine Ke ?_); simp only [go_sem]) | refine Kf ?_ | refine Kg ?_ | refine Kp (fun _ => ?_) (fun _ => ?_) | ((first | refine Kh ?_ | refine Ki rfl ?_); simp only [or_self,Qs,Qt,Qu,Qv,Qw,Qx,Qy,Qz,Za,go_sem]))
  all_goals first | (exfalso; omega) | skip
  all_goals
   refine G_exit rfl ?_
   refine G_freeze 2 ?_
   simp only [go_sem]
   repeat' (first | refine Ko rfl ?_ | ((first | refine Ka ?_ | refine Kb ?_ | refine Kc ?_ | refine Kd ?_ | refine Ke ?_); simp only [go_sem]) | refine Kf ?_ | refine Kg ?_ | refine Kp (fun _ => ?_) (fun _ => ?_) | ((first | refine Kh ?_ | refine Ki rfl ?_); simp only [or_self,Qs,Qt,Qu,Qv,Qw,Qx,Qy,Qz,Za,go_sem]))
   have e1 : (g.l.take 201).map Nd.cut = (g.l.map Nd.cut).take M := by rw [List.map_take,hM,<- List.length_map (f := Nd.cut),Nat.min_comm,<- List.take_eq_take_min]
   exact ⟨rfl,by rw [<- e1]; rfl⟩
def AsOK (gp : Heap) : Prop := ∀ e : Option (Int × Int),Tri QP gp 68 [errV e,.one (.ifo 176 (.ptr 0 0))] [.cells [.d (.int .i64 0),.d (.int .i64 0)]] fun r post => r = vb e.isSome /\ post = [.cells [.d (.int .i64 (e.getD (0,0)).1),.d (.int .i64 (e.getD (0,0)).2)]]
section
variable (R : ByteArray -> Bool) (hR : ∀ s,Does QP gp 63 [vs s] (vb (R s))) (hA : AsOK gp) (hok : callable QP 68 = true)
include hA hok
theorem told (e : Option (Int × Int)) : Does QP gp 71 [errV e] (.tup [vi (e.getD (0,0)).1,vi (e.getD (0,0)).2]) := by
 refine f71_in ?_
 simp only [go_sem]
 repeat' (first | refine Kn rfl ?_ | ((first | refine Ka ?_ | refine Kb ?_ | refine Kc ?_ | refine Kd ?_ | refine Ke ?_); simp only [go_sem]) | refine Kf ?_ | refine Kg ?_ | refine Kp (fun _ => ?_) (fun _ => ?_) | ((first | refine Kh ?_ | refine Ki rfl ?_); simp only [or_self,Qs,Qt,Qu,Qv,Qw,Qx,Qy,Qz,Za,go_sem]))
 refine Or.inr ⟨[0],vb e.isSome,[.cells [.d (.int .i64 (e.getD (0,0)).1),.d (.int .i64 (e.getD (0,0)).2)]],(by simp only [CallR,go_sem]; exact ⟨hok,hA e⟩),Kg ?_⟩
 simp only [go_sem]
 repeat' (first | refine Kn rfl ?_ | ((first | refine Ka ?_ | refine Kb ?_ | refine Kc ?_ | refine Kd ?_ | refine Ke ?_); simp only [go_sem]) | refine Kf ?_ | refine Kg ?_ | refine Kp (fun _ => ?_) (fun _ => ?_) | ((first | refine Kh ?_ | refine Ki rfl ?_); simp only [or_self,Qs,Qt,Qu,Qv,Qw,Qx,Qy,Qz,Za,go_sem]))
 rename_i h
 cases e with
 | none => exact ⟨rfl,rfl⟩
 | some e => simp at h
include hR
theorem check_gr (g : Gr) : Does QP gp 47 [g.v] (.tup [vi ((checkR R g).getD (0,0)).1,vi ((checkR R g).getD (0,0)).2]) := by
 refine f47_in ?_
 simp only [go_sem]
 repeat' (first | refine Kn rfl ?_ | ((first | refine Ka ?_ | refine Kb ?_ | refine Kc ?_ | refine Kd ?_ | refine Ke ?_); simp only [go_sem]) | refine Kf ?_ | refine Kg ?_ | refine ⟨_,check R hR _,Kg ?_⟩ | refine ⟨_,⟨check R hR _,rfl⟩,Kg ?_⟩ | refine ⟨_,told hA hok _,Kg ?_⟩ | refine ⟨_,⟨told hA hok _,rfl⟩,Kg ?_⟩ | refine Kp (fun _ => ?_) (fun _ => ?_) | ((first | refine Kh ?_ | refine Ki rfl ?_); simp only [or_self,Qs,Qt,Qu,Qv,Qw,Qx,Qy,Qz,Za,go_sem]))
end
end Go.Fw.L07
namespace Go.Fw.L07
open Go Go.Fw Go.Shelf
open Go.Fw.Sh renaming intro -> Kg
open Go.Fw renaming G_reg -> Ka,VO_chk -> Kb,VO_go -> Kc,VO_gx -> Kd,G_cond -> Ke,VO_end -> Kf,G_fin -> Kh,G_ret -> Ki,G_weak -> Kj,G_again -> Kl,G_loop -> Km,Gx -> Kn
open And renaming intro -> Kp
open Go.Fw.V.one renaming injEq -> Qs
open Go.Fw.V.agg renaming injEq -> Qt
open Go.Fw.V.tup renaming injEq -> Qu
open Go.Fw.A.d renaming injEq -> Qv
open Go.Fw.D.bool renaming injEq -> Qw
open Go.Fw.D.int renaming injEq -> Qx
open Go.Fw.D.str renaming injEq -> Qy
open Go.Fw.D.sl renaming injEq -> Qz
open List.cons renaming injEq -> Za
set_option maxRecDepth 4000
variable {gp : Heap}
def utfRen : Ren := ⟨fun | 197 => 93 | 260 => 134 | n => n,
 fun | 21 => 21 | 46 => 160 | 105 => 150 | 119 => 237 | 138 => 239 | 139 => 240 | n => n,
 fun | 3 => 1 | 4 => 2 | n => n⟩
theorem utfLays : Go.Proofs.Lays.n197 Go.Proofs.Tryz.prog utfRen := {
 mixed := by kernel_rfl
 f197 := by kernel_rfl
 f260 := by kernel_rfl
 t0 := by kernel_rfl
 a0 := fun w => by kernel_rfl
 z0 := fun w => by kernel_rfl
 v0 := fun w => by kernel_rfl
 t3 := by kernel_rfl
 a3 := fun w => by kernel_rfl
 z3 := fun w => by kernel_rfl
 v3 := fun w => by kernel_rfl
 t4 := by kernel_rfl
 a4 := fun w => by kernel_rfl
 z4 := fun w => by kernel_rfl
 v4 := fun w => by kernel_rfl
 t5 := by kernel_rfl
 a5 := fun w => by kernel_rfl
 z5 := fun w => by kernel_rfl
 v5 := fun w => by kernel_rfl
 t9 := by kernel_rfl
 a9 := fun w => by kernel_rfl
 z9 := fun w => by kernel_rfl
 v9 := fun w => by kernel_rfl
 t21 := by kernel_rfl
 a21 := fun w => by kernel_rfl
 z21 := fun w => by kernel_rfl
 v21 := fun w => by kernel_rfl
 t46 := by kernel_rfl
 a46 := fun w => by kernel_rfl
 z46 := fun w => by kernel_rfl
 v46 := fun w => by kernel_rfl
 t105 := by kernel_rfl
 a105 := fun w => by kernel_rfl
 z105 := fun w => by kernel_rfl
 v105 := fun w => by kernel_rfl
 t119 := by kernel_rfl
 a119 := fun w => by kernel_rfl
 z119 := fun w => by kernel_rfl
 t138 := by kernel_rfl
 a138 := fun w => by kernel_rfl
 z138 := fun w => by kernel_rfl
 v138 := fun w => by kernel_rfl
 t139 := by kernel_rfl
 a139 := fun w => by kernel_rfl
 z139 := fun w => by kernel_rfl
 v139 := fun w => by kernel_rfl
 g3 := by kernel_rfl
 g4 := by kernel_rfl }
def UtfOK (gp : Heap) : Prop := ∀ H w,Heap.Le gp H -> Models w H -> Lib.Utf8Tabs 1 2 w
theorem decode (hU : UtfOK gp) (s : ByteArray) : Does Go.Proofs.Tryz.prog gp 93 [vs s] (.tup [.one (.d (.int .i32 (Lib.decodeGo s).1)),vi (Lib.decodeGo s).2]) := by
 refine ⟨by kernel_rfl,?_⟩
 intro H w an F us hgp hmod hanc hown hF hdj hargs
 obtain ⟨u,rfl,hu⟩ : ∃ u,us = [u] /\ Den H (.str s) u := by
  cases us with
  | nil => exact hargs.elim
  | cons u us => cases us with
   | nil => exact ⟨u,rfl,hargs.1⟩
   | cons _ _ => exact hargs.2.elim
 cases hu
 have hc := Go.Proofs.Any.utf8_DecodeRuneInString utfLays s w (hU H w hgp hmod)
 intro cs
 obtain ⟨e,w',fr,⟨rfl,hb⟩,h2,h3,h4⟩ := hc cs
 refine ⟨_,w',fr,⟨_,_,[],H,fun _ => none,fun _ _ => False,rfl,⟨rfl,rfl⟩,⟨hb.os,hb.tape,hb.output,hb.size,fun b hlt _ => hb.block b hlt⟩,Heap.Le.refl _,fun b o hbo => ?_,fun b o hbo => .inl hbo,⟨fun i p hp => ?_⟩,by simp,by simp,by simp,by simp,?_⟩,h2,h3,h4⟩
 ·have := hmod b o hbo
  exact (hb.block b (Array.getElem?_eq_some_iff.1 this).1).trans this
 ·have := (hanc i).1 ⟨p,hp⟩; simp at this
 ·exact ⟨_,rfl,Den.int _ _,Den.int _ _,trivial⟩
def rightFrom (s : ByteArray) : Nat -> Nat -> Bool
 | 0,_ => true
 | n + 1,p => if p < s.size then (if (Utf8.decode s p).1 = 65533 /\ (Utf8.decode s p).2 = 1 then false else rightFrom s n (p + (Utf8.decode s p).2)) else true
def rightS (s : ByteArray) : Bool := rightFrom s s.size 0
theorem right_end {s : ByteArray} {f p : Nat} (h : ¬ p < s.size) : rightFrom s f p = true := by
 cases f with
 | zero => rfl
 | succ f => simp only [rightFrom,if_neg h]
theorem decode_tail {s : ByteArray} {p : Nat} (h : p < s.size) : Lib.decodeGo (s.extract p s.size) = Utf8.decode s p := by
 unfold Lib.decodeGo
 rw [if_neg (by rw [ByteArray.size_extract]; omega),Lib.tail_decode,Nat.add_zero]
theorem right_str (hU : UtfOK gp) (s : ByteArray) : Does Go.Proofs.Tryz.prog gp 63 [vs s] (vb (rightS s)) := by
 refine f63_in ?_
 simp only [go_sem]
 repeat' (first | refine Kn rfl ?_ | ((first | refine Ka ?_ | refine Kb ?_ | refine Kc ?_ | refine Kd ?_ | refine Ke ?_); simp only [go_sem]) | refine Kf ?_ | refine Kg ?_ | refine Kp (fun _ => ?_) (fun _ => ?_) | ((first | refine Kh ?_ | refine Ki rfl ?_); simp only [or_self,Qs,Qt,Qu,Qv,Qw,Qx,Qy,Qz,Za,go_sem]))
 refine Kj (fr 26 [(0,vs s),(8,.one (.own 0 0))]) (by (simp only [go_sem]; repeat' (first | refine Kp ?_ ?_ | exact Or.inl rfl | exact Or.inr rfl | rfl))) ?_
 refine Km (fun mz sz => ∃ p f : Nat,mz = s.size - p /\ s.size - p <= f /\ rightFrom s f p = rightS s /\ sz = ⟨fr 26 [(0,vs s),(8,.one (.own 0 0))],[.siter s p]⟩) s.size ⟨0,s.size,rfl,Nat.le_refl _,rfl,rfl⟩ ?_
 rintro _ _ ⟨p,f,rfl,hf,hr,rfl⟩
 simp only [go_sem]
 by_cases hp : p < s.size
 ·obtain ⟨f,rfl⟩ : ∃ g,f = g + 1 := ⟨f - 1,by omega⟩
  have hw := Lib.decode_width_pos s p hp
  have hd := decode_tail hp
  simp only [rightFrom,if_pos hp] at hr
  have hdec := decode hU (s.extract p s.size)
  rw [hd] at hdec
  repeat' (first | refine Kn rfl ?_ | ((first | refine Ka ?_ | refine Kb ?_ | refine Kc ?_ | refine Kd ?_ | refine Ke ?_); simp only [go_sem]) | refine Kf ?_ | refine Kg ?_ | refine ⟨_,hdec,Kg ?_⟩ | refine ⟨_,⟨hdec,rfl⟩,Kg ?_⟩ | refine ⟨p,s.size,⟨rfl,rfl,Nat.le_of_lt hp,Nat.le_refl _⟩,Kg ?_⟩ | refine Kp (fun _ => ?_) (fun _ => ?_) | ((first | refine Kh ?_ | refine Ki rfl ?_); simp only [or_self,Qs,Qt,Qu,Qv,Qw,Qx,Qy,Qz,Za,go_sem]))
  ·rename_i h1 h2
   rw [if_pos ⟨by simp at h1; omega,by simp at h2; omega⟩] at hr
   rw [<- hr]
  ·rename_i h1 h2
   rw [if_neg (by intro h3; simp [h3.2] at h2)] at hr
   refine Kj (fr 26 [(0,vs s),(8,.one (.own 0 0))]) (by (simp only [go_sem]; repeat' (first | refine Kp ?_ ?_ | exact Or.inl rfl | exact Or.inr rfl | rfl))) ?_
   exact Kl ⟨s.size - (p + (Utf8.decode s p).2),by omega,p + (Utf8.decode s p).2,f,rfl,by omega,hr,rfl⟩
  ·rename_i h1
   rw [if_neg (by intro h3; simp [h3.1] at h1)] at hr
   refine Kj (fr 26 [(0,vs s),(8,.one (.own 0 0))]) (by (simp only [go_sem]; repeat' (first | refine Kp ?_ ?_ | exact Or.inl rfl | exact Or.inr rfl | rfl))) ?_
   exact Kl ⟨s.size - (p + (Utf8.decode s p).2),by omega,p + (Utf8.decode s p).2,f,rfl,by omega,hr,rfl⟩
  ·rename_i h; exact absurd hp h
 ·repeat' (first | refine Kn rfl ?_ | ((first | refine Ka ?_ | refine Kb ?_ | refine Kc ?_ | refine Kd ?_ | refine Ke ?_); simp only [go_sem]) | refine Kf ?_ | refine Kg ?_ | refine Kp (fun _ => ?_) (fun _ => ?_) | ((first | refine Kh ?_ | refine Ki rfl ?_); simp only [or_self,Qs,Qt,Qu,Qv,Qw,Qx,Qy,Qz,Za,go_sem]))
  ·rename_i h; exact absurd h hp
  ·rw [<- hr,right_end hp]
end Go.Fw.L07
