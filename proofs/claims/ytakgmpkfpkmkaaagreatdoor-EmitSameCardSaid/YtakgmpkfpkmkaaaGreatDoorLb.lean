/- Chapter 7,part 6: pairs in order. -/
import Derived.Test.YtakgmpkfpkmkaaaGreatDoorLa
import Derived.Shelf.Lays
import Derived.Shelf.Unicode.DecodeAny
import Derived.Lib.RuneCountTail
set_option linter.all false
namespace Go.Fw.L07
open Go Go.Fw
open Go.Fw.Sh renaming intro->Kg
open Go.Fw renaming Xkl->Ka,Xfi->Kb,Xko->Kv,Xfj->Ke,Xfl->Kf,Xkn->Kh,Xkm->Ki,Xdx->Kt,Xf0->Ku,Xdw->Kl,Xfz->Km,Gx->Kn,Gw->Ko
open Int renaming natCast_nonneg->Kq
open List renaming getElem?_eq_some_iff->Kr
open And renaming intro->Kp
open Go.Proofs.Tryz renaming prog->QP
open Go.Fw.V.one renaming injEq->Qs
open Go.Fw.V.agg renaming injEq->Qt
open Go.Fw.V.tup renaming injEq->Qu
open Go.Fw.A.d renaming injEq->Qv
open Go.Fw.D.bool renaming injEq->Qw
open Go.Fw.D.int renaming injEq->Qx
open Go.Fw.D.str renaming injEq->Qy
open Go.Fw.D.sl renaming injEq->Qz
open List.cons renaming injEq->Za
set_option maxRecDepth 4000
variable {gp:Heap}
structure Pr where
 key:Sc
 kid:Int
abbrev Pr.ds (p:Pr):List D:=[.int .i64 p.key.k,.int .i64 p.key.n,.str p.key.s,.int .i64 p.kid]
abbrev Pr.as (p:Pr):List A:=[.d (.int .i64 p.key.k),.d (.int .i64 p.key.n),.d (.str p.key.s),.d (.int .i64 p.kid)]
abbrev Pr.v (p:Pr):V:=.agg p.as
abbrev prs (l:List Pr):List (List D):=l.map Pr.ds
def Xqd {α:Type} (c:α->α->Int) (x:α) (p:List α):Nat->List α
 | 0=>x::p
 | j+1=>match p[j]? with
  | some y=>if c x y < 0 then Xqd c x p j else p.take (j+1)++x::p.drop (j+1)
  | none=>p++[x]
def Xbt {α:Type} (c:α->α->Int) (l:List α):Nat->List α
 | 0=>[]
 | i+1=>match l[i]? with
  | some x=>Xqd c x (Xbt c l i) i
  | none=>Xbt c l i
section
variable {α:Type} {c:α->α->Int}
theorem Xxx (x:α) (p:List α):∀ j,(Xqd c x p j).length=p.length+1
 | 0=>rfl
 | j+1=>by
  simp only[Xqd]
  split
  ·split
   ·exact Xxx x p j
   ·rename_i y h _
    have:=(Kr.1 h).1
    simp;omega
  ·simp
theorem Xer (l:List α):∀ i,i<=l.length->(Xbt c l i).length=i
 | 0,_=>rfl
 | i+1,h=>by
  obtain⟨x,hx⟩:=Xal (l:=l) (i:=i) (by omega)
  simp only[Xbt,hx]
  rw[Xxx,Xer l i (by omega)]
theorem Ya9 {x y:α} {p:List α} {j:Nat} (h:p[j]?=some y) (hc:c x y < 0):Xqd c x p (j+1)=Xqd c x p j:=by
 simp only[Xqd,h,if_pos hc]
theorem Xrm {x y:α} {p:List α} {j:Nat} (h:p[j]?=some y) (hc:¬ c x y < 0):Xqd c x p (j+1)=p.take (j+1)++x::p.drop (j+1):=by
 simp only[Xqd,h,if_neg hc]
def mid (p:List α) (x:α) (rest:List α) (j:Nat):List α:=p.take j++x::(p.drop j++rest)
theorem Y92 {p:List α} {x:α} {rest:List α} {j:Nat} (h:j<=p.length):(mid p x rest j).length=p.length+1+rest.length:=by
 unfold mid;simp;omega
theorem Wo1 {p:List α} {x:α} {rest:List α} {j:Nat} (h:j<=p.length):(mid p x rest j)[j]?=some x:=by
 unfold mid
 rw[List.getElem?_append_right (by simp;omega)]
 simp[Nat.min_eq_left h]
theorem Xxy {p:List α} {x:α} {rest:List α} {j:Nat} (h:j+1<=p.length):(mid p x rest (j+1))[j]?=p[j]?:=by
 unfold mid
 rw[List.getElem?_append_left (by simp;omega),List.getElem?_take]
 simp
theorem Ymz {p:List α} {x y:α} {rest:List α} {j:Nat} (hy:p[j]?=some y):((mid p x rest (j+1)).set (j+1) y).set j x=mid p x rest j:=by
 obtain⟨hj,rfl⟩:=Kr.1 hy
 have h1:mid p x rest (j+1)=p.take j++(p[j]::x::(p.drop (j+1)++rest)):=by
  unfold mid
  rw[List.take_succ,List.getElem?_eq_getElem hj,List.append_assoc];rfl
 have hl:(p.take j).length=j:=by simp;omega
 rw[h1,List.set_append_right _ _ (by omega),List.set_append_right _ _ (by omega),hl]
 unfold mid
 have h2:p.drop j=p[j]::p.drop (j+1):=List.drop_eq_getElem_cons hj
 rw[h2,Nat.add_sub_cancel_left,Nat.sub_self]
 rfl
theorem Yba {l:List α} {i:Nat} {x:α} (hx:l[i]?=some x):Xbt c l i++l.drop i=mid (Xbt c l i) x (l.drop (i+1)) i:=by
 obtain⟨hi,rfl⟩:=Kr.1 hx
 unfold mid
 have hn:(Xbt c l i).length=i:=Xer l i (by omega)
 have h1:(Xbt c l i).take i=Xbt c l i:=List.take_of_length_le (by omega)
 have h2:(Xbt c l i).drop i=[]:=List.drop_of_length_le (by omega)
 have h3:l.drop i=l[i]::l.drop (i+1):=List.drop_eq_getElem_cons hi
 rw[h1,h2,h3]
 rfl
end
theorem Ybb (l:List Pr) (j:Nat) (p:Pr):(prs l).set j p.ds=prs (l.set j p):=by
 simp[prs,List.map_set]
set_option maxRecDepth 10000 in
theorem Ybc (f:FuncId) (c:Pr->Pr->Int) (hf:∀ a b:Pr,Does QP gp f [a.v,b.v] (vi (c a b))) (l:List Pr) (ver:Nat) :
  Tri QP gp 169 [.one (.own 0 ver),vi 0,vi l.length,.one (.d (.fn (.func f) []))] [.row 4 ver (prs l)] fun r post=>r=.tup []/\post=[.row 4 ver (prs (Xbt c l l.length))]:=by
 refine Yl9 ?_
 simp only[go_sem]
 repeat' first|refine Kn rfl ?_|((first|refine Ka ?_|refine Kb ?_|refine Kv ?_|refine Ke ?_);simp only[go_sem])|refine Kf ?_|refine Kg ?_|apply Kp<;>intro _|((first|refine Kh ?_|refine Ki rfl ?_);simp only[or_self,Qs,Qt,Qu,Qv,Qw,Qx,Qy,Qz,Za,go_sem])
 refine⟨by simp[inK,IntKind.min,IntKind.max,IntKind.signed,IntKind.bits],?_⟩
 repeat' first|refine Kn rfl ?_|((first|refine Ka ?_|refine Kb ?_|refine Kv ?_|refine Ke ?_);simp only[go_sem])|refine Kf ?_|refine Kg ?_|apply Kp<;>intro _|((first|refine Kh ?_|refine Ki rfl ?_);simp only[or_self,Qs,Qt,Qu,Qv,Qw,Qx,Qy,Qz,Za,go_sem])
 refine Wh7 0 rfl fun hl=>?_
 simp only[List.length_map] at hl
 have h0:prs l=prs (Xbt c l (0+1)++l.drop (0+1)):=by
  cases l with
  | nil=>rfl
  | cons x l=>rfl
 rw[h0]
 refine Kt (fr 53 [(0,.one (.own 0 ver)),(1,vi 0),(2,vi l.length),(3,.one (.d (.fn (.func f) []))),(8,vi (((0:Nat)+1:Nat)))]) ?_
 refine Km (fun mz sz=>∃ i:Nat,i<=(l.length - 1)/\mz=(l.length - 1) - i/\(0<=i)/\sz=⟨fr 53 [(0,.one (.own 0 ver)),(1,vi 0),(2,vi l.length),(3,.one (.d (.fn (.func f) []))),(8,vi ((i+1:Nat)))],[.row 4 ver (prs (Xbt c l (i+1)++l.drop (i+1)))]⟩) ((l.length - 1)) ⟨0,Nat.zero_le _,(Nat.sub_zero _).symm,?_,rfl⟩ ?_
 ·exact Nat.zero_le _
 rintro _ _ ⟨i,hi,rfl,-,rfl⟩
 simp only[go_sem]
 by_cases hil:i+1 < l.length
 ·obtain⟨x,hx⟩:=Xal hil
  repeat' first|refine Kn rfl ?_|((first|refine Ka ?_|refine Kb ?_|refine Kv ?_|refine Ke ?_);simp only[go_sem])|refine Kf ?_|refine Kg ?_|apply Kp<;>intro _|((first|refine Kh ?_|refine Ki rfl ?_);simp only[or_self,Qs,Qt,Qu,Qv,Qw,Qx,Qy,Qz,Za,go_sem])
  ·have hp:(Xbt c l (i+1)).length=i+1:=Xer l (i+1) (by omega)
   rw[Yba hx]
   have hs:Xbt c l (i+1+1)=Xqd c x (Xbt c l (i+1)) (i+1):=by rw[Xbt,hx]
   generalize hpp:Xbt c l (i+1)=p at hp hs
   refine Kt (fr 53 [(0,.one (.own 0 ver)),(1,vi 0),(2,vi l.length),(3,.one (.d (.fn (.func f) []))),(8,vi ((i+1:Nat))),(9,vi ((i+1:Nat)))]) ?_
   refine Km (fun n s=>∃ j:Nat,j<=i+1/\n=j/\Xqd c x p (i+1)=Xqd c x p j/\s=⟨fr 53 [(0,.one (.own 0 ver)),(1,vi 0),(2,vi l.length),(3,.one (.d (.fn (.func f) []))),(8,vi ((i+1:Nat))),(9,vi j)],[.row 4 ver (prs (mid p x (l.drop (i+1+1)) j))]⟩) (i+1) ⟨i+1,Nat.le_refl _,rfl,rfl,rfl⟩ ?_
   rintro j _ ⟨_,hj,rfl,hj2,rfl⟩
   simp only[go_sem]
   have hfin:prs (Xqd c x p (i+1)++l.drop (i+1+1))=prs (Xbt c l (i+1+1)++l.drop (i+1+1)):=by rw[hs]
   have hin:inK .i64 (((i+1:Nat):Int)+1):=Xaq hil hl
   have hout:∀ q,Xqd c x p (i+1)=q->prs (q++l.drop (i+1+1))=prs (Xbt c l (i+1+1)++l.drop (i+1+1)):=fun q hq=>by rw[hs,hq]
   have hmid:(mid p x (l.drop (i+1+1)) j).length=l.length:=by rw[Y92 (by omega),hp];simp;omega
   cases j with
   | zero =>
    repeat' first|refine Kn rfl ?_|((first|refine Ka ?_|refine Kb ?_|refine Kv ?_|refine Ke ?_);simp only[go_sem])|refine Kf ?_|refine Kg ?_|apply Kp<;>intro _|((first|refine Kh ?_|refine Ki rfl ?_);simp only[or_self,Qs,Qt,Qu,Qv,Qw,Qx,Qy,Qz,Za,go_sem])
    ·refine⟨hin,?_⟩
     rw[show prs (mid p x (l.drop (i+1+1)) 0)=_ from hout _ hj2]
     refine Kt (fr 53 [(0,.one (.own 0 ver)),(1,vi 0),(2,vi l.length),(3,.one (.d (.fn (.func f) []))),(8,vi (((i+1)+1:Nat)))]) ?_
     refine Kl ⟨(l.length - 1) - (i+1),by omega,i+1,by omega,rfl,?_,rfl⟩
     exact Nat.zero_le _
   | succ j =>
    obtain⟨y,hy⟩:=Xal (l:=p) (i:=j) (by omega)
    have hj1:((j+1:Nat):Int) - 1=(j:Int):=by omega
    have hik:inK .i64 (j:Int):=by rw[<- hj1];exact Xtq (by omega)
    have ha:(prs (mid p x (l.drop (i+1+1)) (j+1)))[j+1]?=some x.ds:=Xad (Wo1 (by omega))
    have hb:(prs (mid p x (l.drop (i+1+1)) (j+1)))[j]?=some y.ds:=Xad ((Xxy (by omega)).trans hy)
    repeat' first|refine Kn rfl ?_|((first|refine Ka ?_|refine Kb ?_|refine Kv ?_|refine Ke ?_);simp only[hj1,go_sem])|refine Kf ?_|refine Kg ?_|refine⟨_,hf _ _,Kg ?_⟩|refine⟨_,⟨hf _ _,rfl⟩,Kg ?_⟩|refine⟨_,⟨ha,Nat.le_refl _⟩,Kg ?_⟩|refine⟨_,⟨hb,Nat.le_refl _⟩,Kg ?_⟩|refine⟨Kq _,show j+1 < _ by omega,?_⟩|refine⟨Kq _,show j < _ by omega,?_⟩|refine⟨hik,?_⟩|apply Kp<;>intro _|((first|refine Kh ?_|refine Ki rfl ?_);simp only[hj1,or_self,Qs,Qt,Qu,Qv,Qw,Qx,Qy,Qz,Za,go_sem])
    ·rename_i hc
     have hM:((mid p x (l.drop (i+1+1)) (j+1)).set (j+1) y)[j]?=some y:=by
      rw[List.getElem?_set_ne (by omega),Xxy (by omega),hy]
     rw[show (prs (mid p x (l.drop (i+1+1)) (j+1))).set (j+1) _=prs ((mid p x (l.drop (i+1+1)) (j+1)).set (j+1) y) from Ybb _ _ y]
     refine⟨Kq _,by rw[List.length_map,List.length_set];omega,_,⟨Xad hM,Nat.le_refl _⟩,Kg ?_⟩
     simp only[go_sem]
     rw[show (prs ((mid p x (l.drop (i+1+1)) (j+1)).set (j+1) y)).set j _=prs (mid p x (l.drop (i+1+1)) j) from (Ybb _ _ x).trans (by rw[Ymz hy])]
     repeat' first|refine Kn rfl ?_|((first|refine Ka ?_|refine Kb ?_|refine Kv ?_|refine Ke ?_);simp only[hj1,go_sem])|refine Kf ?_|refine Kg ?_|apply Kp<;>intro _|((first|refine Kh ?_|refine Ki rfl ?_);simp only[hj1,or_self,Qs,Qt,Qu,Qv,Qw,Qx,Qy,Qz,Za,go_sem])
     refine⟨hik,?_⟩
     refine Kt (fr 53 [(0,.one (.own 0 ver)),(1,vi 0),(2,vi l.length),(3,.one (.d (.fn (.func f) []))),(8,vi ((i+1:Nat))),(9,vi j)]) ?_
     exact Kl ⟨j,Nat.lt_succ_self j,j,by omega,rfl,hj2.trans (Ya9 hy hc),rfl⟩
    ·rename_i hc
     refine⟨hin,?_⟩
     rw[show prs (mid p x (l.drop (i+1+1)) (j+1))=prs (Xbt c l (i+1+1)++l.drop (i+1+1)) from by
      rw[<- hout _ (hj2.trans (Xrm hy hc))];unfold mid;simp]
     refine Kt (fr 53 [(0,.one (.own 0 ver)),(1,vi 0),(2,vi l.length),(3,.one (.d (.fn (.func f) []))),(8,vi (((i+1)+1:Nat)))]) ?_
     refine Kl ⟨(l.length - 1) - (i+1),by omega,i+1,by omega,rfl,?_,rfl⟩
     exact Nat.zero_le _
    ·exfalso;omega
  ·omega
 ·repeat' (first|refine Kn rfl ?_|((first|refine Ka ?_|refine Kb ?_|refine Kv ?_|refine Ke ?_);simp only[go_sem])|refine Kf ?_|refine Kg ?_|apply Kp<;>intro _|((first|refine Kh ?_|refine Ki rfl ?_);simp only[or_self,Qs,Qt,Qu,Qv,Qw,Qx,Qy,Qz,Za,go_sem]))
  ·omega
  ·cases l with
   | nil =>
    have:∀ n,Xbt c ([]:List Pr) n=[]:=by intro n;induction n with|zero=>rfl|succ n ih=>simp[Xbt,ih]
    simp[this]
   | cons x l =>
    have e:i+1=(x::l).length:=by simp at hi hil ⊢;omega
    rw[e,List.drop_length,List.append_nil]
theorem Ym0 (a b:Pr):Does QP gp 115 [a.v,b.v] (vi (Xtu a.key b.key)):=by
 refine Y47 ?_
 simp only[go_sem]
 repeat' first|refine Kn rfl ?_|((first|refine Ka ?_|refine Kb ?_|refine Kv ?_|refine Ke ?_);simp only[go_sem])|refine Kf ?_|refine Kg ?_|refine⟨_,Ya4 ⟨_,_,_⟩ ⟨_,_,_⟩,Kg ?_⟩|refine⟨_,⟨Ya4 ⟨_,_,_⟩ ⟨_,_,_⟩,rfl⟩,Kg ?_⟩|apply Kp<;>intro _|((first|refine Kh ?_|refine Ki rfl ?_);simp only[or_self,Qs,Qt,Qu,Qv,Qw,Qx,Qy,Qz,Za,go_sem])
abbrev Xpe (a b:Pr):Int:=Xtu a.key b.key
abbrev srt (l:List Pr):List Pr:=Xbt Xpe l l.length
theorem Wo2 (l:List Pr) (ver:Nat) (hl:l.length < 20) :
  Tri QP gp 145 [.one (.own 0 ver),vi l.length,.one (.d (.fn (.func 115) []))] [.row 4 ver (prs l)] fun r post=>r=.tup []/\post=[.row 4 ver (prs (srt l))]:=by
 refine Yle ?_
 simp only[go_sem]
 repeat' first|refine Kn rfl ?_|((first|refine Ka ?_|refine Kb ?_|refine Kv ?_|refine Ke ?_);simp only[go_sem])|refine Kf ?_|refine Kg ?_|apply Kp<;>intro _|((first|refine Kh ?_|refine Ki rfl ?_);simp only[or_self,Qs,Qt,Qu,Qv,Qw,Qx,Qy,Qz,Za,go_sem])
 refine X3w ?_
 repeat' first|refine Kn rfl ?_|((first|refine Ka ?_|refine Kb ?_|refine Kv ?_|refine Ke ?_);simp only[go_sem])|refine Kf ?_|refine Kg ?_|apply Kp<;>intro _|((first|refine Kh ?_|refine Ki rfl ?_);simp only[or_self,Qs,Qt,Qu,Qv,Qw,Qx,Qy,Qz,Za,go_sem])
 ·omega
 ·refine Or.inr (Or.inl ⟨0,.tup [],.row 4 ver (prs (srt l)),(by simp only[Xq8,go_sem];exact⟨rfl,rfl,Y7r,Ybc _ Xpe Ym0 l ver⟩),Kg ?_⟩)
  simp only[go_sem]
  repeat' first|refine Kn rfl ?_|((first|refine Ka ?_|refine Kb ?_|refine Kv ?_|refine Ke ?_);simp only[go_sem])|refine Kf ?_|refine Kg ?_|apply Kp<;>intro _|((first|refine Kh ?_|refine Ki rfl ?_);simp only[or_self,Qs,Qt,Qu,Qv,Qw,Qx,Qy,Qz,Za,go_sem])
  refine X3w ?_
  repeat' first|refine Kn rfl ?_|((first|refine Ka ?_|refine Kb ?_|refine Kv ?_|refine Ke ?_);simp only[go_sem])|refine Kf ?_|refine Kg ?_|apply Kp<;>intro _|((first|refine Kh ?_|refine Ki rfl ?_);simp only[or_self,Qs,Qt,Qu,Qv,Qw,Qx,Qy,Qz,Za,go_sem])
  omega
theorem Xtz (l:List Pr) (ver:Nat) (hl:l.length < 20) :
  Tri QP gp 114 [.one (.own 0 ver),.one (.d (.fn (.func 115) []))] [.row 4 ver (prs l)] fun r post=>r=.tup []/\post=[.row 4 ver (prs (srt l))]:=by
 refine Ykk ?_
 simp only[go_sem]
 repeat' first|refine Kn rfl ?_|((first|refine Ka ?_|refine Kb ?_|refine Kv ?_|refine Ke ?_);simp only[go_sem])|refine Kf ?_|refine Kg ?_|apply Kp<;>intro _|((first|refine Kh ?_|refine Ki rfl ?_);simp only[or_self,Qs,Qt,Qu,Qv,Qw,Qx,Qy,Qz,Za,go_sem])
 refine Or.inr (Or.inl ⟨0,.tup [],.row 4 ver (prs (srt l)),(by simp only[Xq8,go_sem];exact⟨rfl,rfl,Y6j,Wo2 l ver hl⟩),Kg ?_⟩)
 simp only[go_sem]
 repeat' first|refine Kn rfl ?_|((first|refine Ka ?_|refine Kb ?_|refine Kv ?_|refine Ke ?_);simp only[go_sem])|refine Kf ?_|refine Kg ?_|apply Kp<;>intro _|((first|refine Kh ?_|refine Ki rfl ?_);simp only[or_self,Qs,Qt,Qu,Qv,Qw,Qx,Qy,Qz,Za,go_sem])
def Xdj (x:Nd):List Pr:=List.zipWith Pr.mk x.keys x.kids
def Xac (x:Nd):List Pr:=if x.k=2/\x.keys.length=x.kids.length then srt (Xdj x) else []
theorem Wo3 {x:Nd} {i:Nat} {a:Sc} {b:Int} (ha:x.keys[i]?=some a) (hb:x.kids[i]?=some b):(Xdj x)[i]?=some ⟨a,b⟩:=by
 unfold Xdj;rw[List.getElem?_zipWith,ha,hb]
theorem Ym1 {l:List Pr} {i:Nat} {p:Pr} (h:l[i]?=some p):prs (l.take i)++[p.ds]=prs (l.take (i+1)):=by
 rw[<- Xca h];simp[prs]
theorem X1b (x:Nd) (n:Int) (hx:x.keys.length < 20):Does QP gp 75 [x.vw n] (.one (.d (.sl (prs (Xac x))))):=by
 refine Wm2 ?_
 simp only[go_sem]
 repeat' first|refine Kn rfl ?_|((first|refine Ka ?_|refine Kb ?_|refine Kv ?_|refine Ke ?_);simp only[go_sem])|refine Kf ?_|refine Kg ?_|refine⟨_,Xih x n,Kg ?_⟩|refine⟨_,⟨Xih x n,rfl⟩,Kg ?_⟩|apply Kp<;>intro _|((first|refine Kh ?_|refine Ki rfl ?_);simp only[or_self,Qs,Qt,Qu,Qv,Qw,Qx,Qy,Qz,Za,go_sem])
 ·rename_i h1 h2
  have:¬ x.keys.length=x.kids.length:=by intro h;simp[h] at h2
  unfold Xac;rw[if_neg (by simp[this])];rfl
 ·rename_i h1 h2
  have hk:x.k=2:=by simpa using h1
  have hl:x.keys.length=x.kids.length:=Classical.byContradiction fun h=>by simp[h] at h2
  have hp:Xac x=srt (Xdj x):=by unfold Xac;rw[if_pos ⟨hk,hl⟩]
  have hz:(Xdj x).length=x.keys.length:=by unfold Xdj;simp[<- hl]
  rw[hp]
  refine Xh9 3 4 (by decide) rfl ?_
  simp only[go_sem]
  refine Kt (fr 39 [(1,.one (.d (.bx (x.vd n)))),(2,.one .nil),(3,.one (.own 0 (0:Nat))),(17,.one (.d (.sl (scs x.keys)))),(18,vi x.keys.length),(19,vi (0:Nat))]) ?_
  refine Km (fun mz sz=>∃ i:Nat,i<=x.keys.length/\mz=x.keys.length - i/\(0<=i)/\sz=⟨fr 39 [(1,.one (.d (.bx (x.vd n)))),(2,.one .nil),(3,.one (.own 0 i)),(17,.one (.d (.sl (scs x.keys)))),(18,vi x.keys.length),(19,vi i)],[.row 4 i (prs ((Xdj x).take i))]⟩) (x.keys.length) ⟨0,Nat.zero_le _,(Nat.sub_zero _).symm,?_,rfl⟩ ?_
  ·exact Nat.zero_le _
  rintro _ _ ⟨i,hi,rfl,-,rfl⟩
  simp only[go_sem]
  by_cases hil:i < x.keys.length
  ·obtain⟨a,ha⟩:=Xal hil
   obtain⟨b,hb⟩:=Xal (l:=x.kids) (i:=i) (by omega)
   repeat' first|refine Kn rfl ?_|((first|refine Ka ?_|refine Kb ?_|refine Kv ?_|refine Ke ?_);simp only[go_sem])|refine Kf ?_|refine Kg ?_|refine⟨_,⟨Kq _,(by first|exact Xad ha|(rw[Int.toNat_natCast];exact Xad ha)),rfl⟩,Kg ?_⟩|refine⟨_,⟨Kq _,(by first|exact Xad hb|(rw[Int.toNat_natCast];exact Xad hb)),rfl⟩,Kg ?_⟩|apply Kp<;>intro _|((first|refine Kh ?_|refine Ki rfl ?_);simp only[or_self,Qs,Qt,Qu,Qv,Qw,Qx,Qy,Qz,Za,go_sem])
   ·refine⟨by simp,by simp;omega,by simp[lenMax];omega,?_⟩
    rw[show prs ((Xdj x).take i)++[_]=prs ((Xdj x).take (i+1)) from Ym1 (Wo3 ha hb)]
    repeat' first|refine Kn rfl ?_|((first|refine Ka ?_|refine Kb ?_|refine Kv ?_|refine Ke ?_);simp only[go_sem])|refine Kf ?_|refine Kg ?_|apply Kp<;>intro _|((first|refine Kh ?_|refine Ki rfl ?_);simp only[or_self,Qs,Qt,Qu,Qv,Qw,Qx,Qy,Qz,Za,go_sem])
    refine⟨Xaq hil (by unfold lenMax;omega),?_⟩
    refine Kt (fr 39 [(1,.one (.d (.bx (x.vd n)))),(2,.one .nil),(3,.one (.own 0 (i+1))),(17,.one (.d (.sl (scs x.keys)))),(18,vi x.keys.length),(19,vi (i+1))]) ?_
    refine Ku 1 ?_
    simp only[go_sem]
    refine Kl ⟨x.keys.length - (i+1),by omega,i+1,by omega,rfl,?_,rfl⟩
    exact Nat.zero_le _
   ·omega
  ·repeat' (first|refine Kn rfl ?_|((first|refine Ka ?_|refine Kb ?_|refine Kv ?_|refine Ke ?_);simp only[go_sem])|refine Kf ?_|refine Kg ?_|apply Kp<;>intro _|((first|refine Kh ?_|refine Ki rfl ?_);simp only[or_self,Qs,Qt,Qu,Qv,Qw,Qx,Qy,Qz,Za,go_sem]))
   ·omega
   ·rw[List.take_of_length_le (by omega)]
    refine Or.inr (Or.inl ⟨0,.tup [],.row 4 i (prs (srt (Xdj x))),(by simp only[Xq8,go_sem];exact⟨rfl,rfl,Y43,Xtz (Xdj x) i (by omega)⟩),Kg ?_⟩)
    simp only[go_sem]
    refine Xa6 0 ?_
    simp only[go_sem]
    repeat' first|refine Kn rfl ?_|((first|refine Ka ?_|refine Kb ?_|refine Kv ?_|refine Ke ?_);simp only[go_sem])|refine Kf ?_|refine Kg ?_|apply Kp<;>intro _|((first|refine Kh ?_|refine Ki rfl ?_);simp only[or_self,Qs,Qt,Qu,Qv,Qw,Qx,Qy,Qz,Za,go_sem])
 ·rename_i h
  have hk:¬ x.k=2:=by intro h2;simp[h2] at h
  unfold Xac;rw[if_neg (by simp[hk])];rfl
theorem Xn3 (l:List Int) (hl:l.length < 100):Does QP gp 76 [.one (.d (.sl (Xaf l)))] (.one (.d (.sl (Xaf l)))):=by
 refine Wm8 ?_
 simp only[go_sem]
 cases l with
 | nil =>
  refine Wh4 0 rfl fun q c=>?_
  cases q with
  | none =>
   simp only[go_sem]
   repeat' first|refine Kn rfl ?_|((first|refine Ka ?_|refine Kb ?_|refine Kv ?_|refine Ke ?_);simp only[Xb1,Xb2,Xch,Xci,go_sem])|refine Kf ?_|refine Kg ?_|apply Kp<;>intro _|((first|refine Kh ?_|refine Ki rfl ?_);simp only[Xb1,Xb2,Xch,Xci,or_self,Qs,Qt,Qu,Qv,Qw,Qx,Qy,Qz,Za,go_sem])
  | some q =>
   simp only[go_sem]
   refine Yz4 ?_
   repeat' first|refine Kn rfl ?_|((first|refine Ka ?_|refine Kb ?_|refine Kv ?_|refine Ke ?_);simp only[Xb1,Xb2,go_sem])|refine Kf ?_|refine Kg ?_|apply Kp<;>intro _|((first|refine Kh ?_|refine Ki rfl ?_);simp only[Xb1,Xb2,or_self,Qs,Qt,Qu,Qv,Qw,Qx,Qy,Qz,Za,go_sem])
   refine X3u 0 rfl ?_
   simp only[go_sem]
   repeat' first|refine Kn rfl ?_|((first|refine Ka ?_|refine Kb ?_|refine Kv ?_|refine Ke ?_);simp only[Xb1,Xb2,Xch,Xci,go_sem])|refine Kf ?_|refine Kg ?_|apply Kp<;>intro _|((first|refine Kh ?_|refine Ki rfl ?_);simp only[Xb1,Xb2,Xch,Xci,or_self,Qs,Qt,Qu,Qv,Qw,Qx,Qy,Qz,Za,go_sem])
   refine⟨by simp,by simp[lenMax],?_⟩
   refine Xa6 0 ?_
   simp only[go_sem]
   repeat' first|refine Kn rfl ?_|((first|refine Ka ?_|refine Kb ?_|refine Kv ?_|refine Ke ?_);simp only[Xb1,Xb2,Xch,Xci,go_sem])|refine Kf ?_|refine Kg ?_|apply Kp<;>intro _|((first|refine Kh ?_|refine Ki rfl ?_);simp only[Xb1,Xb2,Xch,Xci,or_self,Qs,Qt,Qu,Qv,Qw,Qx,Qy,Qz,Za,go_sem])
 | cons x l =>
  simp only[go_sem]
  repeat' first|refine Kn rfl ?_|((first|refine Ka ?_|refine Kb ?_|refine Kv ?_|refine Ke ?_);simp only[Xb1,Xb2,Xch,Xci,go_sem])|refine Kf ?_|refine Kg ?_|apply Kp<;>intro _|((first|refine Kh ?_|refine Ki rfl ?_);simp only[Xb1,Xb2,Xch,Xci,or_self,Qs,Qt,Qu,Qv,Qw,Qx,Qy,Qz,Za,go_sem])
  refine⟨by simp,by simp at hl;omega,by simp[lenMax] at hl ⊢;omega,?_⟩
  refine Xa6 0 ?_
  simp only[go_sem]
  repeat' first|refine Kn rfl ?_|((first|refine Ka ?_|refine Kb ?_|refine Kv ?_|refine Ke ?_);simp only[Xb1,Xb2,Xch,Xci,go_sem])|refine Kf ?_|refine Kg ?_|apply Kp<;>intro _|((first|refine Kh ?_|refine Ki rfl ?_);simp only[Xb1,Xb2,Xch,Xci,or_self,Qs,Qt,Qu,Qv,Qw,Qx,Qy,Qz,Za,go_sem])
def Xc4 (g:Gr):Prop:=∀ x∈g.l,x.keys.length<=12/\x.kids.length<=12
theorem Xc4.at {g:Gr} (h:Xc4 g) (i:Int):(Xbb g.l i).keys.length<=12/\(Xbb g.l i).kids.length<=12:=by
 unfold Xbb
 split
 ·cases e:g.l[i.toNat]? with
  | none=>simp[Nd.zero]
  | some x=>exact h x (List.mem_of_getElem? e)
 ·simp[Nd.zero]
def Xae (x:Nd):List Int:=if x.k=1 then x.kids else (Xac x).map Pr.kid
def Xai (x:Nd):List Sc:=(Xac x).map Pr.key
theorem Xt0 {α:Type} {c:α->α->Int} (l:List α):(Xbt c l l.length).length=l.length:=Xer l _ (Nat.le_refl _)
theorem Xcp (x:Nd):(Xac x).length<=x.keys.length:=by
 unfold Xac
 split
 ·rw[Xt0];unfold Xdj;simp;omega
 ·simp
theorem Xes {l:List Int} {i:Nat} {p:Int} (h:l[i]?=some p):Xaf (l.take i)++[[.int .i64 p]]=Xaf (l.take (i+1)):=by
 rw[<- Xca h];simp[Xaf]
theorem Xxz {l:List Sc} {i:Nat} {p:Sc} (h:l[i]?=some p):scs (l.take i)++[p.ds]=scs (l.take (i+1)):=by
 rw[<- Xca h];simp[scs]
theorem Xx0 (l:List Nd) (i:Int) (h:atE l i≠0):Xbb l i=Nd.zero:=by
 unfold atE at h;unfold Xbb
 split at h
 ·exact absurd rfl h
 ·rename_i h2;rw[if_neg h2]
theorem kids (g:Gr) (i:Int) (hg:Xc4 g):Does QP gp 51 [g.v,vi i] (.tup [.one (.d (.sl (Xaf (Xae (Xbb g.l i))))),vi (atE g.l i)]):=by
 refine Wlh ?_
 simp only[go_sem]
 obtain⟨h1,h2⟩:=hg.at i
 have hz:=Xx0 g.l i
 have ha:=Xtw (gp:=gp) g i
 generalize Xbb g.l i=x at *
 generalize atE g.l i=e at *
 generalize atN g.l i=n at *
 have hq:=Xcp x
 repeat' first|refine Kn rfl ?_|((first|refine Ka ?_|refine Kb ?_|refine Kv ?_|refine Ke ?_);simp only[Xbm,Xbn,Xbo,Xbp,Xbq,Xa0,Xat,Xa1,Xa2,Xa3,Xa4,go_sem])|refine Kf ?_|refine Kg ?_|refine⟨_,ha,Kg ?_⟩|refine⟨_,⟨ha,rfl⟩,Kg ?_⟩|refine⟨_,Xn3 x.kids (by omega),Kg ?_⟩|refine⟨_,⟨Xn3 x.kids (by omega),rfl⟩,Kg ?_⟩|refine⟨_,X1b x n (by omega),Kg ?_⟩|refine⟨_,⟨X1b x n (by omega),rfl⟩,Kg ?_⟩|apply Kp<;>intro _|((first|refine Kh ?_|refine Ki rfl ?_);simp only[Xbm,Xbn,Xbo,Xbp,Xbq,Xa0,Xat,Xa1,Xa2,Xa3,Xa4,or_self,Qs,Qt,Qu,Qv,Qw,Qx,Qy,Qz,Za,go_sem])
 ·rename_i h
  have h:x.k=1:=by simpa using h
  simp[Xae,h]
 ·rename_i h
  have h:¬ x.k=1:=by simpa using h
  have hk:Xae x=(Xac x).map Pr.kid:=by unfold Xae;rw[if_neg h]
  rw[hk]
  refine Xh9 8 1 (by decide) rfl ?_
  simp only[go_sem]
  refine Kt (fr 45 [(7,vi e),(8,.one (.own 1 (0:Nat))),(31,.one (.d (.sl (prs (Xac x))))),(32,vi (Xac x).length),(33,vi (0:Nat))]) ?_
  refine Km (fun mz sz=>∃ i:Nat,i<=(Xac x).length/\mz=(Xac x).length - i/\(0<=i)/\sz=⟨fr 45 [(7,vi e),(8,.one (.own 1 i)),(31,.one (.d (.sl (prs (Xac x))))),(32,vi (Xac x).length),(33,vi i)],[.cells _,.row 1 i (Xaf (((Xac x).map Pr.kid).take i))]⟩) ((Xac x).length) ⟨0,Nat.zero_le _,(Nat.sub_zero _).symm,?_,rfl⟩ ?_
  ·exact Nat.zero_le _
  rintro _ _ ⟨i,hi,rfl,-,rfl⟩
  simp only[go_sem]
  by_cases hil:i < (Xac x).length
  ·obtain⟨p,hp⟩:=Xal hil
   repeat' first|refine Kn rfl ?_|((first|refine Ka ?_|refine Kb ?_|refine Kv ?_|refine Ke ?_);simp only[Xbm,Xbn,Xbo,Xbp,Xbq,Xa0,Xat,Xa1,Xa2,Xa3,Xa4,go_sem])|refine Kf ?_|refine Kg ?_|refine⟨_,⟨Kq _,(by first|exact Xad hp|(rw[Int.toNat_natCast];exact Xad hp)),rfl⟩,Kg ?_⟩|apply Kp<;>intro _|((first|refine Kh ?_|refine Ki rfl ?_);simp only[Xbm,Xbn,Xbo,Xbp,Xbq,Xa0,Xat,Xa1,Xa2,Xa3,Xa4,or_self,Qs,Qt,Qu,Qv,Qw,Qx,Qy,Qz,Za,go_sem])
   ·refine⟨by simp,by simp;omega,by simp[lenMax];omega,?_⟩
    rw[show Xaf (((Xac x).map Pr.kid).take i)++[_]=Xaf (((Xac x).map Pr.kid).take (i+1)) from Xes (by rw[List.getElem?_map,hp];rfl)]
    repeat' first|refine Kn rfl ?_|((first|refine Ka ?_|refine Kb ?_|refine Kv ?_|refine Ke ?_);simp only[Xbm,Xbn,Xbo,Xbp,Xbq,Xa0,Xat,Xa1,Xa2,Xa3,Xa4,go_sem])|refine Kf ?_|refine Kg ?_|apply Kp<;>intro _|((first|refine Kh ?_|refine Ki rfl ?_);simp only[Xbm,Xbn,Xbo,Xbp,Xbq,Xa0,Xat,Xa1,Xa2,Xa3,Xa4,or_self,Qs,Qt,Qu,Qv,Qw,Qx,Qy,Qz,Za,go_sem])
    refine⟨Xaq hil (by unfold lenMax;omega),?_⟩
    refine Kt (fr 45 [(7,vi e),(8,.one (.own 1 (i+1))),(31,.one (.d (.sl (prs (Xac x))))),(32,vi (Xac x).length),(33,vi (i+1))]) ?_
    refine Ku 2 ?_
    simp only[go_sem]
    refine Kl ⟨(Xac x).length - (i+1),by omega,i+1,by omega,rfl,?_,rfl⟩
    exact Nat.zero_le _
   ·omega
  ·repeat refine Ko rfl ?_
   refine Ka ?_
   simp only[Xat,go_sem]
   repeat refine Ko rfl ?_
   refine Ke ?_
   simp only[go_sem]
   refine⟨fun h=>by exfalso;omega,fun _=>Xg4 rfl ?_⟩
   rw[List.take_of_length_le (by simp;omega)]
   refine Xa6 1 ?_
   simp only[go_sem]
   repeat' first|refine Kn rfl ?_|((first|refine Ka ?_|refine Kb ?_|refine Kv ?_|refine Ke ?_);simp only[Xbm,Xbn,Xbo,Xbp,Xbq,Xa0,Xat,Xa1,Xa2,Xa3,Xa4,go_sem])|refine Kf ?_|refine Kg ?_|apply Kp<;>intro _|((first|refine Kh ?_|refine Ki rfl ?_);simp only[Xbm,Xbn,Xbo,Xbp,Xbq,Xa0,Xat,Xa1,Xa2,Xa3,Xa4,or_self,Qs,Qt,Qu,Qv,Qw,Qx,Qy,Qz,Za,go_sem])
 ·rename_i h
  have h:x=Nd.zero:=hz (by intro h2;simp[h2] at h)
  have hk:Xae x=(Xac x).map Pr.kid:=by rw[h];rfl
  rw[hk]
  refine Xh9 8 1 (by decide) rfl ?_
  simp only[go_sem]
  refine Kt (fr 45 [(7,vi e),(8,.one (.own 1 (0:Nat))),(31,.one (.d (.sl (prs (Xac x))))),(32,vi (Xac x).length),(33,vi (0:Nat))]) ?_
  refine Km (fun mz sz=>∃ i:Nat,i<=(Xac x).length/\mz=(Xac x).length - i/\(0<=i)/\sz=⟨fr 45 [(7,vi e),(8,.one (.own 1 i)),(31,.one (.d (.sl (prs (Xac x))))),(32,vi (Xac x).length),(33,vi i)],[.cells _,.row 1 i (Xaf (((Xac x).map Pr.kid).take i))]⟩) ((Xac x).length) ⟨0,Nat.zero_le _,(Nat.sub_zero _).symm,?_,rfl⟩ ?_
  ·exact Nat.zero_le _
  rintro _ _ ⟨i,hi,rfl,-,rfl⟩
  simp only[go_sem]
  by_cases hil:i < (Xac x).length
  ·obtain⟨p,hp⟩:=Xal hil
   repeat' first|refine Kn rfl ?_|((first|refine Ka ?_|refine Kb ?_|refine Kv ?_|refine Ke ?_);simp only[Xbm,Xbn,Xbo,Xbp,Xbq,Xa0,Xat,Xa1,Xa2,Xa3,Xa4,go_sem])|refine Kf ?_|refine Kg ?_|refine⟨_,⟨Kq _,(by first|exact Xad hp|(rw[Int.toNat_natCast];exact Xad hp)),rfl⟩,Kg ?_⟩|apply Kp<;>intro _|((first|refine Kh ?_|refine Ki rfl ?_);simp only[Xbm,Xbn,Xbo,Xbp,Xbq,Xa0,Xat,Xa1,Xa2,Xa3,Xa4,or_self,Qs,Qt,Qu,Qv,Qw,Qx,Qy,Qz,Za,go_sem])
   ·refine⟨by simp,by simp;omega,by simp[lenMax];omega,?_⟩
    rw[show Xaf (((Xac x).map Pr.kid).take i)++[_]=Xaf (((Xac x).map Pr.kid).take (i+1)) from Xes (by rw[List.getElem?_map,hp];rfl)]
    repeat' first|refine Kn rfl ?_|((first|refine Ka ?_|refine Kb ?_|refine Kv ?_|refine Ke ?_);simp only[Xbm,Xbn,Xbo,Xbp,Xbq,Xa0,Xat,Xa1,Xa2,Xa3,Xa4,go_sem])|refine Kf ?_|refine Kg ?_|apply Kp<;>intro _|((first|refine Kh ?_|refine Ki rfl ?_);simp only[Xbm,Xbn,Xbo,Xbp,Xbq,Xa0,Xat,Xa1,Xa2,Xa3,Xa4,or_self,Qs,Qt,Qu,Qv,Qw,Qx,Qy,Qz,Za,go_sem])
    refine⟨Xaq hil (by unfold lenMax;omega),?_⟩
    refine Kt (fr 45 [(7,vi e),(8,.one (.own 1 (i+1))),(31,.one (.d (.sl (prs (Xac x))))),(32,vi (Xac x).length),(33,vi (i+1))]) ?_
    refine Ku 2 ?_
    simp only[go_sem]
    refine Kl ⟨(Xac x).length - (i+1),by omega,i+1,by omega,rfl,?_,rfl⟩
    exact Nat.zero_le _
   ·omega
  ·repeat refine Ko rfl ?_
   refine Ka ?_
   simp only[Xat,go_sem]
   repeat refine Ko rfl ?_
   refine Ke ?_
   simp only[go_sem]
   refine⟨fun h=>by exfalso;omega,fun _=>Xg4 rfl ?_⟩
   rw[List.take_of_length_le (by simp;omega)]
   refine Xa6 1 ?_
   simp only[go_sem]
   repeat' first|refine Kn rfl ?_|((first|refine Ka ?_|refine Kb ?_|refine Kv ?_|refine Ke ?_);simp only[Xbm,Xbn,Xbo,Xbp,Xbq,Xa0,Xat,Xa1,Xa2,Xa3,Xa4,go_sem])|refine Kf ?_|refine Kg ?_|apply Kp<;>intro _|((first|refine Kh ?_|refine Ki rfl ?_);simp only[Xbm,Xbn,Xbo,Xbp,Xbq,Xa0,Xat,Xa1,Xa2,Xa3,Xa4,or_self,Qs,Qt,Qu,Qv,Qw,Qx,Qy,Qz,Za,go_sem])
theorem keys (g:Gr) (i:Int) (hg:Xc4 g):Does QP gp 50 [g.v,vi i] (.tup [.one (.d (.sl (scs (Xai (Xbb g.l i))))),vi (atE g.l i)]):=by
 refine Wla ?_
 simp only[go_sem]
 obtain⟨h1,h2⟩:=hg.at i
 have ha:=Xtw (gp:=gp) g i
 generalize Xbb g.l i=x at *
 generalize atE g.l i=e at *
 generalize atN g.l i=n at *
 have hq:=Xcp x
 have hk:Xai x=(Xac x).map Pr.key:=rfl
 repeat' first|refine Kn rfl ?_|((first|refine Ka ?_|refine Kb ?_|refine Kv ?_|refine Ke ?_);simp only[Xia,Xib,Xic,Xid,Xg5,Xie,Xif,Xe6,Xe7,go_sem])|refine Kf ?_|refine Kg ?_|refine⟨_,ha,Kg ?_⟩|refine⟨_,⟨ha,rfl⟩,Kg ?_⟩|refine⟨_,X1b x n (by omega),Kg ?_⟩|refine⟨_,⟨X1b x n (by omega),rfl⟩,Kg ?_⟩|apply Kp<;>intro _|((first|refine Kh ?_|refine Ki rfl ?_);simp only[Xia,Xib,Xic,Xid,Xg5,Xie,Xif,Xe6,Xe7,or_self,Qs,Qt,Qu,Qv,Qw,Qx,Qy,Qz,Za,go_sem])
 rw[hk]
 refine Xh9 8 3 (by decide) rfl ?_
 simp only[go_sem]
 refine Kt (fr 32 [(7,vi e),(8,.one (.own 1 (0:Nat))),(18,.one (.d (.sl (prs (Xac x))))),(19,vi (Xac x).length),(20,vi (0:Nat))]) ?_
 refine Km (fun mz sz=>∃ i:Nat,i<=(Xac x).length/\mz=(Xac x).length - i/\(0<=i)/\sz=⟨fr 32 [(7,vi e),(8,.one (.own 1 i)),(18,.one (.d (.sl (prs (Xac x))))),(19,vi (Xac x).length),(20,vi i)],[.cells _,.row 3 i (scs (((Xac x).map Pr.key).take i))]⟩) ((Xac x).length) ⟨0,Nat.zero_le _,(Nat.sub_zero _).symm,?_,rfl⟩ ?_
 ·exact Nat.zero_le _
 rintro _ _ ⟨i,hi,rfl,-,rfl⟩
 simp only[go_sem]
 by_cases hil:i < (Xac x).length
 ·obtain⟨p,hp⟩:=Xal hil
  repeat' first|refine Kn rfl ?_|((first|refine Ka ?_|refine Kb ?_|refine Kv ?_|refine Ke ?_);simp only[Xia,Xib,Xic,Xid,Xg5,Xie,Xif,Xe6,Xe7,go_sem])|refine Kf ?_|refine Kg ?_|refine⟨_,⟨Kq _,(by first|exact Xad hp|(rw[Int.toNat_natCast];exact Xad hp)),rfl⟩,Kg ?_⟩|apply Kp<;>intro _|((first|refine Kh ?_|refine Ki rfl ?_);simp only[Xia,Xib,Xic,Xid,Xg5,Xie,Xif,Xe6,Xe7,or_self,Qs,Qt,Qu,Qv,Qw,Qx,Qy,Qz,Za,go_sem])
  ·refine⟨by simp,by simp;omega,by simp[lenMax];omega,?_⟩
   rw[show scs (((Xac x).map Pr.key).take i)++[_]=scs (((Xac x).map Pr.key).take (i+1)) from Xxz (by rw[List.getElem?_map,hp];rfl)]
   repeat' first|refine Kn rfl ?_|((first|refine Ka ?_|refine Kb ?_|refine Kv ?_|refine Ke ?_);simp only[Xia,Xib,Xic,Xid,Xg5,Xie,Xif,Xe6,Xe7,go_sem])|refine Kf ?_|refine Kg ?_|apply Kp<;>intro _|((first|refine Kh ?_|refine Ki rfl ?_);simp only[Xia,Xib,Xic,Xid,Xg5,Xie,Xif,Xe6,Xe7,or_self,Qs,Qt,Qu,Qv,Qw,Qx,Qy,Qz,Za,go_sem])
   refine⟨Xaq hil (by unfold lenMax;omega),?_⟩
   refine Kt (fr 32 [(7,vi e),(8,.one (.own 1 (i+1))),(18,.one (.d (.sl (prs (Xac x))))),(19,vi (Xac x).length),(20,vi (i+1))]) ?_
   refine Ku 2 ?_
   simp only[go_sem]
   refine Kl ⟨(Xac x).length - (i+1),by omega,i+1,by omega,rfl,?_,rfl⟩
   exact Nat.zero_le _
  ·omega
 ·repeat refine Ko rfl ?_
  refine Ka ?_
  simp only[Xg5,go_sem]
  repeat refine Ko rfl ?_
  refine Ke ?_
  simp only[go_sem]
  refine⟨fun h=>by exfalso;omega,fun _=>Xg4 rfl ?_⟩
  rw[List.take_of_length_le (by simp;omega)]
  refine Xa6 1 ?_
  simp only[go_sem]
  repeat' first|refine Kn rfl ?_|((first|refine Ka ?_|refine Kb ?_|refine Kv ?_|refine Ke ?_);simp only[Xia,Xib,Xic,Xid,Xg5,Xie,Xif,Xe6,Xe7,go_sem])|refine Kf ?_|refine Kg ?_|apply Kp<;>intro _|((first|refine Kh ?_|refine Ki rfl ?_);simp only[Xia,Xib,Xic,Xid,Xg5,Xie,Xif,Xe6,Xe7,or_self,Qs,Qt,Qu,Qv,Qw,Qx,Qy,Qz,Za,go_sem])
def Ybd (l:List Sc) (m:List Int) (key:Sc):Int × Bool :=
 match (List.zip l m).find? fun p=>decide (p.1=key) with
 | some p=>(p.2,true)
 | none=>(0,false)
def Yu2 (x:Nd) (key:Sc):Int × Bool:=if x.k=2 then Ybd x.keys x.kids key else (0,false)
def Nd.cut (x:Nd):Nd:=⟨x.k,x.x.cut,(x.keys.take 12).map Sc.cut,x.kids.take 12⟩
def Gr.cut (g:Gr):Gr:=⟨g.root,(g.l.take 201).map Nd.cut⟩
theorem Gr.cut_small (g:Gr):Xc4 g.cut:=by
 intro x hx
 obtain⟨y,_,rfl⟩:=List.mem_map.1 hx
 simp[Nd.cut];omega
theorem Xpf {l:List Nd} {i:Nat} {p:Nd} (h:l[i]?=some p):nds (l.take i)++[p.ds]=nds (l.take (i+1)):=by
 rw[<- Xca h];simp[nds]
theorem Yu3 (g:Gr):Does QP gp 24 [g.v] g.cut.v:=by
 refine Wjq ?_
 simp only[go_sem]
 repeat' first|refine Kn rfl ?_|((first|refine Ka ?_|refine Kb ?_|refine Kv ?_|refine Ke ?_);simp only[go_sem])|refine Kf ?_|refine Kg ?_|apply Kp<;>intro _|((first|refine Kh ?_|refine Ki rfl ?_);simp only[or_self,Qs,Qt,Qu,Qv,Qw,Qx,Qy,Qz,Za,go_sem])
 refine Xhf 1 1 6 (by decide) rfl rfl ?_
 simp only[go_sem]
 obtain⟨M,hM⟩:∃ M,M=min g.l.length 201:=⟨_,rfl⟩
 refine Kt (fr 84 [(1,.one (.d (.bx [.int .i64 g.root,.sl (nds g.l)]))),(2,.one (.ptr 0 0)),(3,.one (.ptr 1 0)),(4,vi (0:Nat))]) ?_
 refine Km (fun mz sz=>∃ i:Nat,i<=M/\mz=M - i/\(0<=i)/\sz=⟨fr 84 [(1,.one (.d (.bx [.int .i64 g.root,.sl (nds g.l)]))),(2,.one (.ptr 0 0)),(3,.one (.ptr 1 0)),(4,vi i)],[.cells [.d (.int .i64 0),.nil],.cells [.d (.int .i64 g.root),.own 2 i],.row 6 i (nds ((g.l.map Nd.cut).take i))]⟩) (M) ⟨0,Nat.zero_le _,(Nat.sub_zero _).symm,?_,rfl⟩ ?_
 ·exact Nat.zero_le _
 rintro _ _ ⟨i,hi,rfl,-,rfl⟩
 simp only[go_sem]
 by_cases hil:i < M
 ·obtain⟨x,hx⟩:=Xal (l:=g.l) (i:=i) (by omega)
  repeat' first|refine Ko rfl ?_|((first|refine Ka ?_|refine Kb ?_|refine Kv ?_|refine Ke ?_);simp only[go_sem])|refine Kf ?_|refine Kg ?_|refine⟨_,Xxv x.x,Kg ?_⟩|refine⟨_,⟨Xxv x.x,rfl⟩,Kg ?_⟩|refine⟨_,⟨Kq _,(by first|exact Xad hx|(rw[Int.toNat_natCast];exact Xad hx)),rfl⟩,Kg ?_⟩|apply Kp<;>intro _|((first|refine Kh ?_|refine Ki rfl ?_);simp only[or_self,Qs,Qt,Qu,Qv,Qw,Qx,Qy,Qz,Za,go_sem])
  ·obtain⟨K,hK⟩:∃ K,K=min x.keys.length 12:=⟨_,rfl⟩
   obtain⟨L,hL⟩:∃ L,L=min x.kids.length 12:=⟨_,rfl⟩
   have hcut:(Nd.cut x).ds=[.int .i64 x.k,.int .i64 x.x.cut.k,.int .i64 x.x.cut.n,.str x.x.cut.s,.sl (scs ((x.keys.map Sc.cut).take K)),.sl (Xaf (x.kids.take L))]:=by
    have e1:(x.keys.take 12).map Sc.cut=(x.keys.map Sc.cut).take K:=by rw[List.map_take,hK,<- List.length_map (f:=Sc.cut),Nat.min_comm,<- List.take_eq_take_min]
    have e2:x.kids.take 12=x.kids.take L:=by rw[hL,Nat.min_comm,<- List.take_eq_take_min]
    simp only[Nd.cut,e1,e2]
   have hx2:(g.l.map Nd.cut)[i]?=some x.cut:=by rw[List.getElem?_map,hx];rfl
   have hkl:(x.keys.map Sc.cut).length=x.keys.length:=List.length_map _
   refine Xhf 4 4 3 (by decide) rfl rfl ?_
   simp only[go_sem]
   refine Xhf 4 5 1 (by decide) rfl rfl ?_
   simp only[go_sem]
   refine Kt (fr 84 [(1,.one (.d (.bx [.int .i64 g.root,.sl (nds g.l)]))),(2,.one (.ptr 0 0)),(3,.one (.ptr 1 0)),(4,vi i),(5,.one (.ptr 3 0)),(6,.one (.ptr 4 0)),(7,vi (0:Nat))]) ?_
   refine Km (fun mz sz=>∃ j:Nat,j<=K/\mz=K - j/\(0<=j)/\sz=⟨fr 84 [(1,.one (.d (.bx [.int .i64 g.root,.sl (nds g.l)]))),(2,.one (.ptr 0 0)),(3,.one (.ptr 1 0)),(4,vi i),(5,.one (.ptr 3 0)),(6,.one (.ptr 4 0)),(7,vi j)],[.cells [.d (.int .i64 0),.nil],.cells [.d (.int .i64 g.root),.own 2 i],.row 6 i (nds ((g.l.map Nd.cut).take i)),.cells x.as,.cells [.d (.int .i64 x.k),.d (.int .i64 x.x.cut.k),.d (.int .i64 x.x.cut.n),.d (.str x.x.cut.s),.own 5 j,.own 6 0],.row 3 j (scs ((x.keys.map Sc.cut).take j)),.row 1 0 []]⟩) (K) ⟨0,Nat.zero_le _,(Nat.sub_zero _).symm,?_,rfl⟩ ?_
   ·exact Nat.zero_le _
   ·rintro _ _ ⟨j,hj,rfl,-,rfl⟩
    simp only[go_sem]
    by_cases hjl:j < K
    ·obtain⟨y,hy⟩:=Xal (l:=x.keys) (i:=j) (by omega)
     have hy2:(x.keys.map Sc.cut)[j]?=some y.cut:=by rw[List.getElem?_map,hy];rfl
     repeat' first|refine Ko rfl ?_|((first|refine Ka ?_|refine Kb ?_|refine Kv ?_|refine Ke ?_);simp only[go_sem])|refine Kf ?_|refine Kg ?_|refine⟨_,Xxv y,Kg ?_⟩|refine⟨_,⟨Xxv y,rfl⟩,Kg ?_⟩|refine⟨_,⟨Kq _,(by first|exact Xad hy|(rw[Int.toNat_natCast];exact Xad hy)),rfl⟩,Kg ?_⟩|apply Kp<;>intro _|((first|refine Kh ?_|refine Ki rfl ?_);simp only[or_self,Qs,Qt,Qu,Qv,Qw,Qx,Qy,Qz,Za,go_sem])
     ·refine⟨by simp,by simp;omega,by simp[lenMax];omega,?_⟩
      rw[show scs ((x.keys.map Sc.cut).take j)++[_]=scs ((x.keys.map Sc.cut).take (j+1)) from Xxz hy2]
      repeat' first|refine Ko rfl ?_|((first|refine Ka ?_|refine Kb ?_|refine Kv ?_|refine Ke ?_);simp only[go_sem])|refine Kf ?_|refine Kg ?_|apply Kp<;>intro _|((first|refine Kh ?_|refine Ki rfl ?_);simp only[or_self,Qs,Qt,Qu,Qv,Qw,Qx,Qy,Qz,Za,go_sem])
      refine⟨Xaq hjl (by unfold lenMax;omega),?_⟩
      refine Kt (fr 84 [(1,.one (.d (.bx [.int .i64 g.root,.sl (nds g.l)]))),(2,.one (.ptr 0 0)),(3,.one (.ptr 1 0)),(4,vi i),(5,.one (.ptr 3 0)),(6,.one (.ptr 4 0)),(7,vi (j+1))]) ?_
      refine Kl ⟨K - (j+1),by omega,j+1,by omega,rfl,?_,rfl⟩
      exact Nat.zero_le _
     all_goals (exfalso;omega)
    ·obtain rfl:K=j:=by omega
     repeat' first|refine Ko rfl ?_|((first|refine Ka ?_|refine Kb ?_|refine Kv ?_|refine Ke ?_);simp only[go_sem])|refine Kf ?_|refine Kg ?_|apply Kp<;>intro _|((first|refine Kh ?_|refine Ki rfl ?_);simp only[or_self,Qs,Qt,Qu,Qv,Qw,Qx,Qy,Qz,Za,go_sem])
     all_goals first|(exfalso;omega)|skip
     all_goals
      refine Xg4 rfl ?_
      repeat' first|refine Ko rfl ?_|((first|refine Ka ?_|refine Kb ?_|refine Kv ?_|refine Ke ?_);simp only[go_sem])|refine Kf ?_|refine Kg ?_|apply Kp<;>intro _|((first|refine Kh ?_|refine Ki rfl ?_);simp only[or_self,Qs,Qt,Qu,Qv,Qw,Qx,Qy,Qz,Za,go_sem])
      refine Kt (fr 84 [(1,.one (.d (.bx [.int .i64 g.root,.sl (nds g.l)]))),(2,.one (.ptr 0 0)),(3,.one (.ptr 1 0)),(4,vi i),(5,.one (.ptr 3 0)),(6,.one (.ptr 4 0)),(8,vi (0:Nat))]) ?_
      refine Km (fun mz sz=>∃ j:Nat,j<=L/\mz=L - j/\(0<=j)/\sz=⟨fr 84 [(1,.one (.d (.bx [.int .i64 g.root,.sl (nds g.l)]))),(2,.one (.ptr 0 0)),(3,.one (.ptr 1 0)),(4,vi i),(5,.one (.ptr 3 0)),(6,.one (.ptr 4 0)),(8,vi j)],[.cells [.d (.int .i64 0),.nil],.cells [.d (.int .i64 g.root),.own 2 i],.row 6 i (nds ((g.l.map Nd.cut).take i)),.cells x.as,.cells [.d (.int .i64 x.k),.d (.int .i64 x.x.cut.k),.d (.int .i64 x.x.cut.n),.d (.str x.x.cut.s),.own 5 K,.own 6 j],.row 3 K (scs ((x.keys.map Sc.cut).take K)),.row 1 j (Xaf (x.kids.take j))]⟩) (L) ⟨0,Nat.zero_le _,(Nat.sub_zero _).symm,?_,rfl⟩ ?_
      ·exact Nat.zero_le _
      rintro _ _ ⟨j,hj,rfl,-,rfl⟩
      simp only[go_sem]
      by_cases hjl:j < L
      ·obtain⟨y,hy⟩:=Xal (l:=x.kids) (i:=j) (by omega)
       repeat' first|refine Ko rfl ?_|((first|refine Ka ?_|refine Kb ?_|refine Kv ?_|refine Ke ?_);simp only[go_sem])|refine Kf ?_|refine Kg ?_|refine⟨_,⟨Kq _,(by first|exact Xad hy|(rw[Int.toNat_natCast];exact Xad hy)),rfl⟩,Kg ?_⟩|apply Kp<;>intro _|((first|refine Kh ?_|refine Ki rfl ?_);simp only[or_self,Qs,Qt,Qu,Qv,Qw,Qx,Qy,Qz,Za,go_sem])
       ·refine⟨by simp,by simp;omega,by simp[lenMax];omega,?_⟩
        rw[show Xaf (x.kids.take j)++[_]=Xaf (x.kids.take (j+1)) from Xes hy]
        repeat' first|refine Ko rfl ?_|((first|refine Ka ?_|refine Kb ?_|refine Kv ?_|refine Ke ?_);simp only[go_sem])|refine Kf ?_|refine Kg ?_|apply Kp<;>intro _|((first|refine Kh ?_|refine Ki rfl ?_);simp only[or_self,Qs,Qt,Qu,Qv,Qw,Qx,Qy,Qz,Za,go_sem])
        refine⟨Xaq hjl (by unfold lenMax;omega),?_⟩
        refine Kt (fr 84 [(1,.one (.d (.bx [.int .i64 g.root,.sl (nds g.l)]))),(2,.one (.ptr 0 0)),(3,.one (.ptr 1 0)),(4,vi i),(5,.one (.ptr 3 0)),(6,.one (.ptr 4 0)),(8,vi (j+1))]) ?_
        refine Kl ⟨L - (j+1),by omega,j+1,by omega,rfl,?_,rfl⟩
        exact Nat.zero_le _
       all_goals (exfalso;omega)
      ·obtain rfl:L=j:=by omega
       repeat' first|refine Ko rfl ?_|((first|refine Ka ?_|refine Kb ?_|refine Kv ?_|refine Ke ?_);simp only[go_sem])|refine Kf ?_|refine Kg ?_|apply Kp<;>intro _|((first|refine Kh ?_|refine Ki rfl ?_);simp only[or_self,Qs,Qt,Qu,Qv,Qw,Qx,Qy,Qz,Za,go_sem])
       all_goals first|(exfalso;omega)|skip
       all_goals
        refine Xg4 rfl ?_
        refine Xa6 5 ?_
        simp only[go_sem]
        refine Xa6 6 ?_
        simp only[go_sem]
        repeat' first|refine Ko rfl ?_|((first|refine Ka ?_|refine Kb ?_|refine Kv ?_|refine Ke ?_);simp only[go_sem])|refine Kf ?_|refine Kg ?_|apply Kp<;>intro _|((first|refine Kh ?_|refine Ki rfl ?_);simp only[or_self,Qs,Qt,Qu,Qv,Qw,Qx,Qy,Qz,Za,go_sem])
        refine⟨by simp,by simp;omega,by simp[lenMax];omega,?_⟩
        rw[show nds ((g.l.map Nd.cut).take i)++[_]=nds ((g.l.map Nd.cut).take (i+1)) from by rw[<- hcut];exact Xpf hx2]
        repeat' first|refine Ko rfl ?_|((first|refine Ka ?_|refine Kb ?_|refine Kv ?_|refine Ke ?_);simp only[go_sem])|refine Kf ?_|refine Kg ?_|apply Kp<;>intro _|((first|refine Kh ?_|refine Ki rfl ?_);simp only[or_self,Qs,Qt,Qu,Qv,Qw,Qx,Qy,Qz,Za,go_sem])
        refine⟨Xaq hil (by unfold lenMax;omega),?_⟩
        refine Kt (fr 84 [(1,.one (.d (.bx [.int .i64 g.root,.sl (nds g.l)]))),(2,.one (.ptr 0 0)),(3,.one (.ptr 1 0)),(4,vi (i+1))]) ?_
        refine Ku 3 ?_
        simp only[go_sem]
        refine Kl ⟨M - (i+1),by omega,i+1,by omega,rfl,?_,rfl⟩
        exact Nat.zero_le _
  all_goals (exfalso;omega)
 ·obtain rfl:M=i:=by omega
  repeat' first|refine Ko rfl ?_|((first|refine Ka ?_|refine Kb ?_|refine Kv ?_|refine Ke ?_);simp only[go_sem])|refine Kf ?_|refine Kg ?_|apply Kp<;>intro _|((first|refine Kh ?_|refine Ki rfl ?_);simp only[or_self,Qs,Qt,Qu,Qv,Qw,Qx,Qy,Qz,Za,go_sem])
  all_goals first|(exfalso;omega)|skip
  all_goals
   refine Xg4 rfl ?_
   refine Xa6 2 ?_
   simp only[go_sem]
   repeat' first|refine Ko rfl ?_|((first|refine Ka ?_|refine Kb ?_|refine Kv ?_|refine Ke ?_);simp only[go_sem])|refine Kf ?_|refine Kg ?_|apply Kp<;>intro _|((first|refine Kh ?_|refine Ki rfl ?_);simp only[or_self,Qs,Qt,Qu,Qv,Qw,Qx,Qy,Qz,Za,go_sem])
   have e1:(g.l.take 201).map Nd.cut=(g.l.map Nd.cut).take M:=by rw[List.map_take,hM,<- List.length_map (f:=Nd.cut),Nat.min_comm,<- List.take_eq_take_min]
   exact⟨rfl,by rw[<- e1];rfl⟩
def Wzz (gp:Heap):Prop:=∀ e:Option (Int × Int),Tri QP gp 68 [Wx7 e,.one (.ifo 176 (.ptr 0 0))] [.cells [.d (.int .i64 0),.d (.int .i64 0)]] fun r post=>r=vb e.isSome/\post=[.cells [.d (.int .i64 (e.getD (0,0)).1),.d (.int .i64 (e.getD (0,0)).2)]]
section
variable (R:ByteArray->Bool) (hR:∀ s,Does QP gp 63 [vs s] (vb (R s))) (hA:Wzz gp) (hok:Xaa QP 68=true)
include hA hok
theorem Wz0 (e:Option (Int × Int)):Does QP gp 71 [Wx7 e] (.tup [vi (e.getD (0,0)).1,vi (e.getD (0,0)).2]):=by
 refine Wmi ?_
 simp only[go_sem]
 repeat' first|refine Kn rfl ?_|((first|refine Ka ?_|refine Kb ?_|refine Kv ?_|refine Ke ?_);simp only[go_sem])|refine Kf ?_|refine Kg ?_|apply Kp<;>intro _|((first|refine Kh ?_|refine Ki rfl ?_);simp only[or_self,Qs,Qt,Qu,Qv,Qw,Qx,Qy,Qz,Za,go_sem])
 refine Or.inr ⟨[0],vb e.isSome,[.cells [.d (.int .i64 (e.getD (0,0)).1),.d (.int .i64 (e.getD (0,0)).2)]],(by simp only[Xaw,go_sem];exact⟨hok,hA e⟩),Kg ?_⟩
 simp only[go_sem]
 repeat' first|refine Kn rfl ?_|((first|refine Ka ?_|refine Kb ?_|refine Kv ?_|refine Ke ?_);simp only[go_sem])|refine Kf ?_|refine Kg ?_|apply Kp<;>intro _|((first|refine Kh ?_|refine Ki rfl ?_);simp only[or_self,Qs,Qt,Qu,Qv,Qw,Qx,Qy,Qz,Za,go_sem])
 rename_i h
 cases e with
 | none=>exact⟨rfl,rfl⟩
 | some e=>simp at h
include hR
theorem Ym2 (g:Gr):Does QP gp 47 [g.v] (.tup [vi ((Xf1 R g).getD (0,0)).1,vi ((Xf1 R g).getD (0,0)).2]):=by
 refine Wk1 ?_
 simp only[go_sem]
 repeat' first|refine Kn rfl ?_|((first|refine Ka ?_|refine Kb ?_|refine Kv ?_|refine Ke ?_);simp only[go_sem])|refine Kf ?_|refine Kg ?_|refine⟨_,Wo0 R hR _,Kg ?_⟩|refine⟨_,⟨Wo0 R hR _,rfl⟩,Kg ?_⟩|refine⟨_,Wz0 hA hok _,Kg ?_⟩|refine⟨_,⟨Wz0 hA hok _,rfl⟩,Kg ?_⟩|apply Kp<;>intro _|((first|refine Kh ?_|refine Ki rfl ?_);simp only[or_self,Qs,Qt,Qu,Qv,Qw,Qx,Qy,Qz,Za,go_sem])
end
end Go.Fw.L07
namespace Go.Fw.L07
open Go Go.Fw Go.Shelf
open Go.Fw.Sh renaming intro->Kg
open Go.Fw renaming Xkl->Ka,Xfi->Kb,Xko->Kv,Xfj->Ke,Xfl->Kf,Xkn->Kh,Xkm->Ki,Xdx->Kt,Xdw->Kl,Xfz->Km,Gx->Kn
open And renaming intro->Kp
open Go.Fw.V.one renaming injEq->Qs
open Go.Fw.V.agg renaming injEq->Qt
open Go.Fw.V.tup renaming injEq->Qu
open Go.Fw.A.d renaming injEq->Qv
open Go.Fw.D.bool renaming injEq->Qw
open Go.Fw.D.int renaming injEq->Qx
open Go.Fw.D.str renaming injEq->Qy
open Go.Fw.D.sl renaming injEq->Qz
open List.cons renaming injEq->Za
set_option maxRecDepth 4000
variable {gp:Heap}
def Yu4:Ren:=⟨fun|197=>93|260=>134|n=>n,
 fun|21=>21|46=>160|105=>150|119=>237|138=>239|139=>240|n=>n,
 fun|3=>1|4=>2|n=>n⟩
theorem Ybe:Go.Proofs.Lays.n197 Go.Proofs.Tryz.prog Yu4:={
 mixed:=by kernel_rfl
 f197:=by kernel_rfl
 f260:=by kernel_rfl
 t0:=by kernel_rfl
 a0:=fun w=>by kernel_rfl
 z0:=fun w=>by kernel_rfl
 v0:=fun w=>by kernel_rfl
 t3:=by kernel_rfl
 a3:=fun w=>by kernel_rfl
 z3:=fun w=>by kernel_rfl
 v3:=fun w=>by kernel_rfl
 t4:=by kernel_rfl
 a4:=fun w=>by kernel_rfl
 z4:=fun w=>by kernel_rfl
 v4:=fun w=>by kernel_rfl
 t5:=by kernel_rfl
 a5:=fun w=>by kernel_rfl
 z5:=fun w=>by kernel_rfl
 v5:=fun w=>by kernel_rfl
 t9:=by kernel_rfl
 a9:=fun w=>by kernel_rfl
 z9:=fun w=>by kernel_rfl
 v9:=fun w=>by kernel_rfl
 t21:=by kernel_rfl
 a21:=fun w=>by kernel_rfl
 z21:=fun w=>by kernel_rfl
 v21:=fun w=>by kernel_rfl
 t46:=by kernel_rfl
 a46:=fun w=>by kernel_rfl
 z46:=fun w=>by kernel_rfl
 v46:=fun w=>by kernel_rfl
 t105:=by kernel_rfl
 a105:=fun w=>by kernel_rfl
 z105:=fun w=>by kernel_rfl
 v105:=fun w=>by kernel_rfl
 t119:=by kernel_rfl
 a119:=fun w=>by kernel_rfl
 z119:=fun w=>by kernel_rfl
 t138:=by kernel_rfl
 a138:=fun w=>by kernel_rfl
 z138:=fun w=>by kernel_rfl
 v138:=fun w=>by kernel_rfl
 t139:=by kernel_rfl
 a139:=fun w=>by kernel_rfl
 z139:=fun w=>by kernel_rfl
 v139:=fun w=>by kernel_rfl
 g3:=by kernel_rfl
 g4:=by kernel_rfl }
def Xpg (gp:Heap):Prop:=∀ H w,Heap.Le gp H->Xcs w H->Lib.Utf8Tabs 1 2 w
theorem decode (hU:Xpg gp) (s:ByteArray):Does Go.Proofs.Tryz.prog gp 93 [vs s] (.tup [.one (.d (.int .i32 (Lib.decodeGo s).1)),vi (Lib.decodeGo s).2]):=by
 refine⟨by kernel_rfl,?_⟩
 intro H w an F us hgp hmod hanc hown hF hdj hargs
 obtain⟨u,rfl,hu⟩:∃ u,us=[u]/\Den H (.str s) u:=by
  cases us with
  | nil=>exact hargs.elim
  | cons u us=>cases us with
   | nil=>exact⟨u,rfl,hargs.1⟩
   | cons _ _=>exact hargs.2.elim
 cases hu
 have hc:=Go.Proofs.Any.utf8_DecodeRuneInString Ybe s w (hU H w hgp hmod)
 intro cs
 obtain⟨e,w',fr,⟨rfl,hb⟩,h2,h3,h4⟩:=hc cs
 refine⟨_,w',fr,⟨_,_,[],H,fun _=>none,fun _ _=>False,rfl,⟨rfl,rfl⟩,⟨hb.os,hb.tape,hb.output,hb.size,fun b hlt _=>hb.block b hlt⟩,Heap.Le.refl _,fun b o hbo=>?_,fun b o hbo=>.inl hbo,⟨fun i p hp=>?_⟩,by simp,by simp,by simp,by simp,?_⟩,h2,h3,h4⟩
 ·have:=hmod b o hbo
  exact (hb.block b (Array.getElem?_eq_some_iff.1 this).1).trans this
 ·have:=(hanc i).1 ⟨p,hp⟩;simp at this
 ·exact⟨_,rfl,Den.int _ _,Den.int _ _,trivial⟩
def Xbu (s:ByteArray):Nat->Nat->Bool
 | 0,_=>true
 | n+1,p=>if p < s.size then (if (Utf8.decode s p).1=65533/\(Utf8.decode s p).2=1 then false else Xbu s n (p+(Utf8.decode s p).2)) else true
def Xak (s:ByteArray):Bool:=Xbu s s.size 0
theorem Ybf {s:ByteArray} {f p:Nat} (h:¬ p < s.size):Xbu s f p=true:=by
 cases f with
 | zero=>rfl
 | succ f=>simp only[Xbu,if_neg h]
theorem Xt1 {s:ByteArray} {p:Nat} (h:p < s.size):Lib.decodeGo (s.extract p s.size)=Utf8.decode s p:=by
 unfold Lib.decodeGo
 rw[if_neg (by rw[ByteArray.size_extract];omega),Lib.tail_decode,Nat.add_zero]
theorem Xmf (hU:Xpg gp) (s:ByteArray):Does Go.Proofs.Tryz.prog gp 63 [vs s] (vb (Xak s)):=by
 refine Wmb ?_
 simp only[go_sem]
 repeat' first|refine Kn rfl ?_|((first|refine Ka ?_|refine Kb ?_|refine Kv ?_|refine Ke ?_);simp only[go_sem])|refine Kf ?_|refine Kg ?_|apply Kp<;>intro _|((first|refine Kh ?_|refine Ki rfl ?_);simp only[or_self,Qs,Qt,Qu,Qv,Qw,Qx,Qy,Qz,Za,go_sem])
 refine Kt (fr 26 [(0,vs s),(8,.one (.own 0 0))]) ?_
 refine Km (fun mz sz=>∃ p f:Nat,mz=s.size - p/\s.size - p<=f/\Xbu s f p=Xak s/\sz=⟨fr 26 [(0,vs s),(8,.one (.own 0 0))],[.siter s p]⟩) s.size ⟨0,s.size,rfl,Nat.le_refl _,rfl,rfl⟩ ?_
 rintro _ _ ⟨p,f,rfl,hf,hr,rfl⟩
 simp only[go_sem]
 by_cases hp:p < s.size
 ·obtain⟨f,rfl⟩:∃ g,f=g+1:=⟨f - 1,by omega⟩
  have hw:=Lib.decode_width_pos s p hp
  have hd:=Xt1 hp
  simp only[Xbu,if_pos hp] at hr
  have hdec:=decode hU (s.extract p s.size)
  rw[hd] at hdec
  repeat' first|refine Kn rfl ?_|((first|refine Ka ?_|refine Kb ?_|refine Kv ?_|refine Ke ?_);simp only[go_sem])|refine Kf ?_|refine Kg ?_|refine⟨_,hdec,Kg ?_⟩|refine⟨_,⟨hdec,rfl⟩,Kg ?_⟩|refine⟨p,s.size,⟨rfl,rfl,Nat.le_of_lt hp,Nat.le_refl _⟩,Kg ?_⟩|apply Kp<;>intro _|((first|refine Kh ?_|refine Ki rfl ?_);simp only[or_self,Qs,Qt,Qu,Qv,Qw,Qx,Qy,Qz,Za,go_sem])
  ·rename_i h1 h2
   rw[if_pos ⟨by simp at h1;omega,by simp at h2;omega⟩] at hr
   rw[<- hr]
  ·rename_i h1 h2
   rw[if_neg (by intro h3;simp[h3.2] at h2)] at hr
   refine Kt (fr 26 [(0,vs s),(8,.one (.own 0 0))]) ?_
   exact Kl ⟨s.size - (p+(Utf8.decode s p).2),by omega,p+(Utf8.decode s p).2,f,rfl,by omega,hr,rfl⟩
  ·rename_i h1
   rw[if_neg (by intro h3;simp[h3.1] at h1)] at hr
   refine Kt (fr 26 [(0,vs s),(8,.one (.own 0 0))]) ?_
   exact Kl ⟨s.size - (p+(Utf8.decode s p).2),by omega,p+(Utf8.decode s p).2,f,rfl,by omega,hr,rfl⟩
  ·rename_i h;exact absurd hp h
 ·repeat' (first|refine Kn rfl ?_|((first|refine Ka ?_|refine Kb ?_|refine Kv ?_|refine Ke ?_);simp only[go_sem])|refine Kf ?_|refine Kg ?_|apply Kp<;>intro _|((first|refine Kh ?_|refine Ki rfl ?_);simp only[or_self,Qs,Qt,Qu,Qv,Qw,Qx,Qy,Qz,Za,go_sem]))
  ·rename_i h;exact absurd h hp
  ·rw[<- hr,Ybf hp]
end Go.Fw.L07
