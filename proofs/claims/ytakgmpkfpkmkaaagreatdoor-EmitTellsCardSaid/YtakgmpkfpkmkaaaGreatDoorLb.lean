/- Chapter 7,part 6: pairs in order. -/
import Derived.Test.YtakgmpkfpkmkaaaGreatDoorLa
import Derived.Shelf.Lays
import Derived.Shelf.Unicode.DecodeAny
import Derived.Lib.RuneCountTail
set_option linter.all false
namespace Go.Fw.L07
open Go Go.Fw
open Go.Fw.Sh renaming intro->Kg
open Go.Fw renaming Xdt->Ka,Xbs->Ke,Xd2->Kf,Xcp->Kt,Xfl->Ku,Xco->Kl,Xeg->Km,Gx->Kn,Gw->Ko
open Go.Fw renaming Xbs->Ka, Xbw->Ka, Xby->Ka, Xbz->Ka
open Go.Fw renaming Xdt->Kw, Xbs->Kw, Xbw->Kw, Xby->Kw, Xbz->Kw, Xhh->Kw, Xd3->Kw
open Go.Fw.Sh renaming intro->Kf
open Int renaming natCast_nonneg->Kq
open List renaming getElem?_eq_some_iff->Kr
open And renaming intro->Kp
open Go.Proofs.Tryz renaming prog->QP
set_option maxRecDepth 4000
variable {gp:Heap}
structure Pr where
 key:Sc
 kid:Int
abbrev Pr.ds (p:Pr):List D:=[.int .i64 p.key.k,.int .i64 p.key.n,.str p.key.s,.int .i64 p.kid]
abbrev Pr.as (p:Pr):List A:=[.d (.int .i64 p.key.k),.d (.int .i64 p.key.n),.d (.str p.key.s),.d (.int .i64 p.kid)]
abbrev Pr.v (p:Pr):V:=.agg p.as
abbrev prs (l:List Pr):List (List D):=l.map Pr.ds
def Xps {α:Type} (c:α->α->Int) (x:α) (p:List α):Nat->List α
 | 0=>x::p
 | j+1=>match p[j]? with
  | some y=>if c x y < 0 then Xps c x p j else p.take (j+1)++x::p.drop (j+1)
  | none=>p++[x]
def Xa5 {α:Type} (c:α->α->Int) (l:List α):Nat->List α
 | 0=>[]
 | i+1=>match l[i]? with
  | some x=>Xps c x (Xa5 c l i) i
  | none=>Xa5 c l i
section
variable {α:Type} {c:α->α->Int}
theorem Xy3 (x:α) (p:List α):∀ j,(Xps c x p j).length=p.length+1
 | 0=>rfl
 | j+1=>by
  simp only[Xps]
  split
  ·split
   ·exact Xy3 x p j
   ·rename_i y h _
    have:=(Kr.1 h).1
    simp;omega
  ·simp
theorem Xdy (l:List α):∀ i,i<=l.length->(Xa5 c l i).length=i
 | 0,_=>rfl
 | i+1,h=>by
  obtain⟨x,hx⟩:=Xaf (l:=l) (i:=i) (by omega)
  simp only[Xa5,hx]
  rw[Xy3,Xdy l i (by omega)]
theorem Yfm {x y:α} {p:List α} {j:Nat} (h:p[j]?=some y) (hc:c x y < 0):Xps c x p (j+1)=Xps c x p j:=by
 simp only[Xps,h,if_pos hc]
theorem Xrc {x y:α} {p:List α} {j:Nat} (h:p[j]?=some y) (hc:¬ c x y < 0):Xps c x p (j+1)=p.take (j+1)++x::p.drop (j+1):=by
 simp only[Xps,h,if_neg hc]
def mid (p:List α) (x:α) (rest:List α) (j:Nat):List α:=p.take j++x::(p.drop j++rest)
theorem Wnx {p:List α} {x:α} {rest:List α} {j:Nat} (h:j<=p.length):(mid p x rest j).length=p.length+1+rest.length:=by
 unfold mid;simp;omega
theorem W61 {p:List α} {x:α} {rest:List α} {j:Nat} (h:j<=p.length):(mid p x rest j)[j]?=some x:=by
 unfold mid
 rw[List.getElem?_append_right (by simp;omega)]
 simp[Nat.min_eq_left h]
theorem Xy4 {p:List α} {x:α} {rest:List α} {j:Nat} (h:j+1<=p.length):(mid p x rest (j+1))[j]?=p[j]?:=by
 unfold mid
 rw[List.getElem?_append_left (by simp;omega),List.getElem?_take]
 simp
theorem Yue {p:List α} {x y:α} {rest:List α} {j:Nat} (hy:p[j]?=some y):((mid p x rest (j+1)).set (j+1) y).set j x=mid p x rest j:=by
 obtain⟨hj,rfl⟩:=Kr.1 hy
 have h1:mid p x rest (j+1)=p.take j++(p[j]::x::(p.drop (j+1)++rest)):=by
  unfold mid
  rw[List.take_succ,List.getElem?_eq_getElem hj,List.append_assoc];rfl
 have hl:(p.take j).length=j:=by simp;omega
 rw[h1,List.set_append_right _ _ (by omega),List.set_append_right _ _ (by omega),hl]
 unfold mid
 have h2:p.drop j=p[j]::p.drop (j+1):=List.drop_eq_getElem_cons hj
 rw[h2,Nat.add_sub_cancel_left,Nat.sub_self]
 rfl
theorem Yfn {l:List α} {i:Nat} {x:α} (hx:l[i]?=some x):Xa5 c l i++l.drop i=mid (Xa5 c l i) x (l.drop (i+1)) i:=by
 obtain⟨hi,rfl⟩:=Kr.1 hx
 unfold mid
 have hn:(Xa5 c l i).length=i:=Xdy l i (by omega)
 have h1:(Xa5 c l i).take i=Xa5 c l i:=List.take_of_length_le (by omega)
 have h2:(Xa5 c l i).drop i=[]:=List.drop_of_length_le (by omega)
 have h3:l.drop i=l[i]::l.drop (i+1):=List.drop_eq_getElem_cons hi
 rw[h1,h2,h3]
 rfl
end
theorem Yfo (l:List Pr) (j:Nat) (p:Pr):(prs l).set j p.ds=prs (l.set j p):=by
 simp[prs,List.map_set]
set_option maxRecDepth 10000 in
theorem Yfp (f:FuncId) (c:Pr->Pr->Int) (hf:∀ a b:Pr,Does QP gp f [a.v,b.v] (vi (c a b))) (l:List Pr) (ver:Nat) :
  Tri QP gp 169 [.one (.own 0 ver),vi 0,vi l.length,.one (.d (.fn (.func f) []))] [.row 4 ver (prs l)] fun r post=>r=.tup []/\post=[.row 4 ver (prs (Xa5 c l l.length))]:=by
 refine Ysn ?_
 simp only[go_sem]
 repeat' first|refine Kn rfl ?_|(refine Kw ?_;simp only[go_sem])|refine Kf ?_|apply Kp<;>intro _
 refine⟨by simp[inK,IntKind.min,IntKind.max,IntKind.signed,IntKind.bits],?_⟩
 repeat' first|refine Kn rfl ?_|(refine Kw ?_;simp only[go_sem])|refine Kf ?_|apply Kp<;>intro _
 refine Wxp 0 rfl fun hl=>?_
 simp only[List.length_map] at hl
 have h0:prs l=prs (Xa5 c l (0+1)++l.drop (0+1)):=by
  cases l with
  | nil=>rfl
  | cons x l=>rfl
 rw[h0]
 refine Kt (fr 53 [(0,.one (.own 0 ver)),(1,vi 0),(2,vi l.length),(3,.one (.d (.fn (.func f) []))),(8,vi (((0:Nat)+1:Nat)))]) ?_
 refine Km (fun mz sz=>∃ i:Nat,i<=(l.length - 1)/\mz=(l.length - 1) - i/\(0<=i)/\sz=⟨fr 53 [(0,.one (.own 0 ver)),(1,vi 0),(2,vi l.length),(3,.one (.d (.fn (.func f) []))),(8,vi ((i+1:Nat)))],[.row 4 ver (prs (Xa5 c l (i+1)++l.drop (i+1)))]⟩) ((l.length - 1)) ⟨0,Nat.zero_le _,(Nat.sub_zero _).symm,?_,rfl⟩ ?_
 ·exact Nat.zero_le _
 rintro _ _ ⟨i,hi,rfl,-,rfl⟩
 simp only[go_sem]
 by_cases hil:i+1 < l.length
 ·obtain⟨x,hx⟩:=Xaf hil
  repeat' first|refine Kn rfl ?_|(refine Kw ?_;simp only[go_sem])|refine Kf ?_|apply Kp<;>intro _
  ·have hp:(Xa5 c l (i+1)).length=i+1:=Xdy l (i+1) (by omega)
   rw[Yfn hx]
   have hs:Xa5 c l (i+1+1)=Xps c x (Xa5 c l (i+1)) (i+1):=by rw[Xa5,hx]
   generalize hpp:Xa5 c l (i+1)=p at hp hs
   refine Kt (fr 53 [(0,.one (.own 0 ver)),(1,vi 0),(2,vi l.length),(3,.one (.d (.fn (.func f) []))),(8,vi ((i+1:Nat))),(9,vi ((i+1:Nat)))]) ?_
   refine Km (fun n s=>∃ j:Nat,j<=i+1/\n=j/\Xps c x p (i+1)=Xps c x p j/\s=⟨fr 53 [(0,.one (.own 0 ver)),(1,vi 0),(2,vi l.length),(3,.one (.d (.fn (.func f) []))),(8,vi ((i+1:Nat))),(9,vi j)],[.row 4 ver (prs (mid p x (l.drop (i+1+1)) j))]⟩) (i+1) ⟨i+1,Nat.le_refl _,rfl,rfl,rfl⟩ ?_
   rintro j _ ⟨_,hj,rfl,hj2,rfl⟩
   simp only[go_sem]
   have hfin:prs (Xps c x p (i+1)++l.drop (i+1+1))=prs (Xa5 c l (i+1+1)++l.drop (i+1+1)):=by rw[hs]
   have hin:inK .i64 (((i+1:Nat):Int)+1):=Xai hil hl
   have hout:∀ q,Xps c x p (i+1)=q->prs (q++l.drop (i+1+1))=prs (Xa5 c l (i+1+1)++l.drop (i+1+1)):=fun q hq=>by rw[hs,hq]
   have hmid:(mid p x (l.drop (i+1+1)) j).length=l.length:=by rw[Wnx (by omega),hp];simp;omega
   cases j with
   | zero =>
    repeat' first|refine Kn rfl ?_|(refine Kw ?_;simp only[go_sem])|refine Kf ?_|apply Kp<;>intro _
    ·refine⟨hin,?_⟩
     rw[show prs (mid p x (l.drop (i+1+1)) 0)=_ from hout _ hj2]
     refine Kt (fr 53 [(0,.one (.own 0 ver)),(1,vi 0),(2,vi l.length),(3,.one (.d (.fn (.func f) []))),(8,vi (((i+1)+1:Nat)))]) ?_
     refine Kl ⟨(l.length - 1) - (i+1),by omega,i+1,by omega,rfl,?_,rfl⟩
     exact Nat.zero_le _
   | succ j =>
    obtain⟨y,hy⟩:=Xaf (l:=p) (i:=j) (by omega)
    have hj1:((j+1:Nat):Int) - 1=(j:Int):=by omega
    have hik:inK .i64 (j:Int):=by rw[<- hj1];exact Xtb (by omega)
    have ha:(prs (mid p x (l.drop (i+1+1)) (j+1)))[j+1]?=some x.ds:=Xab (W61 (by omega))
    have hb:(prs (mid p x (l.drop (i+1+1)) (j+1)))[j]?=some y.ds:=Xab ((Xy4 (by omega)).trans hy)
    repeat' first|refine Kn rfl ?_|(refine Kw ?_;simp only[hj1,go_sem])|refine Kf ?_|refine⟨_,hf _ _,Kg ?_⟩|refine⟨_,⟨hf _ _,rfl⟩,Kg ?_⟩|refine⟨_,⟨ha,Nat.le_refl _⟩,Kg ?_⟩|refine⟨_,⟨hb,Nat.le_refl _⟩,Kg ?_⟩|refine⟨Kq _,show j+1 < _ by omega,?_⟩|refine⟨Kq _,show j < _ by omega,?_⟩|refine⟨hik,?_⟩|apply Kp<;>intro _
    ·rename_i hc
     have hM:((mid p x (l.drop (i+1+1)) (j+1)).set (j+1) y)[j]?=some y:=by
      rw[List.getElem?_set_ne (by omega),Xy4 (by omega),hy]
     rw[show (prs (mid p x (l.drop (i+1+1)) (j+1))).set (j+1) _=prs ((mid p x (l.drop (i+1+1)) (j+1)).set (j+1) y) from Yfo _ _ y]
     refine⟨Kq _,by rw[List.length_map,List.length_set];omega,_,⟨Xab hM,Nat.le_refl _⟩,Kg ?_⟩
     simp only[go_sem]
     rw[show (prs ((mid p x (l.drop (i+1+1)) (j+1)).set (j+1) y)).set j _=prs (mid p x (l.drop (i+1+1)) j) from (Yfo _ _ x).trans (by rw[Yue hy])]
     repeat' first|refine Kn rfl ?_|(refine Kw ?_;simp only[hj1,go_sem])|refine Kf ?_|apply Kp<;>intro _
     refine⟨hik,?_⟩
     refine Kt (fr 53 [(0,.one (.own 0 ver)),(1,vi 0),(2,vi l.length),(3,.one (.d (.fn (.func f) []))),(8,vi ((i+1:Nat))),(9,vi j)]) ?_
     exact Kl ⟨j,Nat.lt_succ_self j,j,by omega,rfl,hj2.trans (Yfm hy hc),rfl⟩
    ·rename_i hc
     refine⟨hin,?_⟩
     rw[show prs (mid p x (l.drop (i+1+1)) (j+1))=prs (Xa5 c l (i+1+1)++l.drop (i+1+1)) from by
      rw[<- hout _ (hj2.trans (Xrc hy hc))];unfold mid;simp]
     refine Kt (fr 53 [(0,.one (.own 0 ver)),(1,vi 0),(2,vi l.length),(3,.one (.d (.fn (.func f) []))),(8,vi (((i+1)+1:Nat)))]) ?_
     refine Kl ⟨(l.length - 1) - (i+1),by omega,i+1,by omega,rfl,?_,rfl⟩
     exact Nat.zero_le _
    ·exfalso;omega
  ·omega
 ·repeat' (first|refine Kn rfl ?_|(refine Kw ?_;simp only[go_sem])|refine Kf ?_|apply Kp<;>intro _)
  ·omega
  ·cases l with
   | nil =>
    have:∀ n,Xa5 c ([]:List Pr) n=[]:=by intro n;induction n with|zero=>rfl|succ n ih=>simp[Xa5,ih]
    simp[this]
   | cons x l =>
    have e:i+1=(x::l).length:=by simp at hi hil ⊢;omega
    rw[e,List.drop_length,List.append_nil]
theorem Yuf (a b:Pr):Does QP gp 115 [a.v,b.v] (vi (Xtd a.key b.key)):=by
 refine Wg6 ?_
 simp only[go_sem]
 repeat' first|refine Kn rfl ?_|(refine Kw ?_;simp only[go_sem])|refine Kf ?_|refine⟨_,Yfg ⟨_,_,_⟩ ⟨_,_,_⟩,Kg ?_⟩|refine⟨_,⟨Yfg ⟨_,_,_⟩ ⟨_,_,_⟩,rfl⟩,Kg ?_⟩|apply Kp<;>intro _
abbrev Xe4 (a b:Pr):Int:=Xtd a.key b.key
abbrev srt (l:List Pr):List Pr:=Xa5 Xe4 l l.length
theorem W62 (l:List Pr) (ver:Nat) (hl:l.length < 20) :
  Tri QP gp 145 [.one (.own 0 ver),vi l.length,.one (.d (.fn (.func 115) []))] [.row 4 ver (prs l)] fun r post=>r=.tup []/\post=[.row 4 ver (prs (srt l))]:=by
 refine Yq3 ?_
 simp only[go_sem]
 repeat' first|refine Kn rfl ?_|(refine Kw ?_;simp only[go_sem])|refine Kf ?_|apply Kp<;>intro _
 refine X4u ?_
 repeat' first|refine Kn rfl ?_|(refine Kw ?_;simp only[go_sem])|refine Kf ?_|apply Kp<;>intro _
 ·omega
 ·refine Or.inr (Or.inl ⟨0,.tup [],.row 4 ver (prs (srt l)),(by simp only[Xqp,go_sem];exact⟨rfl,rfl,Wk1,Yfp _ Xe4 Yuf l ver⟩),Kg ?_⟩)
  simp only[go_sem]
  repeat' first|refine Kn rfl ?_|(refine Kw ?_;simp only[go_sem])|refine Kf ?_|apply Kp<;>intro _
  refine X4u ?_
  repeat' first|refine Kn rfl ?_|(refine Kw ?_;simp only[go_sem])|refine Kf ?_|apply Kp<;>intro _
  omega
theorem Xte (l:List Pr) (ver:Nat) (hl:l.length < 20) :
  Tri QP gp 114 [.one (.own 0 ver),.one (.d (.fn (.func 115) []))] [.row 4 ver (prs l)] fun r post=>r=.tup []/\post=[.row 4 ver (prs (srt l))]:=by
 refine Ypb ?_
 simp only[go_sem]
 repeat' first|refine Kn rfl ?_|(refine Kw ?_;simp only[go_sem])|refine Kf ?_|apply Kp<;>intro _
 refine Or.inr (Or.inl ⟨0,.tup [],.row 4 ver (prs (srt l)),(by simp only[Xqp,go_sem];exact⟨rfl,rfl,Wja,W62 l ver hl⟩),Kg ?_⟩)
 simp only[go_sem]
 repeat' first|refine Kn rfl ?_|(refine Kw ?_;simp only[go_sem])|refine Kf ?_|apply Kp<;>intro _
def Xb5 (x:Nd):List Pr:=List.zipWith Pr.mk x.keys x.kids
def Xae (x:Nd):List Pr:=if x.k=2/\x.keys.length=x.kids.length then srt (Xb5 x) else []
theorem Yfq {x:Nd} {i:Nat} {a:Sc} {b:Int} (ha:x.keys[i]?=some a) (hb:x.kids[i]?=some b):(Xb5 x)[i]?=some ⟨a,b⟩:=by
 unfold Xb5;rw[List.getElem?_zipWith,ha,hb]
theorem Yug {l:List Pr} {i:Nat} {p:Pr} (h:l[i]?=some p):prs (l.take i)++[p.ds]=prs (l.take (i+1)):=by
 rw[<- Xbx h];simp[prs]
theorem Yuh (x:Nd) (n:Int) (hx:x.keys.length < 20):Does QP gp 75 [x.vw n] (.one (.d (.sl (prs (Xae x))))):=by
 refine W4e ?_
 simp only[go_sem]
 repeat' first|refine Kn rfl ?_|(refine Kw ?_;simp only[go_sem])|refine Kf ?_|refine⟨_,Xh5 x n,Kg ?_⟩|refine⟨_,⟨Xh5 x n,rfl⟩,Kg ?_⟩|apply Kp<;>intro _
 ·rename_i h1 h2
  have:¬ x.keys.length=x.kids.length:=by intro h;simp[h] at h2
  unfold Xae;rw[if_neg (by simp[this])];rfl
 ·rename_i h1 h2
  have hk:x.k=2:=by simpa using h1
  have hl:x.keys.length=x.kids.length:=Classical.byContradiction fun h=>by simp[h] at h2
  have hp:Xae x=srt (Xb5 x):=by unfold Xae;rw[if_pos ⟨hk,hl⟩]
  have hz:(Xb5 x).length=x.keys.length:=by unfold Xb5;simp[<- hl]
  rw[hp]
  refine Xeh 3 4 (by decide) rfl ?_
  simp only[go_sem]
  refine Kt (fr 39 [(1,.one (.d (.bx (x.vd n)))),(2,.one .nil),(3,.one (.own 0 (0:Nat))),(17,.one (.d (.sl (scs x.keys)))),(18,vi x.keys.length),(19,vi (0:Nat))]) ?_
  refine Km (fun mz sz=>∃ i:Nat,i<=x.keys.length/\mz=x.keys.length - i/\(0<=i)/\sz=⟨fr 39 [(1,.one (.d (.bx (x.vd n)))),(2,.one .nil),(3,.one (.own 0 i)),(17,.one (.d (.sl (scs x.keys)))),(18,vi x.keys.length),(19,vi i)],[.row 4 i (prs ((Xb5 x).take i))]⟩) (x.keys.length) ⟨0,Nat.zero_le _,(Nat.sub_zero _).symm,?_,rfl⟩ ?_
  ·exact Nat.zero_le _
  rintro _ _ ⟨i,hi,rfl,-,rfl⟩
  simp only[go_sem]
  by_cases hil:i < x.keys.length
  ·obtain⟨a,ha⟩:=Xaf hil
   obtain⟨b,hb⟩:=Xaf (l:=x.kids) (i:=i) (by omega)
   repeat' first|refine Kn rfl ?_|(refine Kw ?_;simp only[go_sem])|refine Kf ?_|refine⟨_,⟨Kq _,(Xab ha),rfl⟩,Kg ?_⟩|refine⟨_,⟨Kq _,(Xab hb),rfl⟩,Kg ?_⟩|apply Kp<;>intro _
   ·refine⟨by simp,by simp;omega,by simp[lenMax];omega,?_⟩
    rw[show prs ((Xb5 x).take i)++[_]=prs ((Xb5 x).take (i+1)) from Yug (Yfq ha hb)]
    repeat' first|refine Kn rfl ?_|(refine Kw ?_;simp only[go_sem])|refine Kf ?_|apply Kp<;>intro _
    refine⟨Xai hil (by unfold lenMax;omega),?_⟩
    refine Kt (fr 39 [(1,.one (.d (.bx (x.vd n)))),(2,.one .nil),(3,.one (.own 0 (i+1))),(17,.one (.d (.sl (scs x.keys)))),(18,vi x.keys.length),(19,vi (i+1))]) ?_
    refine Ku 1 ?_
    simp only[go_sem]
    refine Kl ⟨x.keys.length - (i+1),by omega,i+1,by omega,rfl,?_,rfl⟩
    exact Nat.zero_le _
   ·omega
  ·repeat' (first|refine Kn rfl ?_|(refine Kw ?_;simp only[go_sem])|refine Kf ?_|apply Kp<;>intro _)
   ·omega
   ·rw[List.take_of_length_le (by omega)]
    refine Or.inr (Or.inl ⟨0,.tup [],.row 4 i (prs (srt (Xb5 x))),(by simp only[Xqp,go_sem];exact⟨rfl,rfl,Wg2,Xte (Xb5 x) i (by omega)⟩),Kg ?_⟩)
    simp only[go_sem]
    refine Xap 0 ?_
    simp only[go_sem]
    repeat' first|refine Kn rfl ?_|(refine Kw ?_;simp only[go_sem])|refine Kf ?_|apply Kp<;>intro _
 ·rename_i h
  have hk:¬ x.k=2:=by intro h2;simp[h2] at h
  unfold Xae;rw[if_neg (by simp[hk])];rfl
theorem Xnj (l:List Int) (hl:l.length < 100):Does QP gp 76 [.one (.d (.sl (Xad l)))] (.one (.d (.sl (Xad l)))):=by
 refine W4k ?_
 simp only[go_sem]
 cases l with
 | nil =>
  refine Jey 0 rfl fun q c=>?_
  cases q with
  | none =>
   simp only[go_sem]
   repeat' first|refine Kn rfl ?_|(refine Kw ?_;simp only[Xlm,Xln,Xne,Xnf,go_sem])|refine Kf ?_|apply Kp<;>intro _
  | some q =>
   simp only[go_sem]
   refine Wxj ?_
   repeat' first|refine Kn rfl ?_|(refine Kw ?_;simp only[Xlm,Xln,go_sem])|refine Kf ?_|apply Kp<;>intro _
   refine Y9u 0 rfl ?_
   simp only[go_sem]
   repeat' first|refine Kn rfl ?_|(refine Kw ?_;simp only[Xlm,Xln,Xne,Xnf,go_sem])|refine Kf ?_|apply Kp<;>intro _
   refine⟨by simp,by simp[lenMax],?_⟩
   refine Xap 0 ?_
   simp only[go_sem]
   repeat' first|refine Kn rfl ?_|(refine Kw ?_;simp only[Xlm,Xln,Xne,Xnf,go_sem])|refine Kf ?_|apply Kp<;>intro _
 | cons x l =>
  simp only[go_sem]
  repeat' first|refine Kn rfl ?_|(refine Kw ?_;simp only[Xlm,Xln,Xne,Xnf,go_sem])|refine Kf ?_|apply Kp<;>intro _
  refine⟨by simp,by simp at hl;omega,by simp[lenMax] at hl ⊢;omega,?_⟩
  refine Xap 0 ?_
  simp only[go_sem]
  repeat' first|refine Kn rfl ?_|(refine Kw ?_;simp only[Xlm,Xln,Xne,Xnf,go_sem])|refine Kf ?_|apply Kp<;>intro _
def Xc9 (g:Gr):Prop:=∀ x∈g.l,x.keys.length<=12/\x.kids.length<=12
theorem Xc9.at {g:Gr} (h:Xc9 g) (i:Int):(Xbr g.l i).keys.length<=12/\(Xbr g.l i).kids.length<=12:=by
 unfold Xbr
 split
 ·cases e:g.l[i.toNat]? with
  | none=>simp[Nd.zero]
  | some x=>exact h x (List.mem_of_getElem? e)
 ·simp[Nd.zero]
def Xan (x:Nd):List Int:=if x.k=1 then x.kids else (Xae x).map Pr.kid
def Xaq (x:Nd):List Sc:=(Xae x).map Pr.key
theorem Xtf {α:Type} {c:α->α->Int} (l:List α):(Xa5 c l l.length).length=l.length:=Xdy l _ (Nat.le_refl _)
theorem Xfo (x:Nd):(Xae x).length<=x.keys.length:=by
 unfold Xae
 split
 ·rw[Xtf];unfold Xb5;simp;omega
 ·simp
theorem Xgb {l:List Int} {i:Nat} {p:Int} (h:l[i]?=some p):Xad (l.take i)++[[.int .i64 p]]=Xad (l.take (i+1)):=by
 rw[<- Xbx h];simp[Xad]
theorem Xo0 {l:List Sc} {i:Nat} {p:Sc} (h:l[i]?=some p):scs (l.take i)++[p.ds]=scs (l.take (i+1)):=by
 rw[<- Xbx h];simp[scs]
theorem Yui (l:List Nd) (i:Int) (h:atE l i≠0):Xbr l i=Nd.zero:=by
 unfold atE at h;unfold Xbr
 split at h
 ·exact absurd rfl h
 ·rename_i h2;rw[if_neg h2]
theorem kids (g:Gr) (i:Int) (hg:Xc9 g):Does QP gp 51 [g.v,vi i] (.tup [.one (.d (.sl (Xad (Xan (Xbr g.l i))))),vi (atE g.l i)]):=by
 refine W2g ?_
 simp only[go_sem]
 obtain⟨h1,h2⟩:=hg.at i
 have hz:=Yui g.l i
 have ha:=Yfj (gp:=gp) g i
 generalize Xbr g.l i=x at *
 generalize atE g.l i=e at *
 generalize atN g.l i=n at *
 have hq:=Xfo x
 repeat' first|refine Kn rfl ?_|(refine Kw ?_;simp only[Xji,Xjj,Xjk,Xjl,Xjm,Xf6,Xer,Xf7,Xf8,Xf9,Xga,go_sem])|refine Kf ?_|refine⟨_,ha,Kg ?_⟩|refine⟨_,⟨ha,rfl⟩,Kg ?_⟩|refine⟨_,Xnj x.kids (by omega),Kg ?_⟩|refine⟨_,⟨Xnj x.kids (by omega),rfl⟩,Kg ?_⟩|refine⟨_,Yuh x n (by omega),Kg ?_⟩|refine⟨_,⟨Yuh x n (by omega),rfl⟩,Kg ?_⟩|apply Kp<;>intro _
 ·rename_i h
  have h:x.k=1:=by simpa using h
  simp[Xan,h]
 ·rename_i h
  have h:¬ x.k=1:=by simpa using h
  have hk:Xan x=(Xae x).map Pr.kid:=by unfold Xan;rw[if_neg h]
  rw[hk]
  refine Xeh 8 1 (by decide) rfl ?_
  simp only[go_sem]
  refine Kt (fr 45 [(7,vi e),(8,.one (.own 1 (0:Nat))),(31,.one (.d (.sl (prs (Xae x))))),(32,vi (Xae x).length),(33,vi (0:Nat))]) ?_
  refine Km (fun mz sz=>∃ i:Nat,i<=(Xae x).length/\mz=(Xae x).length - i/\(0<=i)/\sz=⟨fr 45 [(7,vi e),(8,.one (.own 1 i)),(31,.one (.d (.sl (prs (Xae x))))),(32,vi (Xae x).length),(33,vi i)],[.cells _,.row 1 i (Xad (((Xae x).map Pr.kid).take i))]⟩) ((Xae x).length) ⟨0,Nat.zero_le _,(Nat.sub_zero _).symm,?_,rfl⟩ ?_
  ·exact Nat.zero_le _
  rintro _ _ ⟨i,hi,rfl,-,rfl⟩
  simp only[go_sem]
  by_cases hil:i < (Xae x).length
  ·obtain⟨p,hp⟩:=Xaf hil
   repeat' first|refine Kn rfl ?_|(refine Kw ?_;simp only[Xji,Xjj,Xjk,Xjl,Xjm,Xf6,Xer,Xf7,Xf8,Xf9,Xga,go_sem])|refine Kf ?_|refine⟨_,⟨Kq _,(Xab hp),rfl⟩,Kg ?_⟩|apply Kp<;>intro _
   ·refine⟨by simp,by simp;omega,by simp[lenMax];omega,?_⟩
    rw[show Xad (((Xae x).map Pr.kid).take i)++[_]=Xad (((Xae x).map Pr.kid).take (i+1)) from Xgb (by rw[List.getElem?_map,hp];rfl)]
    repeat' first|refine Kn rfl ?_|(refine Kw ?_;simp only[Xji,Xjj,Xjk,Xjl,Xjm,Xf6,Xer,Xf7,Xf8,Xf9,Xga,go_sem])|refine Kf ?_|apply Kp<;>intro _
    refine⟨Xai hil (by unfold lenMax;omega),?_⟩
    refine Kt (fr 45 [(7,vi e),(8,.one (.own 1 (i+1))),(31,.one (.d (.sl (prs (Xae x))))),(32,vi (Xae x).length),(33,vi (i+1))]) ?_
    refine Ku 2 ?_
    simp only[go_sem]
    refine Kl ⟨(Xae x).length - (i+1),by omega,i+1,by omega,rfl,?_,rfl⟩
    exact Nat.zero_le _
   ·omega
  ·repeat refine Ko rfl ?_
   refine Ka ?_
   simp only[Xer,go_sem]
   repeat refine Ko rfl ?_
   refine Ke ?_
   simp only[go_sem]
   refine⟨fun h=>by exfalso;omega,fun _=>Xlg rfl ?_⟩
   rw[List.take_of_length_le (by simp;omega)]
   refine Xap 1 ?_
   simp only[go_sem]
   repeat' first|refine Kn rfl ?_|(refine Kw ?_;simp only[Xji,Xjj,Xjk,Xjl,Xjm,Xf6,Xer,Xf7,Xf8,Xf9,Xga,go_sem])|refine Kf ?_|apply Kp<;>intro _
 ·rename_i h
  have h:x=Nd.zero:=hz (by intro h2;simp[h2] at h)
  have hk:Xan x=(Xae x).map Pr.kid:=by rw[h];rfl
  rw[hk]
  refine Xeh 8 1 (by decide) rfl ?_
  simp only[go_sem]
  refine Kt (fr 45 [(7,vi e),(8,.one (.own 1 (0:Nat))),(31,.one (.d (.sl (prs (Xae x))))),(32,vi (Xae x).length),(33,vi (0:Nat))]) ?_
  refine Km (fun mz sz=>∃ i:Nat,i<=(Xae x).length/\mz=(Xae x).length - i/\(0<=i)/\sz=⟨fr 45 [(7,vi e),(8,.one (.own 1 i)),(31,.one (.d (.sl (prs (Xae x))))),(32,vi (Xae x).length),(33,vi i)],[.cells _,.row 1 i (Xad (((Xae x).map Pr.kid).take i))]⟩) ((Xae x).length) ⟨0,Nat.zero_le _,(Nat.sub_zero _).symm,?_,rfl⟩ ?_
  ·exact Nat.zero_le _
  rintro _ _ ⟨i,hi,rfl,-,rfl⟩
  simp only[go_sem]
  by_cases hil:i < (Xae x).length
  ·obtain⟨p,hp⟩:=Xaf hil
   repeat' first|refine Kn rfl ?_|(refine Kw ?_;simp only[Xji,Xjj,Xjk,Xjl,Xjm,Xf6,Xer,Xf7,Xf8,Xf9,Xga,go_sem])|refine Kf ?_|refine⟨_,⟨Kq _,(Xab hp),rfl⟩,Kg ?_⟩|apply Kp<;>intro _
   ·refine⟨by simp,by simp;omega,by simp[lenMax];omega,?_⟩
    rw[show Xad (((Xae x).map Pr.kid).take i)++[_]=Xad (((Xae x).map Pr.kid).take (i+1)) from Xgb (by rw[List.getElem?_map,hp];rfl)]
    repeat' first|refine Kn rfl ?_|(refine Kw ?_;simp only[Xji,Xjj,Xjk,Xjl,Xjm,Xf6,Xer,Xf7,Xf8,Xf9,Xga,go_sem])|refine Kf ?_|apply Kp<;>intro _
    refine⟨Xai hil (by unfold lenMax;omega),?_⟩
    refine Kt (fr 45 [(7,vi e),(8,.one (.own 1 (i+1))),(31,.one (.d (.sl (prs (Xae x))))),(32,vi (Xae x).length),(33,vi (i+1))]) ?_
    refine Ku 2 ?_
    simp only[go_sem]
    refine Kl ⟨(Xae x).length - (i+1),by omega,i+1,by omega,rfl,?_,rfl⟩
    exact Nat.zero_le _
   ·omega
  ·repeat refine Ko rfl ?_
   refine Ka ?_
   simp only[Xer,go_sem]
   repeat refine Ko rfl ?_
   refine Ke ?_
   simp only[go_sem]
   refine⟨fun h=>by exfalso;omega,fun _=>Xlg rfl ?_⟩
   rw[List.take_of_length_le (by simp;omega)]
   refine Xap 1 ?_
   simp only[go_sem]
   repeat' first|refine Kn rfl ?_|(refine Kw ?_;simp only[Xji,Xjj,Xjk,Xjl,Xjm,Xf6,Xer,Xf7,Xf8,Xf9,Xga,go_sem])|refine Kf ?_|apply Kp<;>intro _
theorem keys (g:Gr) (i:Int) (hg:Xc9 g):Does QP gp 50 [g.v,vi i] (.tup [.one (.d (.sl (scs (Xaq (Xbr g.l i))))),vi (atE g.l i)]):=by
 refine W19 ?_
 simp only[go_sem]
 obtain⟨h1,h2⟩:=hg.at i
 have ha:=Yfj (gp:=gp) g i
 generalize Xbr g.l i=x at *
 generalize atE g.l i=e at *
 generalize atN g.l i=n at *
 have hq:=Xfo x
 have hk:Xaq x=(Xae x).map Pr.key:=rfl
 repeat' first|refine Kn rfl ?_|(refine Kw ?_;simp only[Xqx,Xqy,Xqz,Xq0,Xnd,Xq1,Xq2,Xlk,Xll,go_sem])|refine Kf ?_|refine⟨_,ha,Kg ?_⟩|refine⟨_,⟨ha,rfl⟩,Kg ?_⟩|refine⟨_,Yuh x n (by omega),Kg ?_⟩|refine⟨_,⟨Yuh x n (by omega),rfl⟩,Kg ?_⟩|apply Kp<;>intro _
 rw[hk]
 refine Xeh 8 3 (by decide) rfl ?_
 simp only[go_sem]
 refine Kt (fr 32 [(7,vi e),(8,.one (.own 1 (0:Nat))),(18,.one (.d (.sl (prs (Xae x))))),(19,vi (Xae x).length),(20,vi (0:Nat))]) ?_
 refine Km (fun mz sz=>∃ i:Nat,i<=(Xae x).length/\mz=(Xae x).length - i/\(0<=i)/\sz=⟨fr 32 [(7,vi e),(8,.one (.own 1 i)),(18,.one (.d (.sl (prs (Xae x))))),(19,vi (Xae x).length),(20,vi i)],[.cells _,.row 3 i (scs (((Xae x).map Pr.key).take i))]⟩) ((Xae x).length) ⟨0,Nat.zero_le _,(Nat.sub_zero _).symm,?_,rfl⟩ ?_
 ·exact Nat.zero_le _
 rintro _ _ ⟨i,hi,rfl,-,rfl⟩
 simp only[go_sem]
 by_cases hil:i < (Xae x).length
 ·obtain⟨p,hp⟩:=Xaf hil
  repeat' first|refine Kn rfl ?_|(refine Kw ?_;simp only[Xqx,Xqy,Xqz,Xq0,Xnd,Xq1,Xq2,Xlk,Xll,go_sem])|refine Kf ?_|refine⟨_,⟨Kq _,(Xab hp),rfl⟩,Kg ?_⟩|apply Kp<;>intro _
  ·refine⟨by simp,by simp;omega,by simp[lenMax];omega,?_⟩
   rw[show scs (((Xae x).map Pr.key).take i)++[_]=scs (((Xae x).map Pr.key).take (i+1)) from Xo0 (by rw[List.getElem?_map,hp];rfl)]
   repeat' first|refine Kn rfl ?_|(refine Kw ?_;simp only[Xqx,Xqy,Xqz,Xq0,Xnd,Xq1,Xq2,Xlk,Xll,go_sem])|refine Kf ?_|apply Kp<;>intro _
   refine⟨Xai hil (by unfold lenMax;omega),?_⟩
   refine Kt (fr 32 [(7,vi e),(8,.one (.own 1 (i+1))),(18,.one (.d (.sl (prs (Xae x))))),(19,vi (Xae x).length),(20,vi (i+1))]) ?_
   refine Ku 2 ?_
   simp only[go_sem]
   refine Kl ⟨(Xae x).length - (i+1),by omega,i+1,by omega,rfl,?_,rfl⟩
   exact Nat.zero_le _
  ·omega
 ·repeat refine Ko rfl ?_
  refine Ka ?_
  simp only[Xnd,go_sem]
  repeat refine Ko rfl ?_
  refine Ke ?_
  simp only[go_sem]
  refine⟨fun h=>by exfalso;omega,fun _=>Xlg rfl ?_⟩
  rw[List.take_of_length_le (by simp;omega)]
  refine Xap 1 ?_
  simp only[go_sem]
  repeat' first|refine Kn rfl ?_|(refine Kw ?_;simp only[Xqx,Xqy,Xqz,Xq0,Xnd,Xq1,Xq2,Xlk,Xll,go_sem])|refine Kf ?_|apply Kp<;>intro _
def Yfr (l:List Sc) (m:List Int) (key:Sc):Int × Bool :=
 match (List.zip l m).find? fun p=>decide (p.1=key) with
 | some p=>(p.2,true)
 | none=>(0,false)
def Y37 (x:Nd) (key:Sc):Int × Bool:=if x.k=2 then Yfr x.keys x.kids key else (0,false)
def Nd.cut (x:Nd):Nd:=⟨x.k,x.x.cut,(x.keys.take 12).map Sc.cut,x.kids.take 12⟩
def Gr.cut (g:Gr):Gr:=⟨g.root,(g.l.take 201).map Nd.cut⟩
theorem Gr.cut_small (g:Gr):Xc9 g.cut:=by
 intro x hx
 obtain⟨y,_,rfl⟩:=List.mem_map.1 hx
 simp[Nd.cut];omega
theorem Xo1 {l:List Nd} {i:Nat} {p:Nd} (h:l[i]?=some p):nds (l.take i)++[p.ds]=nds (l.take (i+1)):=by
 rw[<- Xbx h];simp[nds]
theorem W63 (g:Gr):Does QP gp 24 [g.v] g.cut.v:=by
 refine W0b ?_
 simp only[go_sem]
 repeat' first|refine Kn rfl ?_|(refine Kw ?_;simp only[go_sem])|refine Kf ?_|apply Kp<;>intro _
 refine Xeq 1 1 6 (by decide) rfl rfl ?_
 simp only[go_sem]
 obtain⟨M,hM⟩:∃ M,M=min g.l.length 201:=⟨_,rfl⟩
 refine Kt (fr 84 [(1,.one (.d (.bx [.int .i64 g.root,.sl (nds g.l)]))),(2,.one (.ptr 0 0)),(3,.one (.ptr 1 0)),(4,vi (0:Nat))]) ?_
 refine Km (fun mz sz=>∃ i:Nat,i<=M/\mz=M - i/\(0<=i)/\sz=⟨fr 84 [(1,.one (.d (.bx [.int .i64 g.root,.sl (nds g.l)]))),(2,.one (.ptr 0 0)),(3,.one (.ptr 1 0)),(4,vi i)],[.cells [.d (.int .i64 0),.nil],.cells [.d (.int .i64 g.root),.own 2 i],.row 6 i (nds ((g.l.map Nd.cut).take i))]⟩) (M) ⟨0,Nat.zero_le _,(Nat.sub_zero _).symm,?_,rfl⟩ ?_
 ·exact Nat.zero_le _
 rintro _ _ ⟨i,hi,rfl,-,rfl⟩
 simp only[go_sem]
 by_cases hil:i < M
 ·obtain⟨x,hx⟩:=Xaf (l:=g.l) (i:=i) (by omega)
  repeat' first|refine Ko rfl ?_|(refine Kw ?_;simp only[go_sem])|refine Kf ?_|refine⟨_,Xy1 x.x,Kg ?_⟩|refine⟨_,⟨Xy1 x.x,rfl⟩,Kg ?_⟩|refine⟨_,⟨Kq _,(Xab hx),rfl⟩,Kg ?_⟩|apply Kp<;>intro _
  ·obtain⟨K,hK⟩:∃ K,K=min x.keys.length 12:=⟨_,rfl⟩
   obtain⟨L,hL⟩:∃ L,L=min x.kids.length 12:=⟨_,rfl⟩
   have hcut:(Nd.cut x).ds=[.int .i64 x.k,.int .i64 x.x.cut.k,.int .i64 x.x.cut.n,.str x.x.cut.s,.sl (scs ((x.keys.map Sc.cut).take K)),.sl (Xad (x.kids.take L))]:=by
    have e1:(x.keys.take 12).map Sc.cut=(x.keys.map Sc.cut).take K:=by rw[List.map_take,hK,<- List.length_map (f:=Sc.cut),Nat.min_comm,<- List.take_eq_take_min]
    have e2:x.kids.take 12=x.kids.take L:=by rw[hL,Nat.min_comm,<- List.take_eq_take_min]
    simp only[Nd.cut,e1,e2]
   have hx2:(g.l.map Nd.cut)[i]?=some x.cut:=by rw[List.getElem?_map,hx];rfl
   have hkl:(x.keys.map Sc.cut).length=x.keys.length:=List.length_map _
   refine Xeq 4 4 3 (by decide) rfl rfl ?_
   simp only[go_sem]
   refine Xeq 4 5 1 (by decide) rfl rfl ?_
   simp only[go_sem]
   refine Kt (fr 84 [(1,.one (.d (.bx [.int .i64 g.root,.sl (nds g.l)]))),(2,.one (.ptr 0 0)),(3,.one (.ptr 1 0)),(4,vi i),(5,.one (.ptr 3 0)),(6,.one (.ptr 4 0)),(7,vi (0:Nat))]) ?_
   refine Km (fun mz sz=>∃ j:Nat,j<=K/\mz=K - j/\(0<=j)/\sz=⟨fr 84 [(1,.one (.d (.bx [.int .i64 g.root,.sl (nds g.l)]))),(2,.one (.ptr 0 0)),(3,.one (.ptr 1 0)),(4,vi i),(5,.one (.ptr 3 0)),(6,.one (.ptr 4 0)),(7,vi j)],[.cells [.d (.int .i64 0),.nil],.cells [.d (.int .i64 g.root),.own 2 i],.row 6 i (nds ((g.l.map Nd.cut).take i)),.cells x.as,.cells [.d (.int .i64 x.k),.d (.int .i64 x.x.cut.k),.d (.int .i64 x.x.cut.n),.d (.str x.x.cut.s),.own 5 j,.own 6 0],.row 3 j (scs ((x.keys.map Sc.cut).take j)),.row 1 0 []]⟩) (K) ⟨0,Nat.zero_le _,(Nat.sub_zero _).symm,?_,rfl⟩ ?_
   ·exact Nat.zero_le _
   ·rintro _ _ ⟨j,hj,rfl,-,rfl⟩
    simp only[go_sem]
    by_cases hjl:j < K
    ·obtain⟨y,hy⟩:=Xaf (l:=x.keys) (i:=j) (by omega)
     have hy2:(x.keys.map Sc.cut)[j]?=some y.cut:=by rw[List.getElem?_map,hy];rfl
     repeat' first|refine Ko rfl ?_|(refine Kw ?_;simp only[go_sem])|refine Kf ?_|refine⟨_,Xy1 y,Kg ?_⟩|refine⟨_,⟨Xy1 y,rfl⟩,Kg ?_⟩|refine⟨_,⟨Kq _,(Xab hy),rfl⟩,Kg ?_⟩|apply Kp<;>intro _
     ·refine⟨by simp,by simp;omega,by simp[lenMax];omega,?_⟩
      rw[show scs ((x.keys.map Sc.cut).take j)++[_]=scs ((x.keys.map Sc.cut).take (j+1)) from Xo0 hy2]
      repeat' first|refine Ko rfl ?_|(refine Kw ?_;simp only[go_sem])|refine Kf ?_|apply Kp<;>intro _
      refine⟨Xai hjl (by unfold lenMax;omega),?_⟩
      refine Kt (fr 84 [(1,.one (.d (.bx [.int .i64 g.root,.sl (nds g.l)]))),(2,.one (.ptr 0 0)),(3,.one (.ptr 1 0)),(4,vi i),(5,.one (.ptr 3 0)),(6,.one (.ptr 4 0)),(7,vi (j+1))]) ?_
      refine Kl ⟨K - (j+1),by omega,j+1,by omega,rfl,?_,rfl⟩
      exact Nat.zero_le _
     all_goals (exfalso;omega)
    ·obtain rfl:K=j:=by omega
     repeat' first|refine Ko rfl ?_|(refine Kw ?_;simp only[go_sem])|refine Kf ?_|apply Kp<;>intro _
     all_goals first|(exfalso;omega)|skip
     all_goals
      refine Xlg rfl ?_
      repeat' first|refine Ko rfl ?_|(refine Kw ?_;simp only[go_sem])|refine Kf ?_|apply Kp<;>intro _
      refine Kt (fr 84 [(1,.one (.d (.bx [.int .i64 g.root,.sl (nds g.l)]))),(2,.one (.ptr 0 0)),(3,.one (.ptr 1 0)),(4,vi i),(5,.one (.ptr 3 0)),(6,.one (.ptr 4 0)),(8,vi (0:Nat))]) ?_
      refine Km (fun mz sz=>∃ j:Nat,j<=L/\mz=L - j/\(0<=j)/\sz=⟨fr 84 [(1,.one (.d (.bx [.int .i64 g.root,.sl (nds g.l)]))),(2,.one (.ptr 0 0)),(3,.one (.ptr 1 0)),(4,vi i),(5,.one (.ptr 3 0)),(6,.one (.ptr 4 0)),(8,vi j)],[.cells [.d (.int .i64 0),.nil],.cells [.d (.int .i64 g.root),.own 2 i],.row 6 i (nds ((g.l.map Nd.cut).take i)),.cells x.as,.cells [.d (.int .i64 x.k),.d (.int .i64 x.x.cut.k),.d (.int .i64 x.x.cut.n),.d (.str x.x.cut.s),.own 5 K,.own 6 j],.row 3 K (scs ((x.keys.map Sc.cut).take K)),.row 1 j (Xad (x.kids.take j))]⟩) (L) ⟨0,Nat.zero_le _,(Nat.sub_zero _).symm,?_,rfl⟩ ?_
      ·exact Nat.zero_le _
      rintro _ _ ⟨j,hj,rfl,-,rfl⟩
      simp only[go_sem]
      by_cases hjl:j < L
      ·obtain⟨y,hy⟩:=Xaf (l:=x.kids) (i:=j) (by omega)
       repeat' first|refine Ko rfl ?_|(refine Kw ?_;simp only[go_sem])|refine Kf ?_|refine⟨_,⟨Kq _,(Xab hy),rfl⟩,Kg ?_⟩|apply Kp<;>intro _
       ·refine⟨by simp,by simp;omega,by simp[lenMax];omega,?_⟩
        rw[show Xad (x.kids.take j)++[_]=Xad (x.kids.take (j+1)) from Xgb hy]
        repeat' first|refine Ko rfl ?_|(refine Kw ?_;simp only[go_sem])|refine Kf ?_|apply Kp<;>intro _
        refine⟨Xai hjl (by unfold lenMax;omega),?_⟩
        refine Kt (fr 84 [(1,.one (.d (.bx [.int .i64 g.root,.sl (nds g.l)]))),(2,.one (.ptr 0 0)),(3,.one (.ptr 1 0)),(4,vi i),(5,.one (.ptr 3 0)),(6,.one (.ptr 4 0)),(8,vi (j+1))]) ?_
        refine Kl ⟨L - (j+1),by omega,j+1,by omega,rfl,?_,rfl⟩
        exact Nat.zero_le _
       all_goals (exfalso;omega)
      ·obtain rfl:L=j:=by omega
       repeat' first|refine Ko rfl ?_|(refine Kw ?_;simp only[go_sem])|refine Kf ?_|apply Kp<;>intro _
       all_goals first|(exfalso;omega)|skip
       all_goals
        refine Xlg rfl ?_
        refine Xap 5 ?_
        simp only[go_sem]
        refine Xap 6 ?_
        simp only[go_sem]
        repeat' first|refine Ko rfl ?_|(refine Kw ?_;simp only[go_sem])|refine Kf ?_|apply Kp<;>intro _
        refine⟨by simp,by simp;omega,by simp[lenMax];omega,?_⟩
        rw[show nds ((g.l.map Nd.cut).take i)++[_]=nds ((g.l.map Nd.cut).take (i+1)) from by rw[<- hcut];exact Xo1 hx2]
        repeat' first|refine Ko rfl ?_|(refine Kw ?_;simp only[go_sem])|refine Kf ?_|apply Kp<;>intro _
        refine⟨Xai hil (by unfold lenMax;omega),?_⟩
        refine Kt (fr 84 [(1,.one (.d (.bx [.int .i64 g.root,.sl (nds g.l)]))),(2,.one (.ptr 0 0)),(3,.one (.ptr 1 0)),(4,vi (i+1))]) ?_
        refine Ku 3 ?_
        simp only[go_sem]
        refine Kl ⟨M - (i+1),by omega,i+1,by omega,rfl,?_,rfl⟩
        exact Nat.zero_le _
  all_goals (exfalso;omega)
 ·obtain rfl:M=i:=by omega
  repeat' first|refine Ko rfl ?_|(refine Kw ?_;simp only[go_sem])|refine Kf ?_|apply Kp<;>intro _
  all_goals first|(exfalso;omega)|skip
  all_goals
   refine Xlg rfl ?_
   refine Xap 2 ?_
   simp only[go_sem]
   repeat' first|refine Ko rfl ?_|(refine Kw ?_;simp only[go_sem])|refine Kf ?_|apply Kp<;>intro _
   have e1:(g.l.take 201).map Nd.cut=(g.l.map Nd.cut).take M:=by rw[List.map_take,hM,<- List.length_map (f:=Nd.cut),Nat.min_comm,<- List.take_eq_take_min]
   exact⟨rfl,by rw[<- e1];rfl⟩
def Jix (gp:Heap):Prop:=∀ e:Option (Int × Int),Tri QP gp 68 [Jgs e,.one (.ifo 176 (.ptr 0 0))] [.cells [.d (.int .i64 0),.d (.int .i64 0)]] fun r post=>r=vb e.isSome/\post=[.cells [.d (.int .i64 (e.getD (0,0)).1),.d (.int .i64 (e.getD (0,0)).2)]]
section
variable (R:ByteArray->Bool) (hR:∀ s,Does QP gp 63 [vs s] (vb (R s))) (hA:Jix gp) (hok:Xaa QP 68=true)
include hA hok
theorem Jiy (e:Option (Int × Int)):Does QP gp 71 [Jgs e] (.tup [vi (e.getD (0,0)).1,vi (e.getD (0,0)).2]):=by
 refine W3u ?_
 simp only[go_sem]
 repeat' first|refine Kn rfl ?_|(refine Kw ?_;simp only[go_sem])|refine Kf ?_|apply Kp<;>intro _
 refine Or.inr ⟨[0],vb e.isSome,[.cells [.d (.int .i64 (e.getD (0,0)).1),.d (.int .i64 (e.getD (0,0)).2)]],(by simp only[Xay,go_sem];exact⟨hok,hA e⟩),Kg ?_⟩
 simp only[go_sem]
 repeat' first|refine Kn rfl ?_|(refine Kw ?_;simp only[go_sem])|refine Kf ?_|apply Kp<;>intro _
 rename_i h
 cases e with
 | none=>exact⟨rfl,rfl⟩
 | some e=>simp at h
include hR
theorem Yuj (g:Gr):Does QP gp 47 [g.v] (.tup [vi ((Xei R g).getD (0,0)).1,vi ((Xei R g).getD (0,0)).2]):=by
 refine W10 ?_
 simp only[go_sem]
 repeat' first|refine Kn rfl ?_|(refine Kw ?_;simp only[go_sem])|refine Kf ?_|refine⟨_,W60 R hR _,Kg ?_⟩|refine⟨_,⟨W60 R hR _,rfl⟩,Kg ?_⟩|refine⟨_,Jiy hA hok _,Kg ?_⟩|refine⟨_,⟨Jiy hA hok _,rfl⟩,Kg ?_⟩|apply Kp<;>intro _
end
end Go.Fw.L07
namespace Go.Fw.L07
open Go Go.Fw Go.Shelf
open Go.Fw.Sh renaming intro->Kg
open Go.Fw renaming Xdt->Ka,Xbs->Ke,Xd2->Kf,Xcp->Kt,Xco->Kl,Xeg->Km,Gx->Kn
open Go.Fw renaming Xbs->Ka, Xbw->Ka, Xby->Ka, Xbz->Ka
open Go.Fw renaming Xdt->Kw, Xbs->Kw, Xbw->Kw, Xby->Kw, Xbz->Kw, Xhh->Kw, Xd3->Kw
open Go.Fw.Sh renaming intro->Kf
open And renaming intro->Kp
set_option maxRecDepth 4000
variable {gp:Heap}
def Y38:Ren:=⟨fun|197=>93|260=>134|n=>n,
 fun|21=>21|46=>160|105=>150|119=>237|138=>239|139=>240|n=>n,
 fun|3=>1|4=>2|n=>n⟩
theorem Yfs:Go.Proofs.Lays.n197 Go.Proofs.Tryz.prog Y38:={
 mixed:=by kernel_rfl
 f197:=by kernel_rfl
 f260:=by kernel_rfl
 t0:=by kernel_rfl
 a0:=fun w=>by kernel_rfl
 z0:=fun w=>by kernel_rfl
 v0:=fun w=>by kernel_rfl
 t3:=by kernel_rfl
 a3:=fun w=>by kernel_rfl
 z3:=fun w=>by kernel_rfl
 v3:=fun w=>by kernel_rfl
 t4:=by kernel_rfl
 a4:=fun w=>by kernel_rfl
 z4:=fun w=>by kernel_rfl
 v4:=fun w=>by kernel_rfl
 t5:=by kernel_rfl
 a5:=fun w=>by kernel_rfl
 z5:=fun w=>by kernel_rfl
 v5:=fun w=>by kernel_rfl
 t9:=by kernel_rfl
 a9:=fun w=>by kernel_rfl
 z9:=fun w=>by kernel_rfl
 v9:=fun w=>by kernel_rfl
 t21:=by kernel_rfl
 a21:=fun w=>by kernel_rfl
 z21:=fun w=>by kernel_rfl
 v21:=fun w=>by kernel_rfl
 t46:=by kernel_rfl
 a46:=fun w=>by kernel_rfl
 z46:=fun w=>by kernel_rfl
 v46:=fun w=>by kernel_rfl
 t105:=by kernel_rfl
 a105:=fun w=>by kernel_rfl
 z105:=fun w=>by kernel_rfl
 v105:=fun w=>by kernel_rfl
 t119:=by kernel_rfl
 a119:=fun w=>by kernel_rfl
 z119:=fun w=>by kernel_rfl
 t138:=by kernel_rfl
 a138:=fun w=>by kernel_rfl
 z138:=fun w=>by kernel_rfl
 v138:=fun w=>by kernel_rfl
 t139:=by kernel_rfl
 a139:=fun w=>by kernel_rfl
 z139:=fun w=>by kernel_rfl
 v139:=fun w=>by kernel_rfl
 g3:=by kernel_rfl
 g4:=by kernel_rfl }
def X2g (gp:Heap):Prop:=∀ H w,Heap.Le gp H->Xci w H->Lib.Utf8Tabs 1 2 w
theorem decode (hU:X2g gp) (s:ByteArray):Does Go.Proofs.Tryz.prog gp 93 [vs s] (.tup [.one (.d (.int .i32 (Lib.decodeGo s).1)),vi (Lib.decodeGo s).2]):=by
 refine⟨by kernel_rfl,?_⟩
 intro H w an F us hgp hmod hanc hown hF hdj hargs
 obtain⟨u,rfl,hu⟩:∃ u,us=[u]/\Den H (.str s) u:=by
  cases us with
  | nil=>exact hargs.elim
  | cons u us=>cases us with
   | nil=>exact⟨u,rfl,hargs.1⟩
   | cons _ _=>exact hargs.2.elim
 cases hu
 have hc:=Go.Proofs.Any.utf8_DecodeRuneInString Yfs s w (hU H w hgp hmod)
 intro cs
 obtain⟨e,w',fr,⟨rfl,hb⟩,h2,h3,h4⟩:=hc cs
 refine⟨_,w',fr,⟨_,_,[],H,fun _=>none,fun _ _=>False,rfl,⟨rfl,rfl⟩,⟨hb.os,hb.tape,hb.output,hb.size,fun b hlt _=>hb.block b hlt⟩,Heap.Le.refl _,fun b o hbo=>?_,fun b o hbo=>.inl hbo,⟨fun i p hp=>?_⟩,by simp,by simp,by simp,by simp,?_⟩,h2,h3,h4⟩
 ·have:=hmod b o hbo
  exact (hb.block b (Array.getElem?_eq_some_iff.1 this).1).trans this
 ·have:=(hanc i).1 ⟨p,hp⟩;simp at this
 ·exact⟨_,rfl,Den.int _ _,Den.int _ _,trivial⟩
def Xbh (s:ByteArray):Nat->Nat->Bool
 | 0,_=>true
 | n+1,p=>if p < s.size then (if (Utf8.decode s p).1=65533/\(Utf8.decode s p).2=1 then false else Xbh s n (p+(Utf8.decode s p).2)) else true
def Xas (s:ByteArray):Bool:=Xbh s s.size 0
theorem Yft {s:ByteArray} {f p:Nat} (h:¬ p < s.size):Xbh s f p=true:=by
 cases f with
 | zero=>rfl
 | succ f=>simp only[Xbh,if_neg h]
theorem Xtg {s:ByteArray} {p:Nat} (h:p < s.size):Lib.decodeGo (s.extract p s.size)=Utf8.decode s p:=by
 unfold Lib.decodeGo
 rw[if_neg (by rw[ByteArray.size_extract];omega),Lib.tail_decode,Nat.add_zero]
theorem Xlr (hU:X2g gp) (s:ByteArray):Does Go.Proofs.Tryz.prog gp 63 [vs s] (vb (Xas s)):=by
 refine W3n ?_
 simp only[go_sem]
 repeat' first|refine Kn rfl ?_|(refine Kw ?_;simp only[go_sem])|refine Kf ?_|apply Kp<;>intro _
 refine Kt (fr 26 [(0,vs s),(8,.one (.own 0 0))]) ?_
 refine Km (fun mz sz=>∃ p f:Nat,mz=s.size - p/\s.size - p<=f/\Xbh s f p=Xas s/\sz=⟨fr 26 [(0,vs s),(8,.one (.own 0 0))],[.siter s p]⟩) s.size ⟨0,s.size,rfl,Nat.le_refl _,rfl,rfl⟩ ?_
 rintro _ _ ⟨p,f,rfl,hf,hr,rfl⟩
 simp only[go_sem]
 by_cases hp:p < s.size
 ·obtain⟨f,rfl⟩:∃ g,f=g+1:=⟨f - 1,by omega⟩
  have hw:=Lib.decode_width_pos s p hp
  have hd:=Xtg hp
  simp only[Xbh,if_pos hp] at hr
  have hdec:=decode hU (s.extract p s.size)
  rw[hd] at hdec
  repeat' first|refine Kn rfl ?_|(refine Kw ?_;simp only[go_sem])|refine Kf ?_|refine⟨_,hdec,Kg ?_⟩|refine⟨_,⟨hdec,rfl⟩,Kg ?_⟩|refine⟨p,s.size,⟨rfl,rfl,Nat.le_of_lt hp,Nat.le_refl _⟩,Kg ?_⟩|apply Kp<;>intro _
  ·rename_i h1 h2
   rw[if_pos ⟨by simp at h1;omega,by simp at h2;omega⟩] at hr
   rw[<- hr]
  ·rename_i h1 h2
   rw[if_neg (by intro h3;simp[h3.2] at h2)] at hr
   refine Kt (fr 26 [(0,vs s),(8,.one (.own 0 0))]) ?_
   exact Kl ⟨s.size - (p+(Utf8.decode s p).2),by omega,p+(Utf8.decode s p).2,f,rfl,by omega,hr,rfl⟩
  ·rename_i h1
   rw[if_neg (by intro h3;simp[h3.1] at h1)] at hr
   refine Kt (fr 26 [(0,vs s),(8,.one (.own 0 0))]) ?_
   exact Kl ⟨s.size - (p+(Utf8.decode s p).2),by omega,p+(Utf8.decode s p).2,f,rfl,by omega,hr,rfl⟩
  ·rename_i h;exact absurd hp h
 ·repeat' (first|refine Kn rfl ?_|(refine Kw ?_;simp only[go_sem])|refine Kf ?_|apply Kp<;>intro _)
  ·rename_i h;exact absurd h hp
  ·rw[<- hr,Yft hp]
end Go.Fw.L07
