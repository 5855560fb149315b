/- Chapter 7,part 1: comparisons. -/
import Derived.Test.YtakgmpkfpkmkaaaGreatDoorL07Mini
import Derived.Test.YtakgmpkfpkmkaaaGreatDoorFd
set_option linter.all false
namespace Go.Fw.L07
open Go Go.Fw
open Go.Fw.Sh renaming intro->Kg
open Go.Fw renaming Xkl->Ka,Xfi->Kb,Xko->Kv,Xfj->Ke,Xfl->Kf,Xkn->Kh,Xkm->Ki,Xdx->Kt,Xkg->Kk,Xf0->Ku,Xdw->Kl,Xfz->Km,Gx->Kn
open Int renaming natCast_nonneg->Kq
open List renaming getElem?_eq_some_iff->Kr
open And renaming intro->Kp
open Go.Proofs.Tryz renaming prog->QP
open Go.Fw.V.one renaming injEq->Qs
open Go.Fw.V.agg renaming injEq->Qt
open Go.Fw.V.tup renaming injEq->Qu
open Go.Fw.A.d renaming injEq->Qv
open Go.Fw.D.bool renaming injEq->Qw
open Go.Fw.D.int renaming injEq->Qx
open Go.Fw.D.str renaming injEq->Qy
open Go.Fw.D.sl renaming injEq->Qz
open List.cons renaming injEq->Za
set_option maxRecDepth 4000
variable {gp:Heap}
abbrev vi (n:Int):V:=.one (.d (.int .i64 n))
abbrev vb (b:Bool):V:=.one (.d (.bool b))
abbrev vs (s:ByteArray):V:=.one (.d (.str s))
structure Sc where
 k:Int
 n:Int
 s:ByteArray
 deriving DecidableEq
abbrev Sc.ds (x:Sc):List D:=[.int .i64 x.k,.int .i64 x.n,.str x.s]
abbrev Sc.as (x:Sc):List A:=[.d (.int .i64 x.k),.d (.int .i64 x.n),.d (.str x.s)]
abbrev Sc.v (x:Sc):V:=.agg x.as
abbrev Xaf (l:List Int):List (List D):=l.map fun n=>[.int .i64 n]
abbrev scs (l:List Sc):List (List D):=l.map Sc.ds
structure Nd where
 k:Int
 x:Sc
 keys:List Sc
 kids:List Int
 deriving DecidableEq
abbrev Nd.ds (x:Nd):List D:=[.int .i64 x.k,.int .i64 x.x.k,.int .i64 x.x.n,.str x.x.s,.sl (scs x.keys),.sl (Xaf x.kids)]
abbrev Nd.as (x:Nd):List A:=[.d (.int .i64 x.k),.d (.int .i64 x.x.k),.d (.int .i64 x.x.n),.d (.str x.x.s),.d (.sl (scs x.keys)),.d (.sl (Xaf x.kids))]
abbrev Nd.v (x:Nd):V:=.agg x.as
abbrev nds (l:List Nd):List (List D):=l.map Nd.ds
structure Gr where
 root:Int
 l:List Nd
 deriving DecidableEq
abbrev Gr.as (g:Gr):List A:=[.d (.int .i64 g.root),.d (.sl (nds g.l))]
abbrev Gr.v (g:Gr):V:=.agg g.as
theorem Xad {α β:Type} {f:α->β} {l:List α} {i:Nat} {x:α} (h:l[i]?=some x):(l.map f)[i]?=some (f x):=by simp[h]
theorem Xal {α:Type} {l:List α} {i:Nat} (h:i < l.length):∃ x,l[i]?=some x:=⟨_,List.getElem?_eq_getElem h⟩
theorem Xrg (x:Int):Does QP gp 171 [vi x] (vb false):=by
 refine Y7v ?_
 simp only[go_sem]
 repeat' first|refine Kn rfl ?_|((first|refine Ka ?_|refine Kb ?_|refine Kv ?_|refine Ke ?_);simp only[go_sem])|refine Kf ?_|refine Kg ?_|apply Kp<;>intro _|((first|refine Kh ?_|refine Ki rfl ?_);simp only[or_self,Qs,Qt,Qu,Qv,Qw,Qx,Qy,Qz,Za,go_sem])
 all_goals simp
theorem Xrh (x:ByteArray):Does QP gp 172 [vs x] (vb false):=by
 refine Y7z ?_
 simp only[go_sem]
 repeat' first|refine Kn rfl ?_|((first|refine Ka ?_|refine Kb ?_|refine Kv ?_|refine Ke ?_);simp only[go_sem])|refine Kf ?_|refine Kg ?_|apply Kp<;>intro _|((first|refine Kh ?_|refine Ki rfl ?_);simp only[or_self,Qs,Qt,Qu,Qv,Qw,Qx,Qy,Qz,Za,go_sem])
def Yut (a b:Int):Int:=if a < b then -1 else if b < a then 1 else 0
theorem Xma (x y:Int):Does QP gp 147 [vi x,vi y] (vi (Yut x y)):=by
 refine Y60 ?_
 simp only[go_sem]
 repeat' first|refine Kn rfl ?_|((first|refine Ka ?_|refine Kb ?_|refine Kv ?_|refine Ke ?_);simp only[go_sem])|refine Kf ?_|refine Kg ?_|refine⟨_,Xrg _,Kg ?_⟩|refine⟨_,⟨Xrg _,rfl⟩,Kg ?_⟩|apply Kp<;>intro _|((first|refine Kh ?_|refine Ki rfl ?_);simp only[or_self,Qs,Qt,Qu,Qv,Qw,Qx,Qy,Qz,Za,go_sem])
 all_goals (unfold Yut;grind)
def Wov (a b:ByteArray):Int:=if Op.bytesLess a.toList b.toList then -1 else if Op.bytesLess a.toList b.toList || decide (a=b) then 0 else 1
theorem Xmb (x y:ByteArray):Does QP gp 148 [vs x,vs y] (vi (Wov x y)):=by
 refine Y68 ?_
 simp only[go_sem]
 repeat' first|refine Kn rfl ?_|((first|refine Ka ?_|refine Kb ?_|refine Kv ?_|refine Ke ?_);simp only[go_sem])|refine Kf ?_|refine Kg ?_|refine⟨_,Xrh _,Kg ?_⟩|refine⟨_,⟨Xrh _,rfl⟩,Kg ?_⟩|apply Kp<;>intro _|((first|refine Kh ?_|refine Ki rfl ?_);simp only[or_self,Qs,Qt,Qu,Qv,Qw,Qx,Qy,Qz,Za,go_sem])
 all_goals (unfold Wov;grind)
def orI (l:List Int):Int:=(l.find? fun x=>x != 0).getD 0
theorem Yms {l:List Int} (h:∀ x∈l,x=0):orI l=0:=by
 unfold orI
 rw[List.find?_eq_none.2 fun x hx=>by simp[h x hx]];rfl
theorem Wow {l:List Int} {i:Nat} {x:Int} (h:∀ y∈l.take i,y=0) (hx:l[i]?=some x) (h0:x≠0):orI l=x:=by
 unfold orI
 have:l=l.take i++x::l.drop (i+1):=by
  obtain⟨hi,rfl⟩:=Kr.1 hx
  rw[<- List.drop_eq_getElem_cons hi,List.take_append_drop]
 rw[this,List.find?_append,List.find?_eq_none.2 fun y hy=>by simp[h y hy]]
 simp[h0]
theorem Xig {α:Type} {l:List α} {p:α->Prop} {i:Nat} {x:α} (h:∀ y∈l.take i,p y) (hx:l[i]?=some x) (h0:p x):∀ y∈l.take (i+1),p y:=by
 intro y hy
 rw[List.take_succ,hx] at hy
 rcases List.mem_append.1 hy with hy|hy
 ·exact h y hy
 ·simp at hy;subst hy;exact h0
theorem Yuu (l:List Int):Does QP gp 146 [.one (.d (.sl (Xaf l)))] (vi (orI l)):=by
 refine Y6s ?_
 simp only[go_sem]
 repeat' first|refine Kn rfl ?_|((first|refine Ka ?_|refine Kb ?_|refine Kv ?_|refine Ke ?_);simp only[go_sem])|refine Kf ?_|refine Kg ?_|apply Kp<;>intro _|((first|refine Kh ?_|refine Ki rfl ?_);simp only[or_self,Qs,Qt,Qu,Qv,Qw,Qx,Qy,Qz,Za,go_sem])
 refine Xtp 0 rfl fun hl=>?_
 refine Kt (fr 18 [(0,.one (.d (.sl (Xaf l)))),(3,vi 0),(6,.one (.d (.sl (Xaf l)))),(7,vi l.length),(8,vi (0:Nat))]) ?_
 refine Km (fun mz sz=>∃ i:Nat,i<=l.length/\mz=l.length - i/\(∀ y∈l.take i,y=0)/\sz=⟨fr 18 [(0,.one (.d (.sl (Xaf l)))),(3,vi 0),(6,.one (.d (.sl (Xaf l)))),(7,vi l.length),(8,vi i)],[]⟩) (l.length) ⟨0,Nat.zero_le _,(Nat.sub_zero _).symm,?_,rfl⟩ ?_
 ·simp
 rintro _ _ ⟨i,hi,rfl,hz,rfl⟩
 simp only[List.length_map] at hl
 simp only[go_sem]
 by_cases hil:i < l.length
 ·obtain⟨x,hx⟩:=Xal hil
  repeat' first|refine Kn rfl ?_|((first|refine Ka ?_|refine Kb ?_|refine Kv ?_|refine Ke ?_);simp only[go_sem])|refine Kf ?_|refine Kg ?_|refine⟨_,⟨Kq _,(by first|exact Xad hx|(rw[Int.toNat_natCast];exact Xad hx)),rfl⟩,Kg ?_⟩|apply Kp<;>intro _|((first|refine Kh ?_|refine Ki rfl ?_);simp only[or_self,Qs,Qt,Qu,Qv,Qw,Qx,Qy,Qz,Za,go_sem])
  ·rename_i h;simp at h;rw[Wow hz hx h]
  ·refine⟨Xaq hil hl,?_⟩
   rename_i h
   refine Kt (fr 18 [(0,.one (.d (.sl (Xaf l)))),(3,vi 0),(6,.one (.d (.sl (Xaf l)))),(7,vi l.length),(8,vi (i+1))]) ?_
   refine Kl ⟨l.length - (i+1),by omega,i+1,by omega,rfl,?_,rfl⟩
   exact Xig hz hx (by simpa using h)
  ·omega
 ·repeat' (first|refine Kn rfl ?_|((first|refine Ka ?_|refine Kb ?_|refine Kv ?_|refine Ke ?_);simp only[go_sem])|refine Kf ?_|refine Kg ?_|apply Kp<;>intro _|((first|refine Kh ?_|refine Ki rfl ?_);simp only[or_self,Qs,Qt,Qu,Qv,Qw,Qx,Qy,Qz,Za,go_sem]))
  ·omega
  ·rw[Yms]
   rw[List.take_of_length_le (by omega)] at hz
   exact hz
def Xtu (x y:Sc):Int:=if x=y then 0 else orI [Yut x.k y.k,Yut x.n y.n,Wov x.s y.s]
theorem Xri (x y:Sc):(x.k==y.k && (x.n==y.n && decide (x.s=y.s)))=decide (x=y):=by
 cases x;cases y;simp only[Sc.mk.injEq];grind
theorem Ya4 (x y:Sc):Does QP gp 116 [x.v,y.v] (vi (Xtu x y)):=by
 refine Y5d ?_
 simp only[go_sem]
 repeat' first|refine Kn rfl ?_|((first|refine Ka ?_|refine Kb ?_|refine Kv ?_|refine Ke ?_);simp only[Xri,go_sem])|refine Kf ?_|refine Kg ?_|refine⟨_,Xma _ _,Kg ?_⟩|refine⟨_,⟨Xma _ _,rfl⟩,Kg ?_⟩|refine⟨_,Xmb _ _,Kg ?_⟩|refine⟨_,⟨Xmb _ _,rfl⟩,Kg ?_⟩|refine⟨_,Yuu [_,_,_],Kg ?_⟩|refine⟨_,⟨Yuu [_,_,_],rfl⟩,Kg ?_⟩|apply Kp<;>intro _|((first|refine Kh ?_|refine Ki rfl ?_);simp only[Xri,or_self,Qs,Qt,Qu,Qv,Qw,Qx,Qy,Qz,Za,go_sem])
 all_goals (rename_i h;simp[Xtu,h])
theorem Xtv {α:Type} {l m:List α} {i:Nat} {x y:α} (h:l.take i=m.take i) (hx:l[i]?=some x) (hy:m[i]?=some y) (e:x=y):l.take (i+1)=m.take (i+1):=by
 rw[List.take_succ,List.take_succ,h,hx,hy,e]
theorem Y90 {α:Type} {l m:List α} {i:Nat} {x y:α} (hx:l[i]?=some x) (hy:m[i]?=some y) (e:x≠y):l≠m:=by
 rintro rfl;rw[hx] at hy;cases hy;exact e rfl
theorem Ya5 {α:Type} {l m:List α} (e:((l.length:Int) != (m.length:Int))=true):l≠m:=by
 rintro rfl;simp at e
theorem Yuv (l m:List Sc):Does QP gp 44 [.one (.d (.sl (scs l))),.one (.d (.sl (scs m)))] (vb (decide (l=m))):=by
 refine Wkj ?_
 simp only[go_sem]
 repeat' first|refine Kn rfl ?_|((first|refine Ka ?_|refine Kb ?_|refine Kv ?_|refine Ke ?_);simp only[go_sem])|refine Kf ?_|refine Kg ?_|apply Kp<;>intro _|((first|refine Kh ?_|refine Ki rfl ?_);simp only[or_self,Qs,Qt,Qu,Qv,Qw,Qx,Qy,Qz,Za,go_sem])
 ·rename_i h;simp[Ya5 h]
 ·rename_i h
  have hlen:l.length=m.length:=by simp at h;omega
  refine Xtp 0 rfl fun hl=>?_
  refine Kt (fr 26 [(0,.one (.d (.sl (scs l)))),(1,.one (.d (.sl (scs m)))),(12,vi l.length),(13,vi (0:Nat))]) ?_
  refine Km (fun mz sz=>∃ i:Nat,i<=l.length/\mz=l.length - i/\(l.take i=m.take i)/\sz=⟨fr 26 [(0,.one (.d (.sl (scs l)))),(1,.one (.d (.sl (scs m)))),(12,vi l.length),(13,vi i)],[]⟩) (l.length) ⟨0,Nat.zero_le _,(Nat.sub_zero _).symm,?_,rfl⟩ ?_
  ·simp
  rintro _ _ ⟨i,hi,rfl,hz,rfl⟩
  simp only[List.length_map] at hl
  simp only[go_sem]
  by_cases hil:i < l.length
  ·obtain⟨x,hx⟩:=Xal hil
   obtain⟨y,hy⟩:=Xal (l:=m) (i:=i) (by omega)
   repeat' first|refine Kn rfl ?_|((first|refine Ka ?_|refine Kb ?_|refine Kv ?_|refine Ke ?_);simp only[Xri,go_sem])|refine Kf ?_|refine Kg ?_|refine⟨_,⟨Kq _,(by first|exact Xad hx|(rw[Int.toNat_natCast];exact Xad hx)),rfl⟩,Kg ?_⟩|refine⟨_,⟨Kq _,(by first|exact Xad hy|(rw[Int.toNat_natCast];exact Xad hy)),rfl⟩,Kg ?_⟩|apply Kp<;>intro _|((first|refine Kh ?_|refine Ki rfl ?_);simp only[Xri,or_self,Qs,Qt,Qu,Qv,Qw,Qx,Qy,Qz,Za,go_sem])
   ·rename_i h;simp[Y90 hx hy (by simpa using h)]
   ·refine⟨Xaq hil hl,?_⟩
    rename_i h
    refine Kt (fr 26 [(0,.one (.d (.sl (scs l)))),(1,.one (.d (.sl (scs m)))),(12,vi l.length),(13,vi (i+1))]) ?_
    refine Kl ⟨l.length - (i+1),by omega,i+1,by omega,rfl,?_,rfl⟩
    exact Xtv hz hx hy (by simpa using h)
   ·omega
  ·repeat' (first|refine Kn rfl ?_|((first|refine Ka ?_|refine Kb ?_|refine Kv ?_|refine Ke ?_);simp only[go_sem])|refine Kf ?_|refine Kg ?_|apply Kp<;>intro _|((first|refine Kh ?_|refine Ki rfl ?_);simp only[or_self,Qs,Qt,Qu,Qv,Qw,Qx,Qy,Qz,Za,go_sem]))
   ·omega
   ·rw[List.take_of_length_le (by omega),List.take_of_length_le (by omega)] at hz
    simp[hz]
theorem Ya6 (l m:List Int):Does QP gp 45 [.one (.d (.sl (Xaf l))),.one (.d (.sl (Xaf m)))] (vb (decide (l=m))):=by
 refine Wkq ?_
 simp only[go_sem]
 repeat' first|refine Kn rfl ?_|((first|refine Ka ?_|refine Kb ?_|refine Kv ?_|refine Ke ?_);simp only[go_sem])|refine Kf ?_|refine Kg ?_|apply Kp<;>intro _|((first|refine Kh ?_|refine Ki rfl ?_);simp only[or_self,Qs,Qt,Qu,Qv,Qw,Qx,Qy,Qz,Za,go_sem])
 ·rename_i h;simp[Ya5 h]
 ·rename_i h
  have hlen:l.length=m.length:=by simp at h;omega
  refine Xtp 0 rfl fun hl=>?_
  refine Kt (fr 26 [(0,.one (.d (.sl (Xaf l)))),(1,.one (.d (.sl (Xaf m)))),(12,vi l.length),(13,vi (0:Nat))]) ?_
  refine Km (fun mz sz=>∃ i:Nat,i<=l.length/\mz=l.length - i/\(l.take i=m.take i)/\sz=⟨fr 26 [(0,.one (.d (.sl (Xaf l)))),(1,.one (.d (.sl (Xaf m)))),(12,vi l.length),(13,vi i)],[]⟩) (l.length) ⟨0,Nat.zero_le _,(Nat.sub_zero _).symm,?_,rfl⟩ ?_
  ·simp
  rintro _ _ ⟨i,hi,rfl,hz,rfl⟩
  simp only[List.length_map] at hl
  simp only[go_sem]
  by_cases hil:i < l.length
  ·obtain⟨x,hx⟩:=Xal hil
   obtain⟨y,hy⟩:=Xal (l:=m) (i:=i) (by omega)
   repeat' first|refine Kn rfl ?_|((first|refine Ka ?_|refine Kb ?_|refine Kv ?_|refine Ke ?_);simp only[go_sem])|refine Kf ?_|refine Kg ?_|refine⟨_,⟨Kq _,(by first|exact Xad hx|(rw[Int.toNat_natCast];exact Xad hx)),rfl⟩,Kg ?_⟩|refine⟨_,⟨Kq _,(by first|exact Xad hy|(rw[Int.toNat_natCast];exact Xad hy)),rfl⟩,Kg ?_⟩|apply Kp<;>intro _|((first|refine Kh ?_|refine Ki rfl ?_);simp only[or_self,Qs,Qt,Qu,Qv,Qw,Qx,Qy,Qz,Za,go_sem])
   ·rename_i h;simp[Y90 hx hy (by simpa using h)]
   ·refine⟨Xaq hil hl,?_⟩
    rename_i h
    refine Kt (fr 26 [(0,.one (.d (.sl (Xaf l)))),(1,.one (.d (.sl (Xaf m)))),(12,vi l.length),(13,vi (i+1))]) ?_
    refine Kl ⟨l.length - (i+1),by omega,i+1,by omega,rfl,?_,rfl⟩
    exact Xtv hz hx hy (by simpa using h)
   ·omega
  ·repeat' (first|refine Kn rfl ?_|((first|refine Ka ?_|refine Kb ?_|refine Kv ?_|refine Ke ?_);simp only[go_sem])|refine Kf ?_|refine Kg ?_|apply Kp<;>intro _|((first|refine Kh ?_|refine Ki rfl ?_);simp only[or_self,Qs,Qt,Qu,Qv,Qw,Qx,Qy,Qz,Za,go_sem]))
   ·omega
   ·rw[List.take_of_length_le (by omega),List.take_of_length_le (by omega)] at hz
    simp[hz]
def Wwa (s:ByteArray):ByteArray:=s.extract 0 (min s.size 100)
theorem Ya7 (s:ByteArray):Does QP gp 34 [vs s] (vs (Wwa s)):=by
 refine Wj0 ?_
 simp only[go_sem]
 repeat' first|refine Kn rfl ?_|((first|refine Ka ?_|refine Kb ?_|refine Kv ?_|refine Ke ?_);simp only[go_sem])|refine Kf ?_|refine Kg ?_|apply Kp<;>intro _|((first|refine Kh ?_|refine Ki rfl ?_);simp only[or_self,Qs,Qt,Qu,Qv,Qw,Qx,Qy,Qz,Za,go_sem])
 refine⟨0,min s.size 100,⟨rfl,by split <;> omega,by omega,by omega⟩,Kg ?_⟩
 repeat' first|refine Kn rfl ?_|((first|refine Ka ?_|refine Kb ?_|refine Kv ?_|refine Ke ?_);simp only[go_sem])|refine Kf ?_|refine Kg ?_|apply Kp<;>intro _|((first|refine Kh ?_|refine Ki rfl ?_);simp only[or_self,Qs,Qt,Qu,Qv,Qw,Qx,Qy,Qz,Za,go_sem])
 rfl
def Sc.cut (x:Sc):Sc:=⟨x.k,x.n,Wwa x.s⟩
theorem Xxv (x:Sc):Does QP gp 18 [x.v] x.cut.v:=by
 refine Wjd ?_
 simp only[go_sem]
 repeat' first|refine Kn rfl ?_|((first|refine Ka ?_|refine Kb ?_|refine Kv ?_|refine Ke ?_);simp only[go_sem])|refine Kf ?_|refine Kg ?_|refine⟨_,Ya7 _,Kg ?_⟩|refine⟨_,⟨Ya7 _,rfl⟩,Kg ?_⟩|apply Kp<;>intro _|((first|refine Kh ?_|refine Ki rfl ?_);simp only[or_self,Qs,Qt,Qu,Qv,Qw,Qx,Qy,Qz,Za,go_sem])
 exact⟨rfl,rfl,rfl⟩
theorem Xkx (root i:Int) (l:List (List D)):Does QP gp 108 [.agg [.d (.int .i64 root),.d (.sl l)],vi i] (vb (decide (0<=i/\i < l.length))):=by
 refine Y4p ?_
 simp only[go_sem]
 repeat' first|refine Kn rfl ?_|((first|refine Ka ?_|refine Kb ?_|refine Kv ?_|refine Ke ?_);simp only[go_sem])|refine Kf ?_|refine Kg ?_|apply Kp<;>intro _|((first|refine Kh ?_|refine Ki rfl ?_);simp only[or_self,Qs,Qt,Qu,Qv,Qw,Qx,Qy,Qz,Za,go_sem])
 all_goals grind
abbrev Nd.vd (x:Nd) (n:Int):List D:=x.ds++[.int .i64 n]
abbrev Nd.vw (x:Nd) (n:Int):V:=.agg (x.as++[.d (.int .i64 n)])
theorem Xih (x:Nd) (n:Int):Does QP gp 113 [x.vw n] (vb (decide (x.keys.length=x.kids.length))):=by
 refine Y42 ?_
 simp only[go_sem]
 repeat' first|refine Kn rfl ?_|((first|refine Ka ?_|refine Kb ?_|refine Kv ?_|refine Ke ?_);simp only[go_sem])|refine Kf ?_|refine Kg ?_|apply Kp<;>intro _|((first|refine Kh ?_|refine Ki rfl ?_);simp only[or_self,Qs,Qt,Qu,Qv,Qw,Qx,Qy,Qz,Za,go_sem])
 grind
def Nd.zero:Nd:=⟨0,⟨0,0,⟨#[]⟩⟩,[],[]⟩
def Xbb (l:List Nd) (i:Int):Nd:=if 0<=i/\i < l.length then (l[i.toNat]?).getD Nd.zero else Nd.zero
def atN (l:List Nd) (i:Int):Int:=if 0<=i/\i < l.length then l.length else 0
def atE (l:List Nd) (i:Int):Int:=if 0<=i/\i < l.length then 0 else 2
theorem Xtw (g:Gr) (i:Int):Does QP gp 74 [g.v,vi i] (.tup [(Xbb g.l i).vw (atN g.l i),vi (atE g.l i)]):=by
 refine Wmv ?_
 simp only[go_sem]
 repeat' first|refine Kn rfl ?_|((first|refine Ka ?_|refine Kb ?_|refine Kv ?_|refine Ke ?_);simp only[go_sem])|refine Kf ?_|refine Kg ?_|refine⟨_,Xkx _ _ _,Kg ?_⟩|refine⟨_,⟨Xkx _ _ _,rfl⟩,Kg ?_⟩|apply Kp<;>intro _|((first|refine Kh ?_|refine Ki rfl ?_);simp only[or_self,Qs,Qt,Qu,Qv,Qw,Qx,Qy,Qz,Za,go_sem])
 ·rename_i h
  have h:¬ (0<=i/\i < (g.l.length:Int)):=by intro h2;simp[h2] at h
  simp only[Xbb,atN,atE,if_neg h]
  simp[Nd.zero]
 ·rename_i h
  have h:0<=i/\i < (g.l.length:Int):=Classical.byContradiction fun h2=>by simp[h2] at h
  obtain⟨n,rfl⟩:=Int.eq_ofNat_of_zero_le h.1
  obtain⟨x,hx⟩:=Xal (l:=g.l) (i:=n) (by omega)
  have hr:Xbb g.l n=x:=by simp only[Xbb,if_pos h,Int.toNat_natCast,hx,Option.getD_some]
  rw[hr]
  refine⟨_,⟨Kq _,(by rw[Int.toNat_natCast];exact Xad hx),rfl⟩,Kg ?_⟩
  simp only[go_sem]
  repeat' first|refine Kn rfl ?_|((first|refine Ka ?_|refine Kb ?_|refine Kv ?_|refine Ke ?_);simp only[go_sem])|refine Kf ?_|refine Kg ?_|apply Kp<;>intro _|((first|refine Kh ?_|refine Ki rfl ?_);simp only[or_self,Qs,Qt,Qu,Qv,Qw,Qx,Qy,Qz,Za,go_sem])
  simp[atN,atE,h]
theorem Wx4 (x y:Nd):Does QP gp 43 [x.v,y.v] (vb (decide (x.k=y.k/\x.x=y.x/\x.keys=y.keys/\x.kids=y.kids))):=by
 refine Wkc ?_
 simp only[go_sem]
 repeat' first|refine Kn rfl ?_|((first|refine Ka ?_|refine Kb ?_|refine Kv ?_|refine Ke ?_);simp only[Xri,go_sem])|refine Kf ?_|refine Kg ?_|refine⟨_,Yuv _ _,Kg ?_⟩|refine⟨_,⟨Yuv _ _,rfl⟩,Kg ?_⟩|refine⟨_,Ya6 _ _,Kg ?_⟩|refine⟨_,⟨Ya6 _ _,rfl⟩,Kg ?_⟩|apply Kp<;>intro _|((first|refine Kh ?_|refine Ki rfl ?_);simp only[Xri,or_self,Qs,Qt,Qu,Qv,Qw,Qx,Qy,Qz,Za,go_sem])
 all_goals grind
theorem Wx5 (x y:Nd):(x.k=y.k/\x.x=y.x/\x.keys=y.keys/\x.kids=y.kids)↔x=y:=by
 cases x;cases y;simp
theorem Yuw (x y:Nd):Does QP gp 43 [x.v,y.v] (vb (decide (x=y))):=by
 have:=Wx4 (gp:=gp) x y
 simpa only [Wx5] using this
theorem Yux (l m:List Nd):Does QP gp 46 [.one (.d (.sl (nds l))),.one (.d (.sl (nds m))),.one (.d (.fn (.func 43) []))] (vb (decide (l=m))):=by
 refine Wkx ?_
 simp only[go_sem]
 repeat' first|refine Kn rfl ?_|((first|refine Ka ?_|refine Kb ?_|refine Kv ?_|refine Ke ?_);simp only[go_sem])|refine Kf ?_|refine Kg ?_|apply Kp<;>intro _|((first|refine Kh ?_|refine Ki rfl ?_);simp only[or_self,Qs,Qt,Qu,Qv,Qw,Qx,Qy,Qz,Za,go_sem])
 ·rename_i h;simp[Ya5 h]
 ·rename_i h
  have hlen:l.length=m.length:=by simp at h;omega
  refine Xtp 0 rfl fun hl=>?_
  refine Kt (fr 32 [(0,.one (.d (.sl (nds l)))),(1,.one (.d (.sl (nds m)))),(2,.one (.d (.fn (.func 43) []))),(15,.one (.d (.sl (nds l)))),(16,vi l.length),(17,vi (0:Nat))]) ?_
  refine Km (fun mz sz=>∃ i:Nat,i<=l.length/\mz=l.length - i/\(l.take i=m.take i)/\sz=⟨fr 32 [(0,.one (.d (.sl (nds l)))),(1,.one (.d (.sl (nds m)))),(2,.one (.d (.fn (.func 43) []))),(15,.one (.d (.sl (nds l)))),(16,vi l.length),(17,vi i)],[]⟩) (l.length) ⟨0,Nat.zero_le _,(Nat.sub_zero _).symm,?_,rfl⟩ ?_
  ·simp
  rintro _ _ ⟨i,hi,rfl,hz,rfl⟩
  simp only[List.length_map] at hl
  simp only[go_sem]
  by_cases hil:i < l.length
  ·obtain⟨x,hx⟩:=Xal hil
   obtain⟨y,hy⟩:=Xal (l:=m) (i:=i) (by omega)
   repeat' first|refine Kn rfl ?_|((first|refine Ka ?_|refine Kb ?_|refine Kv ?_|refine Ke ?_);simp only[go_sem])|refine Kf ?_|refine Kg ?_|refine⟨_,Yuw _ _,Kg ?_⟩|refine⟨_,⟨Yuw _ _,rfl⟩,Kg ?_⟩|refine⟨_,⟨Kq _,(by first|exact Xad hx|(rw[Int.toNat_natCast];exact Xad hx)),rfl⟩,Kg ?_⟩|refine⟨_,⟨Kq _,(by first|exact Xad hy|(rw[Int.toNat_natCast];exact Xad hy)),rfl⟩,Kg ?_⟩|apply Kp<;>intro _|((first|refine Kh ?_|refine Ki rfl ?_);simp only[or_self,Qs,Qt,Qu,Qv,Qw,Qx,Qy,Qz,Za,go_sem])
   ·rename_i h;simp[Y90 hx hy (by simpa using h)]
   ·refine⟨Xaq hil hl,?_⟩
    rename_i h
    refine Kt (fr 32 [(0,.one (.d (.sl (nds l)))),(1,.one (.d (.sl (nds m)))),(2,.one (.d (.fn (.func 43) []))),(15,.one (.d (.sl (nds l)))),(16,vi l.length),(17,vi (i+1))]) ?_
    refine Ku 0 ?_
    simp only[go_sem]
    refine Kl ⟨l.length - (i+1),by omega,i+1,by omega,rfl,?_,rfl⟩
    exact Xtv hz hx hy (by simpa using h)
   ·omega
  ·repeat' (first|refine Kn rfl ?_|((first|refine Ka ?_|refine Kb ?_|refine Kv ?_|refine Ke ?_);simp only[go_sem])|refine Kf ?_|refine Kg ?_|apply Kp<;>intro _|((first|refine Kh ?_|refine Ki rfl ?_);simp only[or_self,Qs,Qt,Qu,Qv,Qw,Qx,Qy,Qz,Za,go_sem]))
   ·omega
   ·rw[List.take_of_length_le (by omega),List.take_of_length_le (by omega)] at hz
    simp[hz]
theorem Wx6 (g h:Gr):(g.root==h.root && decide (g.l=h.l))=decide (g=h):=by
 cases g;cases h;simp only[Gr.mk.injEq];grind
theorem Xmc (g h:Gr):Does QP gp 23 [g.v,h.v] (vb (decide (g=h))):=by
 refine Wji ?_
 simp only[go_sem]
 repeat' first|refine Kn rfl ?_|((first|refine Ka ?_|refine Kb ?_|refine Kv ?_|refine Ke ?_);simp only[go_sem])|refine Kf ?_|refine Kg ?_|refine⟨_,Yux _ _,Kg ?_⟩|refine⟨_,⟨Yux _ _,rfl⟩,Kg ?_⟩|apply Kp<;>intro _|((first|refine Kh ?_|refine Ki rfl ?_);simp only[or_self,Qs,Qt,Qu,Qv,Qw,Qx,Qy,Qz,Za,go_sem])
 all_goals (rw[<- Wx6];simp_all)
abbrev bls (l:List Bool):List (List D):=l.map fun b=>[.bool b]
def Ymt {α:Type} (p:α->Bool) (l:List α):Int:=if l.any p then (l.findIdx p:Int) else -1
theorem Xmd {α:Type} {p:α->Bool} {l:List α} (h:∀ y∈l,p y=false):Ymt p l=-1:=by
 unfold Ymt
 rw[if_neg]
 simp only[List.any_eq_true,not_exists,not_and]
 intro y hy;simp[h y hy]
theorem Xtx {α:Type} {p:α->Bool} {l:List α} {i:Nat} {x:α} (h:∀ y∈l.take i,p y=false) (hx:l[i]?=some x) (h0:p x=true):Ymt p l=i:=by
 obtain⟨hi,rfl⟩:=Kr.1 hx
 unfold Ymt
 rw[if_pos (List.any_eq_true.2 ⟨l[i],List.getElem_mem hi,h0⟩)]
 have:l.findIdx p=i:=by
  rw[List.findIdx_eq hi]
  refine⟨h0,fun j hj=>?_⟩
  have:l[j]∈l.take i:=by
   rw[List.mem_take_iff_getElem]
   exact⟨j,by omega,rfl⟩
  exact h _ this
 rw[this]
theorem Xpd {α:Type} (p:α->Bool) (l:List α):decide (Ymt p l >= 0)=l.any p:=by
 unfold Ymt
 split
 ·rename_i h;simp[h]
 ·rename_i h;simp at h;simp;exact h
theorem Xn1 (l:List Bool) (v:Bool):Does QP gp 203 [.one (.d (.sl (bls l))),vb v] (vi (Ymt (fun y=>v==y) l)):=by
 refine Y8z ?_
 simp only[go_sem]
 repeat' first|refine Kn rfl ?_|((first|refine Ka ?_|refine Kb ?_|refine Kv ?_|refine Ke ?_);simp only[go_sem])|refine Kf ?_|refine Kg ?_|apply Kp<;>intro _|((first|refine Kh ?_|refine Ki rfl ?_);simp only[or_self,Qs,Qt,Qu,Qv,Qw,Qx,Qy,Qz,Za,go_sem])
 refine Xtp 0 rfl fun hl=>?_
 refine Kt (fr 19 [(0,.one (.d (.sl (bls l)))),(1,vb v),(7,vi l.length),(8,vi (0:Nat))]) ?_
 refine Km (fun mz sz=>∃ i:Nat,i<=l.length/\mz=l.length - i/\(∀ y∈l.take i,(v==y)=false)/\sz=⟨fr 19 [(0,.one (.d (.sl (bls l)))),(1,vb v),(7,vi l.length),(8,vi i)],[]⟩) (l.length) ⟨0,Nat.zero_le _,(Nat.sub_zero _).symm,?_,rfl⟩ ?_
 ·simp
 rintro _ _ ⟨i,hi,rfl,hz,rfl⟩
 simp only[List.length_map] at hl
 simp only[go_sem]
 by_cases hil:i < l.length
 ·obtain⟨x,hx⟩:=Xal hil
  repeat' first|refine Kn rfl ?_|((first|refine Ka ?_|refine Kb ?_|refine Kv ?_|refine Ke ?_);simp only[go_sem])|refine Kf ?_|refine Kg ?_|refine⟨_,⟨Kq _,(by first|exact Xad hx|(rw[Int.toNat_natCast];exact Xad hx)),rfl⟩,Kg ?_⟩|apply Kp<;>intro _|((first|refine Kh ?_|refine Ki rfl ?_);simp only[or_self,Qs,Qt,Qu,Qv,Qw,Qx,Qy,Qz,Za,go_sem])
  ·rename_i h;rw[Xtx hz hx h]
  ·refine⟨Xaq hil hl,?_⟩
   rename_i h
   refine Kt (fr 19 [(0,.one (.d (.sl (bls l)))),(1,vb v),(7,vi l.length),(8,vi (i+1))]) ?_
   refine Kl ⟨l.length - (i+1),by omega,i+1,by omega,rfl,?_,rfl⟩
   exact Xig hz hx (by simpa using h)
  ·omega
 ·repeat' (first|refine Kn rfl ?_|((first|refine Ka ?_|refine Kb ?_|refine Kv ?_|refine Ke ?_);simp only[go_sem])|refine Kf ?_|refine Kg ?_|apply Kp<;>intro _|((first|refine Kh ?_|refine Ki rfl ?_);simp only[or_self,Qs,Qt,Qu,Qv,Qw,Qx,Qy,Qz,Za,go_sem]))
  ·omega
  ·rw[List.take_of_length_le (by omega)] at hz
   rw[Xmd hz]
theorem Xii (l:List Bool) (v:Bool):Does QP gp 187 [.one (.d (.sl (bls l))),vb v] (vb (l.any fun y=>v==y)):=by
 refine Y73 ?_
 simp only[go_sem]
 repeat' first|refine Kn rfl ?_|((first|refine Ka ?_|refine Kb ?_|refine Kv ?_|refine Ke ?_);simp only[go_sem])|refine Kf ?_|refine Kg ?_|refine⟨_,Xn1 _ _,Kg ?_⟩|refine⟨_,⟨Xn1 _ _,rfl⟩,Kg ?_⟩|apply Kp<;>intro _|((first|refine Kh ?_|refine Ki rfl ?_);simp only[or_self,Qs,Qt,Qu,Qv,Qw,Qx,Qy,Qz,Za,go_sem])
 exact Xpd _ _
theorem Xjm (l:List Bool):Does QP gp 166 [.one (.d (.sl (bls l)))] (vb (l.all id)):=by
 refine Y7c ?_
 simp only[go_sem]
 repeat' first|refine Kn rfl ?_|((first|refine Ka ?_|refine Kb ?_|refine Kv ?_|refine Ke ?_);simp only[go_sem])|refine Kf ?_|refine Kg ?_|refine⟨_,Xii _ _,Kg ?_⟩|refine⟨_,⟨Xii _ _,rfl⟩,Kg ?_⟩|apply Kp<;>intro _|((first|refine Kh ?_|refine Ki rfl ?_);simp only[or_self,Qs,Qt,Qu,Qv,Qw,Qx,Qy,Qz,Za,go_sem])
 induction l <;> simp_all
theorem Xn2 (l:List Int) (f:FuncId) (c:D) (p:Int->Bool) (hp:∀ x,Does QP gp f [vi x,.one (.d c)] (vb (p x))) :
  Does QP gp 204 [.one (.d (.sl (Xaf l))),.one (.d (.fn (.func f) [c]))] (vi (Ymt p l)):=by
 refine Y87 ?_
 simp only[go_sem]
 repeat' first|refine Kn rfl ?_|((first|refine Ka ?_|refine Kb ?_|refine Kv ?_|refine Ke ?_);simp only[go_sem])|refine Kf ?_|refine Kg ?_|apply Kp<;>intro _|((first|refine Kh ?_|refine Ki rfl ?_);simp only[or_self,Qs,Qt,Qu,Qv,Qw,Qx,Qy,Qz,Za,go_sem])
 refine Xtp 0 rfl fun hl=>?_
 refine Kt (fr 19 [(0,.one (.d (.sl (Xaf l)))),(1,.one (.d (.fn (.func f) [c]))),(7,vi l.length),(8,vi (0:Nat))]) ?_
 refine Km (fun mz sz=>∃ i:Nat,i<=l.length/\mz=l.length - i/\(∀ y∈l.take i,p y=false)/\sz=⟨fr 19 [(0,.one (.d (.sl (Xaf l)))),(1,.one (.d (.fn (.func f) [c]))),(7,vi l.length),(8,vi i)],[]⟩) (l.length) ⟨0,Nat.zero_le _,(Nat.sub_zero _).symm,?_,rfl⟩ ?_
 ·simp
 rintro _ _ ⟨i,hi,rfl,hz,rfl⟩
 simp only[List.length_map] at hl
 simp only[go_sem]
 by_cases hil:i < l.length
 ·obtain⟨x,hx⟩:=Xal hil
  repeat' first|refine Kn rfl ?_|((first|refine Ka ?_|refine Kb ?_|refine Kv ?_|refine Ke ?_);simp only[go_sem])|refine Kf ?_|refine Kg ?_|refine⟨_,hp _,Kg ?_⟩|refine⟨_,⟨hp _,rfl⟩,Kg ?_⟩|refine⟨_,⟨Kq _,(by first|exact Xad hx|(rw[Int.toNat_natCast];exact Xad hx)),rfl⟩,Kg ?_⟩|apply Kp<;>intro _|((first|refine Kh ?_|refine Ki rfl ?_);simp only[or_self,Qs,Qt,Qu,Qv,Qw,Qx,Qy,Qz,Za,go_sem])
  ·rename_i h;rw[Xtx hz hx h]
  ·refine⟨Xaq hil hl,?_⟩
   rename_i h
   refine Kt (fr 19 [(0,.one (.d (.sl (Xaf l)))),(1,.one (.d (.fn (.func f) [c]))),(7,vi l.length),(8,vi (i+1))]) ?_
   refine Kl ⟨l.length - (i+1),by omega,i+1,by omega,rfl,?_,rfl⟩
   exact Xig hz hx (by simpa using h)
  ·omega
 ·repeat' (first|refine Kn rfl ?_|((first|refine Ka ?_|refine Kb ?_|refine Kv ?_|refine Ke ?_);simp only[go_sem])|refine Kf ?_|refine Kg ?_|apply Kp<;>intro _|((first|refine Kh ?_|refine Ki rfl ?_);simp only[or_self,Qs,Qt,Qu,Qv,Qw,Qx,Qy,Qz,Za,go_sem]))
  ·omega
  ·rw[List.take_of_length_le (by omega)] at hz
   rw[Xmd hz]
theorem Xij (l:List Int) (f:FuncId) (c:D) (p:Int->Bool) (hp:∀ x,Does QP gp f [vi x,.one (.d c)] (vb (p x))) :
  Does QP gp 189 [.one (.d (.sl (Xaf l))),.one (.d (.fn (.func f) [c]))] (vb (l.any p)):=by
 refine Y8b ?_
 simp only[go_sem]
 repeat' first|refine Kn rfl ?_|((first|refine Ka ?_|refine Kb ?_|refine Kv ?_|refine Ke ?_);simp only[go_sem])|refine Kf ?_|refine Kg ?_|refine⟨_,Xn2 _ _ _ _ hp,Kg ?_⟩|refine⟨_,⟨Xn2 _ _ _ _ hp,rfl⟩,Kg ?_⟩|apply Kp<;>intro _|((first|refine Kh ?_|refine Ki rfl ?_);simp only[or_self,Qs,Qt,Qu,Qv,Qw,Qx,Qy,Qz,Za,go_sem])
 exact Xpd _ _
theorem Xrj (l:List Sc) (f:FuncId) (p:Sc->Bool) (hp:∀ x,Does QP gp f [x.v] (vb (p x))) :
  Does QP gp 205 [.one (.d (.sl (scs l))),.one (.d (.fn (.func f) []))] (vi (Ymt p l)):=by
 refine Y9f ?_
 simp only[go_sem]
 repeat' first|refine Kn rfl ?_|((first|refine Ka ?_|refine Kb ?_|refine Kv ?_|refine Ke ?_);simp only[go_sem])|refine Kf ?_|refine Kg ?_|apply Kp<;>intro _|((first|refine Kh ?_|refine Ki rfl ?_);simp only[or_self,Qs,Qt,Qu,Qv,Qw,Qx,Qy,Qz,Za,go_sem])
 refine Xtp 0 rfl fun hl=>?_
 refine Kt (fr 19 [(0,.one (.d (.sl (scs l)))),(1,.one (.d (.fn (.func f) []))),(7,vi l.length),(8,vi (0:Nat))]) ?_
 refine Km (fun mz sz=>∃ i:Nat,i<=l.length/\mz=l.length - i/\(∀ y∈l.take i,p y=false)/\sz=⟨fr 19 [(0,.one (.d (.sl (scs l)))),(1,.one (.d (.fn (.func f) []))),(7,vi l.length),(8,vi i)],[]⟩) (l.length) ⟨0,Nat.zero_le _,(Nat.sub_zero _).symm,?_,rfl⟩ ?_
 ·simp
 rintro _ _ ⟨i,hi,rfl,hz,rfl⟩
 simp only[List.length_map] at hl
 simp only[go_sem]
 by_cases hil:i < l.length
 ·obtain⟨x,hx⟩:=Xal hil
  repeat' first|refine Kn rfl ?_|((first|refine Ka ?_|refine Kb ?_|refine Kv ?_|refine Ke ?_);simp only[go_sem])|refine Kf ?_|refine Kg ?_|refine⟨_,hp _,Kg ?_⟩|refine⟨_,⟨hp _,rfl⟩,Kg ?_⟩|refine⟨_,⟨Kq _,(by first|exact Xad hx|(rw[Int.toNat_natCast];exact Xad hx)),rfl⟩,Kg ?_⟩|apply Kp<;>intro _|((first|refine Kh ?_|refine Ki rfl ?_);simp only[or_self,Qs,Qt,Qu,Qv,Qw,Qx,Qy,Qz,Za,go_sem])
  ·rename_i h;rw[Xtx hz hx h]
  ·refine⟨Xaq hil hl,?_⟩
   rename_i h
   refine Kt (fr 19 [(0,.one (.d (.sl (scs l)))),(1,.one (.d (.fn (.func f) []))),(7,vi l.length),(8,vi (i+1))]) ?_
   refine Kl ⟨l.length - (i+1),by omega,i+1,by omega,rfl,?_,rfl⟩
   exact Xig hz hx (by simpa using h)
  ·omega
 ·repeat' (first|refine Kn rfl ?_|((first|refine Ka ?_|refine Kb ?_|refine Kv ?_|refine Ke ?_);simp only[go_sem])|refine Kf ?_|refine Kg ?_|apply Kp<;>intro _|((first|refine Kh ?_|refine Ki rfl ?_);simp only[or_self,Qs,Qt,Qu,Qv,Qw,Qx,Qy,Qz,Za,go_sem]))
  ·omega
  ·rw[List.take_of_length_le (by omega)] at hz
   rw[Xmd hz]
theorem Xkh (l:List Sc) (f:FuncId) (p:Sc->Bool) (hp:∀ x,Does QP gp f [x.v] (vb (p x))) :
  Does QP gp 191 [.one (.d (.sl (scs l))),.one (.d (.fn (.func f) []))] (vb (l.any p)):=by
 refine Y8j ?_
 simp only[go_sem]
 repeat' first|refine Kn rfl ?_|((first|refine Ka ?_|refine Kb ?_|refine Kv ?_|refine Ke ?_);simp only[go_sem])|refine Kf ?_|refine Kg ?_|refine⟨_,Xrj _ _ _ hp,Kg ?_⟩|refine⟨_,⟨Xrj _ _ _ hp,rfl⟩,Kg ?_⟩|apply Kp<;>intro _|((first|refine Kh ?_|refine Ki rfl ?_);simp only[or_self,Qs,Qt,Qu,Qv,Qw,Qx,Qy,Qz,Za,go_sem])
 exact Xpd _ _
theorem Xrk (x:Nd) (n i:Int):Does QP gp 188 [vi i,.one (.d (.bx (x.vd n)))] (vb (decide (i < 0) || decide (i >= n))):=by
 refine Y77 ?_
 simp only[go_sem]
 repeat' first|refine Kn rfl ?_|((first|refine Ka ?_|refine Kb ?_|refine Kv ?_|refine Ke ?_);simp only[go_sem])|refine Kf ?_|refine Kg ?_|apply Kp<;>intro _|((first|refine Kh ?_|refine Ki rfl ?_);simp only[or_self,Qs,Qt,Qu,Qv,Qw,Qx,Qy,Qz,Za,go_sem])
 all_goals grind
def Xdl (l:List Int) (n:Int):Bool:=l.all fun i=>decide (0<=i) && decide (i < n)
theorem Xky (x:Nd) (n:Int):Does QP gp 167 [x.vw n] (vb (Xdl x.kids n)):=by
 refine Y7h ?_
 simp only[go_sem]
 repeat' first|refine Kn rfl ?_|((first|refine Ka ?_|refine Kb ?_|refine Kv ?_|refine Ke ?_);simp only[go_sem])|refine Kf ?_|refine Kg ?_|refine⟨_,Xij _ _ _ _ (Xrk x n),Kg ?_⟩|refine⟨_,⟨Xij _ _ _ _ (Xrk x n),rfl⟩,Kg ?_⟩|apply Kp<;>intro _|((first|refine Kh ?_|refine Ki rfl ?_);simp only[or_self,Qs,Qt,Qu,Qv,Qw,Qx,Qy,Qz,Za,go_sem])
 unfold Xdl
 generalize x.kids=l
 induction l with
 | nil=>rfl
 | cons a l ih=>simp only[List.any_cons,List.all_cons,Bool.not_or,ih];congr 1;grind
def Xme:Int:=999999999999999
def prR (R:ByteArray->Bool) (x:Sc):Bool :=
 if x.k=0 then decide (x=⟨0,0,⟨#[]⟩⟩)
 else if x.k=1 then decide (x.s=⟨#[]⟩) && (decide (x.n=0) || decide (x.n=1))
 else if x.k=2 then decide (x.s=⟨#[]⟩) && (decide (-Xme<=x.n) && decide (x.n<=Xme))
 else if x.k=3 then decide (x.n=0) && R x.s else false
theorem Xjn (x:Sc):(x.k==0 && (x.n==0 && decide (x.s=⟨#[]⟩)))=decide (x=⟨0,0,⟨#[]⟩⟩):=Xri x ⟨0,0,⟨#[]⟩⟩
theorem Xdy (R:ByteArray->Bool) (hR:∀ s,Does QP gp 63 [vs s] (vb (R s))) (x:Sc):Does QP gp 35 [x.v] (vb (prR R x)):=by
 refine Wj8 ?_
 simp only[go_sem]
 repeat' first|refine Kn rfl ?_|((first|refine Ka ?_|refine Kb ?_|refine Kv ?_|refine Ke ?_);simp only[Xjn,go_sem])|refine Kf ?_|refine Kg ?_|refine⟨_,hR _,Kg ?_⟩|refine⟨_,⟨hR _,rfl⟩,Kg ?_⟩|apply Kp<;>intro _|((first|refine Kh ?_|refine Ki rfl ?_);simp only[Xjn,or_self,Qs,Qt,Qu,Qv,Qw,Qx,Qy,Qz,Za,go_sem])
 all_goals (first|(unfold prR Xme;grind)|trace_state)
theorem Xrl (R:ByteArray->Bool) (hR:∀ s,Does QP gp 63 [vs s] (vb (R s))) (x:Sc):Does QP gp 190 [x.v] (vb (!prR R x)):=by
 refine Y8f ?_
 simp only[go_sem]
 repeat' first|refine Kn rfl ?_|((first|refine Ka ?_|refine Kb ?_|refine Kv ?_|refine Ke ?_);simp only[go_sem])|refine Kf ?_|refine Kg ?_|refine⟨_,Xdy R hR _,Kg ?_⟩|refine⟨_,⟨Xdy R hR _,rfl⟩,Kg ?_⟩|apply Kp<;>intro _|((first|refine Kh ?_|refine Ki rfl ?_);simp only[or_self,Qs,Qt,Qu,Qv,Qw,Qx,Qy,Qz,Za,go_sem])
 try rfl
section
variable {α:Type} [DecidableEq α] {kag:Bool} {ks:List Leaf} {kv:α->V} {v:V}
theorem Xik (he:∀ a b,eqV kag ks (kv a) (kv b)=some (decide (a=b))):∀ (l:List α) (x:α),Xc9 kag ks (l.map fun a=>(kv a,v)) (kv x)=some (if x∈l then some v else none)
 | [],x=>by simp[Xc9]
 | a::l,x=>by
  simp only[List.map_cons,Xc9,he]
  by_cases h:x=a
  ·simp[h]
  ·simp only[h,decide_false,Xik he l x,List.mem_cons,false_or]
theorem Xkz (he:∀ a b,eqV kag ks (kv a) (kv b)=some (decide (a=b))):∀ (l:List α) (x:α),x ∉ l->Xkq kag ks (l.map fun a=>(kv a,v)) (kv x) v=some ((l++[x]).map fun a=>(kv a,v))
 | [],x,_=>by simp[Xkq]
 | a::l,x,h=>by
  simp only[List.mem_cons,not_or] at h
  simp only[List.map_cons,Xkq,he,h.1,decide_false,Xkz he l x h.2,List.cons_append]
end
theorem Yuy (x y:Sc):eqV true [.i,.i,.s] x.v y.v=some (decide (x=y)):=by
 simp only[go_sem]
 rw[Xri]
abbrev Ymu (l:List Sc):List (V × V):=l.map fun a=>(Sc.v a,vb true)
theorem X09 (l:List Sc):(Ch.map (Ymu l)).refs=[]:=by
 simp only[Ch.refs]
 rw[List.flatMap_eq_nil_iff]
 intro e he
 obtain⟨a,_,rfl⟩:=List.mem_map.1 he
 rfl
theorem Wox (l:List Sc):Does QP gp 206 [.one (.d (.sl (scs l)))] (.one (.d (.fn (.func 208) [.bx [.sl (scs l)]]))):=by
 refine Y9j ?_
 simp only[go_sem]
 repeat' first|refine Kn rfl ?_|((first|refine Ka ?_|refine Kb ?_|refine Kv ?_|refine Ke ?_);simp only[go_sem])|refine Kf ?_|refine Kg ?_|apply Kp<;>intro _|((first|refine Kh ?_|refine Ki rfl ?_);simp only[or_self,Qs,Qt,Qu,Qv,Qw,Qx,Qy,Qz,Za,go_sem])
theorem Ymv {α:Type} [DecidableEq α] {l:List α} {i:Nat} {x:α} (hx:l[i]?=some x) (hm:x∈l.take i):¬ l.Nodup:=by
 intro h
 obtain⟨hi,rfl⟩:=Kr.1 hx
 rw[List.mem_take_iff_getElem] at hm
 obtain⟨j,hj,e⟩:=hm
 exact List.pairwise_iff_getElem.1 h j i (by omega) hi (by omega) e
theorem Xca {α:Type} {l:List α} {i:Nat} {x:α} (hx:l[i]?=some x):l.take i++[x]=l.take (i+1):=by
 rw[List.take_succ,hx];rfl
theorem X1a {α:Type} {l:List α} {i:Nat} {x:α} (hx:l[i]?=some x) (hm:x ∉ l.take i) (h:(l.take i).Nodup):(l.take (i+1)).Nodup:=by
 rw[<- Xca hx,List.nodup_append]
 refine⟨h,by simp,?_⟩
 intro a ha b hb;simp at hb;subst hb;rintro rfl;exact hm ha
theorem Woy (l:List Sc):Does QP gp 192 [.one (.d (.sl (scs l)))] (vb (!decide l.Nodup)):=by
 refine Y8r ?_
 simp only[go_sem]
 repeat' first|refine Kn rfl ?_|((first|refine Ka ?_|refine Kb ?_|refine Kv ?_|refine Ke ?_);simp only[go_sem])|refine Kf ?_|refine Kg ?_|refine⟨_,Wox _,Kg ?_⟩|refine⟨_,⟨Wox _,rfl⟩,Kg ?_⟩|apply Kp<;>intro _|((first|refine Kh ?_|refine Ki rfl ?_);simp only[or_self,Qs,Qt,Qu,Qv,Qw,Qx,Qy,Qz,Za,go_sem])
 refine Y0b (f2:=208) (caps:=[.one (.d (.bx [.sl (scs l)]))]) (fun pd own'=>pd=none/\∃ n:Nat,own'.head?=some (.cells [.d (.int .i64 n)])/\decide ((n:Int) < l.length)=!decide l.Nodup) rfl ?_ Y9p ?_ ?_ ?_
 ·intro y;simp only[go_sem]
 ·rintro b rc hps ⟨hs,hta,htb⟩
  refine Ymr ?_
  simp only[go_sem]
  repeat' first|refine Kn rfl ?_|((first|refine Ka ?_|refine Kb ?_|refine Kv ?_|refine Ke ?_);simp only[go_sem])|refine Kf ?_|refine Kg ?_|apply Kp<;>intro _|((first|refine Kh ?_|refine Ki rfl ?_);simp only[or_self,Qs,Qt,Qu,Qv,Qw,Qx,Qy,Qz,Za,go_sem])
  refine Yq8 1 0 rfl rfl fun hl=>?_
  simp only[List.length_map] at hl
  refine Kt (fr 25 [(0,.one (.d (.raw (.func (.yield b) #[] #[])))),(1,.one (.d (.bx [.sl (scs l)]))),(3,.one (.own 2 0)),(7,.one (.d (.sl (scs l)))),(8,vi l.length),(9,vi (0:Nat))]) ?_
  refine Km (fun mz sz=>∃ i:Nat,i<=l.length/\mz=l.length - i/\((l.take i).Nodup)/\sz=⟨fr 25 [(0,.one (.d (.raw (.func (.yield b) #[] #[])))),(1,.one (.d (.bx [.sl (scs l)]))),(3,.one (.own 2 0)),(7,.one (.d (.sl (scs l)))),(8,vi l.length),(9,vi i)],[.cells [.d (.int .i64 ((i:Nat):Int))],.lp b _ rc .ready none,.map (Ymu (l.take i))]⟩) (l.length) ⟨0,Nat.zero_le _,(Nat.sub_zero _).symm,?_,rfl⟩ ?_
  ·simp
  rintro _ _ ⟨i,hi,rfl,hz,rfl⟩
  simp only[go_sem]
  by_cases hil:i < l.length
  ·obtain⟨x,hx⟩:=Xal hil
   repeat' first|refine Kn rfl ?_|((first|refine Ka ?_|refine Kb ?_|refine Kv ?_|refine Ke ?_);simp only[go_sem])|refine Kf ?_|refine Kg ?_|refine⟨_,⟨Kq _,(by first|exact Xad hx|(rw[Int.toNat_natCast];exact Xad hx)),rfl⟩,Kg ?_⟩|apply Kp<;>intro _|((first|refine Kh ?_|refine Ki rfl ?_);simp only[or_self,Qs,Qt,Qu,Qv,Qw,Qx,Qy,Qz,Za,go_sem])
   ·have hf:=Xik (v:=vb true) Yuy (l.take i) x
    by_cases hm:x∈l.take i
    ·simp only[hm,if_true] at hf
     refine⟨_,⟨hf,rfl⟩,Kg ?_⟩
     simp only[go_sem]
     repeat' first|refine Kn rfl ?_|((first|refine Ka ?_|refine Kb ?_|refine Kv ?_|refine Ke ?_);simp only[go_sem])|refine Kf ?_|refine Kg ?_|apply Kp<;>intro _|((first|refine Kh ?_|refine Ki rfl ?_);simp only[or_self,Qs,Qt,Qu,Qv,Qw,Qx,Qy,Qz,Za,go_sem])
     refine⟨.ready,none,rfl,by simp,rfl,i,rfl,?_⟩
     have:=Ymv hx hm
     simp[this];omega
    ·simp only[hm,if_false] at hf
     refine⟨_,⟨hf,rfl⟩,Kg ?_⟩
     simp only[go_sem]
     repeat' first|refine Kn rfl ?_|((first|refine Ka ?_|refine Kb ?_|refine Kv ?_|refine Ke ?_);simp only[go_sem])|refine Kf ?_|refine Kg ?_|apply Kp<;>intro _|((first|refine Kh ?_|refine Ki rfl ?_);simp only[or_self,Qs,Qt,Qu,Qv,Qw,Qx,Qy,Qz,Za,go_sem])
     have hn:inK .i64 ((i:Int)+1):=Xaq hil hl
     refine⟨[.cells [.d (.int .i64 ((i:Int)+1))],.lp b _ rc .ready none,.map (Ymu (l.take i)),.cells x.as],true,Nat.le_refl _,⟨1,_,rc,hs,_,_,[.cells [.d (.int .i64 ((i:Int)+1))],.dead,.map (Ymu (l.take i)),.cells x.as],none,rfl,by rw[<- Array.length_toList,hps];rfl,hta,htb,?_,rfl,rfl⟩,Kg ?_⟩
     ·rw[hps]
      simp only[go_sem]
      repeat' first|refine Kn rfl ?_|((first|refine Ka ?_|refine Kb ?_|refine Kv ?_|refine Ke ?_);simp only[go_sem])|refine Kf ?_|refine Kg ?_|apply Kp<;>intro _|((first|refine Kh ?_|refine Ki rfl ?_);simp only[or_self,Qs,Qt,Qu,Qv,Qw,Qx,Qy,Qz,Za,go_sem])
      refine Xfy ⟨rfl,?_⟩
      repeat' first|refine Kn rfl ?_|((first|refine Ka ?_|refine Kb ?_|refine Kv ?_|refine Ke ?_);simp only[go_sem])|refine Kf ?_|refine Kg ?_|apply Kp<;>intro _|((first|refine Kh ?_|refine Ki rfl ?_);simp only[or_self,Qs,Qt,Qu,Qv,Qw,Qx,Qy,Qz,Za,go_sem])
      refine⟨hn,?_⟩
      repeat' first|refine Kn rfl ?_|((first|refine Ka ?_|refine Kb ?_|refine Kv ?_|refine Ke ?_);simp only[go_sem])|refine Kf ?_|refine Kg ?_|apply Kp<;>intro _|((first|refine Kh ?_|refine Ki rfl ?_);simp only[or_self,Qs,Qt,Qu,Qv,Qw,Qx,Qy,Qz,Za,go_sem])
      exact Xfy ⟨⟨rfl,rfl⟩,rfl⟩
     ·simp only[go_sem]
      repeat' first|refine Kn rfl ?_|((first|refine Ka ?_|refine Kb ?_|refine Kv ?_|refine Ke ?_);simp only[go_sem])|refine Kf ?_|refine Kg ?_|apply Kp<;>intro _|((first|refine Kh ?_|refine Ki rfl ?_);simp only[or_self,Qs,Qt,Qu,Qv,Qw,Qx,Qy,Qz,Za,go_sem])
      refine⟨_,Xkz Yuy _ x hm,Kg ?_⟩
      rw[Xca hx]
      simp only[go_sem]
      repeat' first|refine Kn rfl ?_|((first|refine Ka ?_|refine Kb ?_|refine Kv ?_|refine Ke ?_);simp only[go_sem])|refine Kf ?_|refine Kg ?_|apply Kp<;>intro _|((first|refine Kh ?_|refine Ki rfl ?_);simp only[or_self,Qs,Qt,Qu,Qv,Qw,Qx,Qy,Qz,Za,go_sem])
      refine⟨hn,?_⟩
      refine Kt (fr 25 [(0,.one (.d (.raw (.func (.yield b) #[] #[])))),(1,.one (.d (.bx [.sl (scs l)]))),(3,.one (.own 2 0)),(7,.one (.d (.sl (scs l)))),(8,vi l.length),(9,vi (i+1))]) ?_
      refine Kk 3 (by simp only[List.length_nil,List.length_cons];decide) (by simp only[go_sem]) (by simp only[List.take_succ_cons,List.take_zero,List.all_cons,List.all_nil,X09];try simp only[go_sem]) ?_
      simp only[go_sem]
      refine Kl ⟨l.length - (i+1),by omega,i+1,by omega,rfl,?_,rfl⟩
      exact X1a hx hm hz
   ·omega
  ·repeat' (first|refine Kn rfl ?_|((first|refine Ka ?_|refine Kb ?_|refine Kv ?_|refine Ke ?_);simp only[go_sem])|refine Kf ?_|refine Kg ?_|apply Kp<;>intro _|((first|refine Kh ?_|refine Ki rfl ?_);simp only[or_self,Qs,Qt,Qu,Qv,Qw,Qx,Qy,Qz,Za,go_sem]))
   ·omega
   ·refine⟨.ready,none,rfl,by simp,rfl,i,rfl,?_⟩
    rw[List.take_of_length_le (by omega)] at hz
    simp[hz];omega
 ·rintro (_|⟨c,own'⟩) ⟨_,n,h1,h2⟩
  ·cases h1
  ·simp only[List.head?_cons,Option.some.injEq] at h1
   subst h1
   simp only[go_sem]
   repeat' first|refine Kn rfl ?_|((first|refine Ka ?_|refine Kb ?_|refine Kv ?_|refine Ke ?_);simp only[go_sem])|refine Kf ?_|refine Kg ?_|apply Kp<;>intro _|((first|refine Kh ?_|refine Ki rfl ?_);simp only[or_self,Qs,Qt,Qu,Qv,Qw,Qx,Qy,Qz,Za,go_sem])
   exact h2
 ·rintro _ _ ⟨h,_⟩;cases h
section
variable (R:ByteArray->Bool) (hR:∀ s,Does QP gp 63 [vs s] (vb (R s)))
include hR
def Xty (R:ByteArray->Bool) (l:List Sc):Bool:=l.all (prR R) && decide l.Nodup
theorem Xxw (x:Nd) (n:Int):Does QP gp 168 [x.vw n] (vb (Xty R x.keys)):=by
 refine Y7m ?_
 simp only[go_sem]
 repeat' first|refine Kn rfl ?_|((first|refine Ka ?_|refine Kb ?_|refine Kv ?_|refine Ke ?_);simp only[go_sem])|refine Kf ?_|refine Kg ?_|refine⟨_,Xkh _ _ _ (Xrl R hR),Kg ?_⟩|refine⟨_,⟨Xkh _ _ _ (Xrl R hR),rfl⟩,Kg ?_⟩|refine⟨_,Woy _,Kg ?_⟩|refine⟨_,⟨Woy _,rfl⟩,Kg ?_⟩|apply Kp<;>intro _|((first|refine Kh ?_|refine Ki rfl ?_);simp only[or_self,Qs,Qt,Qu,Qv,Qw,Qx,Qy,Qz,Za,go_sem])
 all_goals (unfold Xty;grind)
def Ymw (R:ByteArray->Bool) (x:Nd):Bool:=prR R x.x && (decide (x.keys=[]) && decide (x.kids=[]))
theorem Yuz (x:Nd) (n:Int):Does QP gp 142 [x.vw n] (vb (Ymw R x)):=by
 refine Y54 ?_
 simp only[go_sem]
 repeat' first|refine Kn rfl ?_|((first|refine Ka ?_|refine Kb ?_|refine Kv ?_|refine Ke ?_);simp only[go_sem])|refine Kf ?_|refine Kg ?_|refine⟨_,Xdy R hR _,Kg ?_⟩|refine⟨_,⟨Xdy R hR _,rfl⟩,Kg ?_⟩|refine⟨_,Xjm [_,_,_],Kg ?_⟩|refine⟨_,⟨Xjm [_,_,_],rfl⟩,Kg ?_⟩|apply Kp<;>intro _|((first|refine Kh ?_|refine Ki rfl ?_);simp only[or_self,Qs,Qt,Qu,Qv,Qw,Qx,Qy,Qz,Za,go_sem])
 unfold Ymw
 cases x.keys <;> cases x.kids <;> simp <;> omega
def isZ (x:Sc):Bool:=decide (x=⟨0,0,⟨#[]⟩⟩)
def Yi7 (x:Nd) (n:Int):Bool:=isZ x.x && (decide (x.keys=[]) && Xdl x.kids n)
omit hR in
theorem Yu0 (x:Nd) (n:Int):Does QP gp 143 [x.vw n] (vb (Yi7 x n)):=by
 refine Y58 ?_
 simp only[go_sem]
 repeat' first|refine Kn rfl ?_|((first|refine Ka ?_|refine Kb ?_|refine Kv ?_|refine Ke ?_);simp only[Xjn,go_sem])|refine Kf ?_|refine Kg ?_|refine⟨_,Xky _ _,Kg ?_⟩|refine⟨_,⟨Xky _ _,rfl⟩,Kg ?_⟩|refine⟨_,Xjm [_,_,_],Kg ?_⟩|refine⟨_,⟨Xjm [_,_,_],rfl⟩,Kg ?_⟩|apply Kp<;>intro _|((first|refine Kh ?_|refine Ki rfl ?_);simp only[Xjn,or_self,Qs,Qt,Qu,Qv,Qw,Qx,Qy,Qz,Za,go_sem])
 unfold Yi7 isZ
 cases x.keys <;> simp <;> omega
def Ymx (R:ByteArray->Bool) (x:Nd) (n:Int):Bool:=isZ x.x && (decide (x.keys.length=x.kids.length) && (Xty R x.keys && Xdl x.kids n))
theorem Yu1 (x:Nd) (n:Int):Does QP gp 144 [x.vw n] (vb (Ymx R x n)):=by
 refine Y6c ?_
 simp only[go_sem]
 repeat' first|refine Kn rfl ?_|((first|refine Ka ?_|refine Kb ?_|refine Kv ?_|refine Ke ?_);simp only[Xjn,go_sem])|refine Kf ?_|refine Kg ?_|refine⟨_,Xih _ _,Kg ?_⟩|refine⟨_,⟨Xih _ _,rfl⟩,Kg ?_⟩|refine⟨_,Xxw R hR _ _,Kg ?_⟩|refine⟨_,⟨Xxw R hR _ _,rfl⟩,Kg ?_⟩|refine⟨_,Xky _ _,Kg ?_⟩|refine⟨_,⟨Xky _ _,rfl⟩,Kg ?_⟩|refine⟨_,Xjm [_,_,_,_],Kg ?_⟩|refine⟨_,⟨Xjm [_,_,_,_],rfl⟩,Kg ?_⟩|apply Kp<;>intro _|((first|refine Kh ?_|refine Ki rfl ?_);simp only[Xjn,or_self,Qs,Qt,Qu,Qv,Qw,Qx,Qy,Qz,Za,go_sem])
 unfold Ymx isZ
 simp
def Xbe (R:ByteArray->Bool) (x:Nd) (n:Int):Bool :=
 if x.k=0 then Ymw R x else if x.k=1 then Yi7 x n else if x.k=2 then Ymx R x n else false
theorem Ymy (x:Nd) (n:Int):Does QP gp 110 [x.vw n] (vb (Xbe R x n)):=by
 refine Y4y ?_
 simp only[go_sem]
 repeat' first|refine Kn rfl ?_|((first|refine Ka ?_|refine Kb ?_|refine Kv ?_|refine Ke ?_);simp only[go_sem])|refine Kf ?_|refine Kg ?_|apply Kp<;>intro _|((first|refine Kh ?_|refine Ki rfl ?_);simp only[or_self,Qs,Qt,Qu,Qv,Qw,Qx,Qy,Qz,Za,go_sem])
 ·rename_i h1 h2
  rcases (show x.k=0\/x.k=1\/x.k=2 by omega) with h|h|h
  ·refine⟨0,⟨h,by decide⟩,Kg ?_⟩
   repeat' first|refine Kn rfl ?_|((first|refine Ka ?_|refine Kb ?_|refine Kv ?_|refine Ke ?_);simp only[go_sem])|refine Kf ?_|refine Kg ?_|refine⟨_,Yuz R hR _ _,Kg ?_⟩|refine⟨_,⟨Yuz R hR _ _,rfl⟩,Kg ?_⟩|apply Kp<;>intro _|((first|refine Kh ?_|refine Ki rfl ?_);simp only[or_self,Qs,Qt,Qu,Qv,Qw,Qx,Qy,Qz,Za,go_sem])
   simp[Xbe,h]
  ·refine⟨1,⟨h,by decide⟩,Kg ?_⟩
   repeat' first|refine Kn rfl ?_|((first|refine Ka ?_|refine Kb ?_|refine Kv ?_|refine Ke ?_);simp only[go_sem])|refine Kf ?_|refine Kg ?_|refine⟨_,Yu0 _ _,Kg ?_⟩|refine⟨_,⟨Yu0 _ _,rfl⟩,Kg ?_⟩|apply Kp<;>intro _|((first|refine Kh ?_|refine Ki rfl ?_);simp only[or_self,Qs,Qt,Qu,Qv,Qw,Qx,Qy,Qz,Za,go_sem])
   simp[Xbe,h]
  ·refine⟨2,⟨h,by decide⟩,Kg ?_⟩
   repeat' first|refine Kn rfl ?_|((first|refine Ka ?_|refine Kb ?_|refine Kv ?_|refine Ke ?_);simp only[go_sem])|refine Kf ?_|refine Kg ?_|refine⟨_,Yu1 R hR _ _,Kg ?_⟩|refine⟨_,⟨Yu1 R hR _ _,rfl⟩,Kg ?_⟩|apply Kp<;>intro _|((first|refine Kh ?_|refine Ki rfl ?_);simp only[or_self,Qs,Qt,Qu,Qv,Qw,Qx,Qy,Qz,Za,go_sem])
   simp[Xbe,h]
 all_goals (unfold Xbe;rw[if_neg (by omega),if_neg (by omega),if_neg (by omega)])
omit hR in
theorem Woz (g:Gr):Does QP gp 109 [g.v] (.one (.d (.fn (.func 141) [.bx [.int .i64 g.root,.sl (nds g.l)]]))):=by
 refine Y4t ?_
 simp only[go_sem]
 repeat' first|refine Kn rfl ?_|((first|refine Ka ?_|refine Kb ?_|refine Kv ?_|refine Ke ?_);simp only[go_sem])|refine Kf ?_|refine Kg ?_|apply Kp<;>intro _|((first|refine Kh ?_|refine Ki rfl ?_);simp only[or_self,Qs,Qt,Qu,Qv,Qw,Qx,Qy,Qz,Za,go_sem])
def Xf1 (R:ByteArray->Bool) (g:Gr):Option (Int × Int) :=
 if g.l.length > 200 then some (0,71) else if ¬ (0<=g.root/\g.root < g.l.length) then some (-1,70)
 else (g.l.findIdx? fun x=>!Xbe R x g.l.length).map fun i=>((i:Int),70)
def Wzy:Option (Int × Int)->D
 | none=>.nilI
 | some (a,e)=>.ifc 175 true [.int .i64 a,.int .i64 e]
abbrev Wwb (e:Option (Int × Int)):A:=.d (Wzy e)
abbrev Wx7 (e:Option (Int × Int)):V:=.one (Wwb e)
omit hR in
theorem Ya8 {l:List Nd} {p:Nd->Bool} (h:∀ y∈l,p y=false):l.findIdx? p=none:=by
 rw[List.findIdx?_eq_none_iff];exact h
omit hR in
theorem Y91 {l:List Nd} {p:Nd->Bool} {i:Nat} {x:Nd} (h:∀ y∈l.take i,p y=false) (hx:l[i]?=some x) (h0:p x=true):l.findIdx? p=some i:=by
 obtain⟨hi,rfl⟩:=Kr.1 hx
 rw[List.findIdx?_eq_some_iff_getElem]
 refine⟨hi,h0,fun j hj=>?_⟩
 have:l[j]∈l.take i:=by
  rw[List.mem_take_iff_getElem]
  exact⟨j,by omega,rfl⟩
 simp[h _ this]
theorem Wo0 (g:Gr):Does QP gp 72 [g.v] (Wx7 (Xf1 R g)):=by
 refine Wmp ?_
 simp only[go_sem]
 repeat' first|refine Kn rfl ?_|((first|refine Ka ?_|refine Kb ?_|refine Kv ?_|refine Ke ?_);simp only[go_sem])|refine Kf ?_|refine Kg ?_|refine⟨_,Xkx _ _ _,Kg ?_⟩|refine⟨_,⟨Xkx _ _ _,rfl⟩,Kg ?_⟩|refine⟨_,Woz _,Kg ?_⟩|refine⟨_,⟨Woz _,rfl⟩,Kg ?_⟩|apply Kp<;>intro _|((first|refine Kh ?_|refine Ki rfl ?_);simp only[or_self,Qs,Qt,Qu,Qv,Qw,Qx,Qy,Qz,Za,go_sem])
 ·rename_i h;unfold Xf1;rw[if_pos (by omega)];rfl
 ·rename_i h1 h2
  have h3:¬ (0<=g.root/\g.root < (g.l.length:Int)):=by intro h3;simp[h3] at h2
  unfold Xf1;rw[if_neg (by omega),if_pos h3];rfl
 ·rename_i h1 h2
  have h3:0<=g.root/\g.root < (g.l.length:Int):=Classical.byContradiction fun h3=>by simp[h3] at h2
  have hck:Xf1 R g=(g.l.findIdx? fun x=>!Xbe R x g.l.length).map fun i=>((i:Int),70):=by
   unfold Xf1;rw[if_neg (by omega),if_neg (by simpa using h3)]
  rw[hck]
  refine Y0b (f2:=141) (caps:=[.one (.d (.bx [.int .i64 g.root,.sl (nds g.l)]))]) (fun pd own'=>((pd=none/\(g.l.findIdx? fun x=>!Xbe R x g.l.length)=none/\own'.head?=some (.cells [.d .nilI]))\/(pd=some .ret/\∃ i:Nat,(g.l.findIdx? fun x=>!Xbe R x g.l.length)=some i/\own'.head?=some (.cells [Wwb (some ((i:Int),70))])))) rfl ?_ Y50 ?_ ?_ ?_
  ·intro y;simp only[go_sem]
  ·rintro b rc hps ⟨hs,hta,htb⟩
   refine Ykx ?_
   simp only[go_sem]
   repeat' first|refine Kn rfl ?_|((first|refine Ka ?_|refine Kb ?_|refine Kv ?_|refine Ke ?_);simp only[go_sem])|refine Kf ?_|refine Kg ?_|apply Kp<;>intro _|((first|refine Kh ?_|refine Ki rfl ?_);simp only[or_self,Qs,Qt,Qu,Qv,Qw,Qx,Qy,Qz,Za,go_sem])
   refine Yq8 1 1 rfl rfl fun hl=>?_
   simp only[List.length_map] at hl
   refine Kt (fr 23 [(0,.one (.d (.raw (.func (.yield b) #[] #[])))),(1,.one (.d (.bx [.int .i64 g.root,.sl (nds g.l)]))),(6,.one (.d (.sl (nds g.l)))),(7,vi g.l.length),(8,vi (0:Nat))]) ?_
   refine Km (fun mz sz=>∃ i:Nat,i<=g.l.length/\mz=g.l.length - i/\(∀ y∈g.l.take i,(!Xbe R y g.l.length)=false)/\sz=⟨fr 23 [(0,.one (.d (.raw (.func (.yield b) #[] #[])))),(1,.one (.d (.bx [.int .i64 g.root,.sl (nds g.l)]))),(6,.one (.d (.sl (nds g.l)))),(7,vi g.l.length),(8,vi i)],[.cells [.d .nilI],.lp b _ rc .ready none]⟩) (g.l.length) ⟨0,Nat.zero_le _,(Nat.sub_zero _).symm,?_,rfl⟩ ?_
   ·simp
   rintro _ _ ⟨i,hi,rfl,hz,rfl⟩
   simp only[go_sem]
   by_cases hil:i < g.l.length
   ·obtain⟨x,hx⟩:=Xal hil
    repeat' first|refine Kn rfl ?_|((first|refine Ka ?_|refine Kb ?_|refine Kv ?_|refine Ke ?_);simp only[go_sem])|refine Kf ?_|refine Kg ?_|refine⟨_,⟨Kq _,(by first|exact Xad hx|(rw[Int.toNat_natCast];exact Xad hx)),rfl⟩,Kg ?_⟩|apply Kp<;>intro _|((first|refine Kh ?_|refine Ki rfl ?_);simp only[or_self,Qs,Qt,Qu,Qv,Qw,Qx,Qy,Qz,Za,go_sem])
    ·have hn:inK .i64 ((i:Int)+1):=Xaq hil hl
     have hr:=Ymy R hR x (g.l.length:Int)
     cases hb:Xbe R x g.l.length with
     | true =>
      rw[hb] at hr
      refine⟨[.cells [.d .nilI],.lp b _ rc .ready none,.cells x.as,.cells (x.as++[.d (.int .i64 g.l.length)])],true,by simp,⟨1,_,rc,hs,_,_,[.cells [.d .nilI],.dead,.cells x.as,.cells (x.as++[.d (.int .i64 g.l.length)])],none,rfl,by rw[<- Array.length_toList,hps];rfl,hta,htb,?_,rfl,rfl⟩,Kg ?_⟩
      ·rw[hps]
       simp only[go_sem]
       repeat' first|refine Kn rfl ?_|((first|refine Ka ?_|refine Kb ?_|refine Kv ?_|refine Ke ?_);simp only[go_sem])|refine Kf ?_|refine Kg ?_|apply Kp<;>intro _|((first|refine Kh ?_|refine Ki rfl ?_);simp only[or_self,Qs,Qt,Qu,Qv,Qw,Qx,Qy,Qz,Za,go_sem])
       refine Xfy ⟨rfl,?_⟩
       repeat' first|refine Kn rfl ?_|((first|refine Ka ?_|refine Kb ?_|refine Kv ?_|refine Ke ?_);simp only[go_sem])|refine Kf ?_|refine Kg ?_|refine⟨_,hr,Kg ?_⟩|refine⟨_,⟨hr,rfl⟩,Kg ?_⟩|apply Kp<;>intro _|((first|refine Kh ?_|refine Ki rfl ?_);simp only[or_self,Qs,Qt,Qu,Qv,Qw,Qx,Qy,Qz,Za,go_sem])
       exact Xfy ⟨⟨rfl,rfl⟩,rfl⟩
      ·simp only[go_sem]
       repeat' first|refine Kn rfl ?_|((first|refine Ka ?_|refine Kb ?_|refine Kv ?_|refine Ke ?_);simp only[go_sem])|refine Kf ?_|refine Kg ?_|apply Kp<;>intro _|((first|refine Kh ?_|refine Ki rfl ?_);simp only[or_self,Qs,Qt,Qu,Qv,Qw,Qx,Qy,Qz,Za,go_sem])
       refine⟨hn,?_⟩
       refine Kt (fr 23 [(0,.one (.d (.raw (.func (.yield b) #[] #[])))),(1,.one (.d (.bx [.int .i64 g.root,.sl (nds g.l)]))),(6,.one (.d (.sl (nds g.l)))),(7,vi g.l.length),(8,vi (i+1))]) ?_
       refine Ku 2 ?_
       simp only[go_sem]
       refine Kl ⟨g.l.length - (i+1),by omega,i+1,by omega,rfl,?_,rfl⟩
       exact Xig hz hx (by simp[hb])
     | false =>
      rw[hb] at hr
      refine⟨[.cells [Wwb (some ((i:Int),70))],.lp b _ rc .done (some .ret),.cells x.as,.cells (x.as++[.d (.int .i64 g.l.length)])],false,by simp,⟨1,_,rc,hs,_,_,[.cells [Wwb (some ((i:Int),70))],.dead,.cells x.as,.cells (x.as++[.d (.int .i64 g.l.length)])],some .ret,rfl,by rw[<- Array.length_toList,hps];rfl,hta,htb,?_,rfl,rfl⟩,Kg ?_⟩
      ·rw[hps]
       simp only[go_sem]
       repeat' first|refine Kn rfl ?_|((first|refine Ka ?_|refine Kb ?_|refine Kv ?_|refine Ke ?_);simp only[go_sem])|refine Kf ?_|refine Kg ?_|apply Kp<;>intro _|((first|refine Kh ?_|refine Ki rfl ?_);simp only[or_self,Qs,Qt,Qu,Qv,Qw,Qx,Qy,Qz,Za,go_sem])
       refine Xfy ⟨rfl,?_⟩
       repeat' first|refine Kn rfl ?_|((first|refine Ka ?_|refine Kb ?_|refine Kv ?_|refine Ke ?_);simp only[go_sem])|refine Kf ?_|refine Kg ?_|refine⟨_,hr,Kg ?_⟩|refine⟨_,⟨hr,rfl⟩,Kg ?_⟩|apply Kp<;>intro _|((first|refine Kh ?_|refine Ki rfl ?_);simp only[or_self,Qs,Qt,Qu,Qv,Qw,Qx,Qy,Qz,Za,go_sem])
       exact X3n rfl ⟨⟨rfl,rfl⟩,rfl⟩
      ·simp only[go_sem]
       repeat' first|refine Kn rfl ?_|((first|refine Ka ?_|refine Kb ?_|refine Kv ?_|refine Ke ?_);simp only[go_sem])|refine Kf ?_|refine Kg ?_|apply Kp<;>intro _|((first|refine Kh ?_|refine Ki rfl ?_);simp only[or_self,Qs,Qt,Qu,Qv,Qw,Qx,Qy,Qz,Za,go_sem])
       exact⟨.done,some .ret,rfl,by simp,.inr ⟨rfl,i,Y91 hz hx (by simp[hb]),rfl⟩⟩
    ·omega
   ·repeat' (first|refine Kn rfl ?_|((first|refine Ka ?_|refine Kb ?_|refine Kv ?_|refine Ke ?_);simp only[go_sem])|refine Kf ?_|refine Kg ?_|apply Kp<;>intro _|((first|refine Kh ?_|refine Ki rfl ?_);simp only[or_self,Qs,Qt,Qu,Qv,Qw,Qx,Qy,Qz,Za,go_sem]))
    ·omega
    ·rw[List.take_of_length_le (by omega)] at hz
     exact⟨.ready,none,rfl,by simp,.inl ⟨rfl,Ya8 hz,rfl⟩⟩
  ·rintro (_|⟨c,own'⟩) (⟨_,h4,h5⟩|⟨h4,_⟩)
   ·cases h5
   ·cases h4
   ·simp only[List.head?_cons,Option.some.injEq] at h5
    subst h5
    rw[h4]
    repeat' first|refine Kn rfl ?_|((first|refine Ka ?_|refine Kb ?_|refine Kv ?_|refine Ke ?_);simp only[go_sem])|refine Kf ?_|refine Kg ?_|apply Kp<;>intro _|((first|refine Kh ?_|refine Ki rfl ?_);simp only[or_self,Qs,Qt,Qu,Qv,Qw,Qx,Qy,Qz,Za,go_sem])
    rfl
   ·cases h4
  ·rintro c (_|⟨c',own'⟩) (⟨h4,_⟩|⟨h4,i,h5,h6⟩)
   ·cases h4
   ·cases h6
   ·cases h4
   ·cases h4
    simp only[List.head?_cons,Option.some.injEq] at h6
    subst h6
    rw[h5]
    refine⟨.ret,rfl,?_⟩
    repeat' first|refine Kn rfl ?_|((first|refine Ka ?_|refine Kb ?_|refine Kv ?_|refine Ke ?_);simp only[go_sem])|refine Kf ?_|refine Kg ?_|apply Kp<;>intro _|((first|refine Kh ?_|refine Ki rfl ?_);simp only[or_self,Qs,Qt,Qu,Qv,Qw,Qx,Qy,Qz,Za,go_sem])
    first|exact⟨rfl,rfl⟩|rfl
end
end Go.Fw.L07
