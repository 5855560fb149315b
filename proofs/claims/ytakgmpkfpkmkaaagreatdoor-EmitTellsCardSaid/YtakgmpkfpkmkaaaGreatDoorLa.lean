/- Chapter 7,part 1: comparisons. -/
import Derived.Test.YtakgmpkfpkmkaaaGreatDoorL07Mini
import Derived.Test.YtakgmpkfpkmkaaaGreatDoorFd
set_option linter.all false
namespace Go.Fw.L07
open Go Go.Fw
open Go.Fw.Sh renaming intro->Kg
open Go.Fw renaming Xd2->Kf,Xcp->Kt,Xlj->Kk,Xfl->Ku,Xco->Kl,Xeg->Km,Gx->Kn
open Go.Fw renaming Xdt->Kw, Xbs->Kw, Xbw->Kw, Xby->Kw, Xbz->Kw, Xhh->Kw, Xd3->Kw
open Go.Fw.Sh renaming intro->Kf
open Int renaming natCast_nonneg->Kq
open List renaming getElem?_eq_some_iff->Kr
open And renaming intro->Kp
open Go.Proofs.Tryz renaming prog->QP
set_option maxRecDepth 4000
variable {gp:Heap}
abbrev vi (n:Int):V:=.one (.d (.int .i64 n))
abbrev vb (b:Bool):V:=.one (.d (.bool b))
abbrev vs (s:ByteArray):V:=.one (.d (.str s))
structure Sc where
 k:Int
 n:Int
 s:ByteArray
 deriving DecidableEq
abbrev Sc.ds (x:Sc):List D:=[.int .i64 x.k,.int .i64 x.n,.str x.s]
abbrev Sc.as (x:Sc):List A:=[.d (.int .i64 x.k),.d (.int .i64 x.n),.d (.str x.s)]
abbrev Sc.v (x:Sc):V:=.agg x.as
abbrev Xad (l:List Int):List (List D):=l.map fun n=>[.int .i64 n]
abbrev scs (l:List Sc):List (List D):=l.map Sc.ds
structure Nd where
 k:Int
 x:Sc
 keys:List Sc
 kids:List Int
 deriving DecidableEq
abbrev Nd.ds (x:Nd):List D:=[.int .i64 x.k,.int .i64 x.x.k,.int .i64 x.x.n,.str x.x.s,.sl (scs x.keys),.sl (Xad x.kids)]
abbrev Nd.as (x:Nd):List A:=[.d (.int .i64 x.k),.d (.int .i64 x.x.k),.d (.int .i64 x.x.n),.d (.str x.x.s),.d (.sl (scs x.keys)),.d (.sl (Xad x.kids))]
abbrev Nd.v (x:Nd):V:=.agg x.as
abbrev nds (l:List Nd):List (List D):=l.map Nd.ds
structure Gr where
 root:Int
 l:List Nd
 deriving DecidableEq
abbrev Gr.as (g:Gr):List A:=[.d (.int .i64 g.root),.d (.sl (nds g.l))]
abbrev Gr.v (g:Gr):V:=.agg g.as
theorem Xab {α β:Type} {f:α->β} {l:List α} {i:Nat} {x:α} (h:l[i]?=some x):(l.map f)[i]?=some (f x):=by simp[h]
theorem Xaf {α:Type} {l:List α} {i:Nat} (h:i < l.length):∃ x,l[i]?=some x:=⟨_,List.getElem?_eq_getElem h⟩
theorem Xq4 (x:Int):Does QP gp 171 [vi x] (vb false):=by
 refine Wk5 ?_
 simp only[go_sem]
 repeat' first|refine Kn rfl ?_|(refine Kw ?_;simp only[go_sem])|refine Kf ?_|apply Kp<;>intro _
 all_goals simp
theorem Xq5 (x:ByteArray):Does QP gp 172 [vs x] (vb false):=by
 refine Wk9 ?_
 simp only[go_sem]
 repeat' first|refine Kn rfl ?_|(refine Kw ?_;simp only[go_sem])|refine Kf ?_|apply Kp<;>intro _
def Y3y (a b:Int):Int:=if a < b then -1 else if b < a then 1 else 0
theorem Xlo (x y:Int):Does QP gp 147 [vi x,vi y] (vi (Y3y x y)):=by
 refine Wjr ?_
 simp only[go_sem]
 repeat' first|refine Kn rfl ?_|(refine Kw ?_;simp only[go_sem])|refine Kf ?_|refine⟨_,Xq4 _,Kg ?_⟩|refine⟨_,⟨Xq4 _,rfl⟩,Kg ?_⟩|apply Kp<;>intro _
 all_goals (unfold Y3y;grind)
def W6u (a b:ByteArray):Int:=if Op.bytesLess a.toList b.toList then -1 else if Op.bytesLess a.toList b.toList || decide (a=b) then 0 else 1
theorem Xlp (x y:ByteArray):Does QP gp 148 [vs x,vs y] (vi (W6u x y)):=by
 refine Wjz ?_
 simp only[go_sem]
 repeat' first|refine Kn rfl ?_|(refine Kw ?_;simp only[go_sem])|refine Kf ?_|refine⟨_,Xq5 _,Kg ?_⟩|refine⟨_,⟨Xq5 _,rfl⟩,Kg ?_⟩|apply Kp<;>intro _
 all_goals (unfold W6u;grind)
def orI (l:List Int):Int:=(l.find? fun x=>x != 0).getD 0
theorem Yt9 {l:List Int} (h:∀ x∈l,x=0):orI l=0:=by
 unfold orI
 rw[List.find?_eq_none.2 fun x hx=>by simp[h x hx]];rfl
theorem W6v {l:List Int} {i:Nat} {x:Int} (h:∀ y∈l.take i,y=0) (hx:l[i]?=some x) (h0:x≠0):orI l=x:=by
 unfold orI
 have:l=l.take i++x::l.drop (i+1):=by
  obtain⟨hi,rfl⟩:=Kr.1 hx
  rw[<- List.drop_eq_getElem_cons hi,List.take_append_drop]
 rw[this,List.find?_append,List.find?_eq_none.2 fun y hy=>by simp[h y hy]]
 simp[h0]
theorem Xfn {α:Type} {l:List α} {p:α->Prop} {i:Nat} {x:α} (h:∀ y∈l.take i,p y) (hx:l[i]?=some x) (h0:p x):∀ y∈l.take (i+1),p y:=by
 intro y hy
 rw[List.take_succ,hx] at hy
 rcases List.mem_append.1 hy with hy|hy
 ·exact h y hy
 ·simp at hy;subst hy;exact h0
theorem Y3z (l:List Int):Does QP gp 146 [.one (.d (.sl (Xad l)))] (vi (orI l)):=by
 refine Wjj ?_
 simp only[go_sem]
 repeat' first|refine Kn rfl ?_|(refine Kw ?_;simp only[go_sem])|refine Kf ?_|apply Kp<;>intro _
 refine Xot 0 rfl fun hl=>?_
 refine Kt (fr 18 [(0,.one (.d (.sl (Xad l)))),(3,vi 0),(6,.one (.d (.sl (Xad l)))),(7,vi l.length),(8,vi (0:Nat))]) ?_
 refine Km (fun mz sz=>∃ i:Nat,i<=l.length/\mz=l.length - i/\(∀ y∈l.take i,y=0)/\sz=⟨fr 18 [(0,.one (.d (.sl (Xad l)))),(3,vi 0),(6,.one (.d (.sl (Xad l)))),(7,vi l.length),(8,vi i)],[]⟩) (l.length) ⟨0,Nat.zero_le _,(Nat.sub_zero _).symm,?_,rfl⟩ ?_
 ·simp
 rintro _ _ ⟨i,hi,rfl,hz,rfl⟩
 simp only[List.length_map] at hl
 simp only[go_sem]
 by_cases hil:i < l.length
 ·obtain⟨x,hx⟩:=Xaf hil
  repeat' first|refine Kn rfl ?_|(refine Kw ?_;simp only[go_sem])|refine Kf ?_|refine⟨_,⟨Kq _,(Xab hx),rfl⟩,Kg ?_⟩|apply Kp<;>intro _
  ·rename_i h;simp at h;rw[W6v hz hx h]
  ·refine⟨Xai hil hl,?_⟩
   rename_i h
   refine Kt (fr 18 [(0,.one (.d (.sl (Xad l)))),(3,vi 0),(6,.one (.d (.sl (Xad l)))),(7,vi l.length),(8,vi (i+1))]) ?_
   refine Kl ⟨l.length - (i+1),by omega,i+1,by omega,rfl,?_,rfl⟩
   exact Xfn hz hx (by simpa using h)
  ·omega
 ·repeat' (first|refine Kn rfl ?_|(refine Kw ?_;simp only[go_sem])|refine Kf ?_|apply Kp<;>intro _)
  ·omega
  ·rw[Yt9]
   rw[List.take_of_length_le (by omega)] at hz
   exact hz
def Xtd (x y:Sc):Int:=if x=y then 0 else orI [Y3y x.k y.k,Y3y x.n y.n,W6u x.s y.s]
theorem Xq6 (x y:Sc):(x.k==y.k && (x.n==y.n && decide (x.s=y.s)))=decide (x=y):=by
 cases x;cases y;simp only[Sc.mk.injEq];grind
theorem Yfg (x y:Sc):Does QP gp 116 [x.v,y.v] (vi (Xtd x y)):=by
 refine Whc ?_
 simp only[go_sem]
 repeat' first|refine Kn rfl ?_|(refine Kw ?_;simp only[Xq6,go_sem])|refine Kf ?_|refine⟨_,Xlo _ _,Kg ?_⟩|refine⟨_,⟨Xlo _ _,rfl⟩,Kg ?_⟩|refine⟨_,Xlp _ _,Kg ?_⟩|refine⟨_,⟨Xlp _ _,rfl⟩,Kg ?_⟩|refine⟨_,Y3z [_,_,_],Kg ?_⟩|refine⟨_,⟨Y3z [_,_,_],rfl⟩,Kg ?_⟩|apply Kp<;>intro _
 all_goals (rename_i h;simp[Xtd,h])
theorem Xiw {α:Type} {l m:List α} {i:Nat} {x y:α} (h:l.take i=m.take i) (hx:l[i]?=some x) (hy:m[i]?=some y) (e:x=y):l.take (i+1)=m.take (i+1):=by
 rw[List.take_succ,List.take_succ,h,hx,hy,e]
theorem X2d {α:Type} {l m:List α} {i:Nat} {x y:α} (hx:l[i]?=some x) (hy:m[i]?=some y) (e:x≠y):l≠m:=by
 rintro rfl;rw[hx] at hy;cases hy;exact e rfl
theorem Xng {α:Type} {l m:List α} (e:((l.length:Int) != (m.length:Int))=true):l≠m:=by
 rintro rfl;simp at e
theorem Wnw (l m:List Int):Does QP gp 130 [.one (.d (.sl (Xad l))),.one (.d (.sl (Xad m)))] (vb (decide (l=m))):=by
 refine Wim ?_
 simp only[go_sem]
 repeat' first|refine Kn rfl ?_|(refine Kw ?_;simp only[go_sem])|refine Kf ?_|apply Kp<;>intro _
 ·rename_i h;simp[Xng h]
 ·rename_i h
  have hlen:l.length=m.length:=by simp at h;omega
  refine Xot 0 rfl fun hl=>?_
  refine Kt (fr 26 [(0,.one (.d (.sl (Xad l)))),(1,.one (.d (.sl (Xad m)))),(5,vi (0:Nat))]) ?_
  refine Km (fun mz sz=>∃ i:Nat,i<=l.length/\mz=l.length - i/\(l.take i=m.take i)/\sz=⟨fr 26 [(0,.one (.d (.sl (Xad l)))),(1,.one (.d (.sl (Xad m)))),(5,vi i)],[]⟩) (l.length) ⟨0,Nat.zero_le _,(Nat.sub_zero _).symm,?_,rfl⟩ ?_
  ·simp
  rintro _ _ ⟨i,hi,rfl,hz,rfl⟩
  simp only[List.length_map] at hl
  simp only[go_sem]
  by_cases hil:i < l.length
  ·obtain⟨x,hx⟩:=Xaf hil
   obtain⟨y,hy⟩:=Xaf (l:=m) (i:=i) (by omega)
   repeat' first|refine Kn rfl ?_|(refine Kw ?_;simp only[go_sem])|refine Kf ?_|refine⟨_,⟨Kq _,(Xab hx),rfl⟩,Kg ?_⟩|refine⟨_,⟨Kq _,(Xab hy),rfl⟩,Kg ?_⟩|apply Kp<;>intro _
   ·rename_i h;simp[X2d hx hy (by simpa using h)]
   ·refine⟨Xai hil hl,?_⟩
    rename_i h
    refine Kt (fr 26 [(0,.one (.d (.sl (Xad l)))),(1,.one (.d (.sl (Xad m)))),(5,vi (i+1))]) ?_
    refine Kl ⟨l.length - (i+1),by omega,i+1,by omega,rfl,?_,rfl⟩
    exact Xiw hz hx hy (by simpa using h)
   ·omega
  ·repeat' (first|refine Kn rfl ?_|(refine Kw ?_;simp only[go_sem])|refine Kf ?_|apply Kp<;>intro _)
   ·omega
   ·rw[List.take_of_length_le (by omega),List.take_of_length_le (by omega)] at hz
    simp[hz]
theorem Yua (l m:List Sc):Does QP gp 129 [.one (.d (.sl (scs l))),.one (.d (.sl (scs m)))] (vb (decide (l=m))):=by
 refine Wif ?_
 simp only[go_sem]
 repeat' first|refine Kn rfl ?_|(refine Kw ?_;simp only[go_sem])|refine Kf ?_|apply Kp<;>intro _
 ·rename_i h;simp[Xng h]
 ·rename_i h
  have hlen:l.length=m.length:=by simp at h;omega
  refine Xot 0 rfl fun hl=>?_
  refine Kt (fr 26 [(0,.one (.d (.sl (scs l)))),(1,.one (.d (.sl (scs m)))),(5,vi (0:Nat))]) ?_
  refine Km (fun mz sz=>∃ i:Nat,i<=l.length/\mz=l.length - i/\(l.take i=m.take i)/\sz=⟨fr 26 [(0,.one (.d (.sl (scs l)))),(1,.one (.d (.sl (scs m)))),(5,vi i)],[]⟩) (l.length) ⟨0,Nat.zero_le _,(Nat.sub_zero _).symm,?_,rfl⟩ ?_
  ·simp
  rintro _ _ ⟨i,hi,rfl,hz,rfl⟩
  simp only[List.length_map] at hl
  simp only[go_sem]
  by_cases hil:i < l.length
  ·obtain⟨x,hx⟩:=Xaf hil
   obtain⟨y,hy⟩:=Xaf (l:=m) (i:=i) (by omega)
   repeat' first|refine Kn rfl ?_|(refine Kw ?_;simp only[Xq6,go_sem])|refine Kf ?_|refine⟨_,⟨Kq _,(Xab hx),rfl⟩,Kg ?_⟩|refine⟨_,⟨Kq _,(Xab hy),rfl⟩,Kg ?_⟩|apply Kp<;>intro _
   ·rename_i h;simp[X2d hx hy (by simpa using h)]
   ·refine⟨Xai hil hl,?_⟩
    rename_i h
    refine Kt (fr 26 [(0,.one (.d (.sl (scs l)))),(1,.one (.d (.sl (scs m)))),(5,vi (i+1))]) ?_
    refine Kl ⟨l.length - (i+1),by omega,i+1,by omega,rfl,?_,rfl⟩
    exact Xiw hz hx hy (by simpa using h)
   ·omega
  ·repeat' (first|refine Kn rfl ?_|(refine Kw ?_;simp only[go_sem])|refine Kf ?_|apply Kp<;>intro _)
   ·omega
   ·rw[List.take_of_length_le (by omega),List.take_of_length_le (by omega)] at hz
    simp[hz]
theorem Y30 (l m:List Sc):Does QP gp 44 [.one (.d (.sl (scs l))),.one (.d (.sl (scs m)))] (vb (decide (l=m))):=by
 refine W1i ?_
 simp only[go_sem]
 repeat' first|refine Kn rfl ?_|(refine Kw ?_;simp only[go_sem])|refine Kf ?_|apply Kp<;>intro _
 ·rename_i h;simp[Xng h]
 ·rename_i h
  have hlen:l.length=m.length:=by simp at h;omega
  refine Xot 0 rfl fun hl=>?_
  refine Kt (fr 26 [(0,.one (.d (.sl (scs l)))),(1,.one (.d (.sl (scs m)))),(12,vi l.length),(13,vi (0:Nat))]) ?_
  refine Km (fun mz sz=>∃ i:Nat,i<=l.length/\mz=l.length - i/\(l.take i=m.take i)/\sz=⟨fr 26 [(0,.one (.d (.sl (scs l)))),(1,.one (.d (.sl (scs m)))),(12,vi l.length),(13,vi i)],[]⟩) (l.length) ⟨0,Nat.zero_le _,(Nat.sub_zero _).symm,?_,rfl⟩ ?_
  ·simp
  rintro _ _ ⟨i,hi,rfl,hz,rfl⟩
  simp only[List.length_map] at hl
  simp only[go_sem]
  by_cases hil:i < l.length
  ·obtain⟨x,hx⟩:=Xaf hil
   obtain⟨y,hy⟩:=Xaf (l:=m) (i:=i) (by omega)
   repeat' first|refine Kn rfl ?_|(refine Kw ?_;simp only[Xq6,go_sem])|refine Kf ?_|refine⟨_,⟨Kq _,(Xab hx),rfl⟩,Kg ?_⟩|refine⟨_,⟨Kq _,(Xab hy),rfl⟩,Kg ?_⟩|apply Kp<;>intro _
   ·rename_i h;simp[X2d hx hy (by simpa using h)]
   ·refine⟨Xai hil hl,?_⟩
    rename_i h
    refine Kt (fr 26 [(0,.one (.d (.sl (scs l)))),(1,.one (.d (.sl (scs m)))),(12,vi l.length),(13,vi (i+1))]) ?_
    refine Kl ⟨l.length - (i+1),by omega,i+1,by omega,rfl,?_,rfl⟩
    exact Xiw hz hx hy (by simpa using h)
   ·omega
  ·repeat' (first|refine Kn rfl ?_|(refine Kw ?_;simp only[go_sem])|refine Kf ?_|apply Kp<;>intro _)
   ·omega
   ·rw[List.take_of_length_le (by omega),List.take_of_length_le (by omega)] at hz
    simp[hz]
theorem Yfh (l m:List Int):Does QP gp 45 [.one (.d (.sl (Xad l))),.one (.d (.sl (Xad m)))] (vb (decide (l=m))):=by
 refine W1p ?_
 simp only[go_sem]
 repeat' first|refine Kn rfl ?_|(refine Kw ?_;simp only[go_sem])|refine Kf ?_|apply Kp<;>intro _
 ·rename_i h;simp[Xng h]
 ·rename_i h
  have hlen:l.length=m.length:=by simp at h;omega
  refine Xot 0 rfl fun hl=>?_
  refine Kt (fr 26 [(0,.one (.d (.sl (Xad l)))),(1,.one (.d (.sl (Xad m)))),(12,vi l.length),(13,vi (0:Nat))]) ?_
  refine Km (fun mz sz=>∃ i:Nat,i<=l.length/\mz=l.length - i/\(l.take i=m.take i)/\sz=⟨fr 26 [(0,.one (.d (.sl (Xad l)))),(1,.one (.d (.sl (Xad m)))),(12,vi l.length),(13,vi i)],[]⟩) (l.length) ⟨0,Nat.zero_le _,(Nat.sub_zero _).symm,?_,rfl⟩ ?_
  ·simp
  rintro _ _ ⟨i,hi,rfl,hz,rfl⟩
  simp only[List.length_map] at hl
  simp only[go_sem]
  by_cases hil:i < l.length
  ·obtain⟨x,hx⟩:=Xaf hil
   obtain⟨y,hy⟩:=Xaf (l:=m) (i:=i) (by omega)
   repeat' first|refine Kn rfl ?_|(refine Kw ?_;simp only[go_sem])|refine Kf ?_|refine⟨_,⟨Kq _,(Xab hx),rfl⟩,Kg ?_⟩|refine⟨_,⟨Kq _,(Xab hy),rfl⟩,Kg ?_⟩|apply Kp<;>intro _
   ·rename_i h;simp[X2d hx hy (by simpa using h)]
   ·refine⟨Xai hil hl,?_⟩
    rename_i h
    refine Kt (fr 26 [(0,.one (.d (.sl (Xad l)))),(1,.one (.d (.sl (Xad m)))),(12,vi l.length),(13,vi (i+1))]) ?_
    refine Kl ⟨l.length - (i+1),by omega,i+1,by omega,rfl,?_,rfl⟩
    exact Xiw hz hx hy (by simpa using h)
   ·omega
  ·repeat' (first|refine Kn rfl ?_|(refine Kw ?_;simp only[go_sem])|refine Kf ?_|apply Kp<;>intro _)
   ·omega
   ·rw[List.take_of_length_le (by omega),List.take_of_length_le (by omega)] at hz
    simp[hz]
def Jef (s:ByteArray):ByteArray:=s.extract 0 (min s.size 100)
theorem Yfi (s:ByteArray):Does QP gp 34 [vs s] (vs (Jef s)):=by
 refine W0z ?_
 simp only[go_sem]
 repeat' first|refine Kn rfl ?_|(refine Kw ?_;simp only[go_sem])|refine Kf ?_|apply Kp<;>intro _
 refine⟨0,min s.size 100,⟨rfl,by split <;> omega,by omega,by omega⟩,Kg ?_⟩
 repeat' first|refine Kn rfl ?_|(refine Kw ?_;simp only[go_sem])|refine Kf ?_|apply Kp<;>intro _
 rfl
def Sc.cut (x:Sc):Sc:=⟨x.k,x.n,Jef x.s⟩
theorem Xy1 (x:Sc):Does QP gp 18 [x.v] x.cut.v:=by
 refine Wzt ?_
 simp only[go_sem]
 repeat' first|refine Kn rfl ?_|(refine Kw ?_;simp only[go_sem])|refine Kf ?_|refine⟨_,Yfi _,Kg ?_⟩|refine⟨_,⟨Yfi _,rfl⟩,Kg ?_⟩|apply Kp<;>intro _
 exact⟨rfl,rfl,rfl⟩
theorem Xj1 (root i:Int) (l:List (List D)):Does QP gp 108 [.agg [.d (.int .i64 root),.d (.sl l)],vi i] (vb (decide (0<=i/\i < l.length))):=by
 refine Wgo ?_
 simp only[go_sem]
 repeat' first|refine Kn rfl ?_|(refine Kw ?_;simp only[go_sem])|refine Kf ?_|apply Kp<;>intro _
 all_goals grind
abbrev Nd.vd (x:Nd) (n:Int):List D:=x.ds++[.int .i64 n]
abbrev Nd.vw (x:Nd) (n:Int):V:=.agg (x.as++[.d (.int .i64 n)])
theorem Xh5 (x:Nd) (n:Int):Does QP gp 113 [x.vw n] (vb (decide (x.keys.length=x.kids.length))):=by
 refine Wg1 ?_
 simp only[go_sem]
 repeat' first|refine Kn rfl ?_|(refine Kw ?_;simp only[go_sem])|refine Kf ?_|apply Kp<;>intro _
 grind
def Nd.zero:Nd:=⟨0,⟨0,0,⟨#[]⟩⟩,[],[]⟩
def Xbr (l:List Nd) (i:Int):Nd:=if 0<=i/\i < l.length then (l[i.toNat]?).getD Nd.zero else Nd.zero
def atN (l:List Nd) (i:Int):Int:=if 0<=i/\i < l.length then l.length else 0
def atE (l:List Nd) (i:Int):Int:=if 0<=i/\i < l.length then 0 else 2
theorem Yfj (g:Gr) (i:Int):Does QP gp 74 [g.v,vi i] (.tup [(Xbr g.l i).vw (atN g.l i),vi (atE g.l i)]):=by
 refine W37 ?_
 simp only[go_sem]
 repeat' first|refine Kn rfl ?_|(refine Kw ?_;simp only[go_sem])|refine Kf ?_|refine⟨_,Xj1 _ _ _,Kg ?_⟩|refine⟨_,⟨Xj1 _ _ _,rfl⟩,Kg ?_⟩|apply Kp<;>intro _
 ·rename_i h
  have h:¬ (0<=i/\i < (g.l.length:Int)):=by intro h2;simp[h2] at h
  simp only[Xbr,atN,atE,if_neg h]
  simp[Nd.zero]
 ·rename_i h
  have h:0<=i/\i < (g.l.length:Int):=Classical.byContradiction fun h2=>by simp[h2] at h
  obtain⟨n,rfl⟩:=Int.eq_ofNat_of_zero_le h.1
  obtain⟨x,hx⟩:=Xaf (l:=g.l) (i:=n) (by omega)
  have hr:Xbr g.l n=x:=by simp only[Xbr,if_pos h,Int.toNat_natCast,hx,Option.getD_some]
  rw[hr]
  refine⟨_,⟨Kq _,(by rw[Int.toNat_natCast];exact Xab hx),rfl⟩,Kg ?_⟩
  simp only[go_sem]
  repeat' first|refine Kn rfl ?_|(refine Kw ?_;simp only[go_sem])|refine Kf ?_|apply Kp<;>intro _
  simp[atN,atE,h]
theorem Jgq (x y:Nd):Does QP gp 43 [x.v,y.v] (vb (decide (x.k=y.k/\x.x=y.x/\x.keys=y.keys/\x.kids=y.kids))):=by
 refine W1b ?_
 simp only[go_sem]
 repeat' first|refine Kn rfl ?_|(refine Kw ?_;simp only[Xq6,go_sem])|refine Kf ?_|refine⟨_,Y30 _ _,Kg ?_⟩|refine⟨_,⟨Y30 _ _,rfl⟩,Kg ?_⟩|refine⟨_,Yfh _ _,Kg ?_⟩|refine⟨_,⟨Yfh _ _,rfl⟩,Kg ?_⟩|apply Kp<;>intro _
 all_goals grind
theorem Jgr (x y:Nd):(x.k=y.k/\x.x=y.x/\x.keys=y.keys/\x.kids=y.kids)↔x=y:=by
 cases x;cases y;simp
theorem Y31 (x y:Nd):Does QP gp 43 [x.v,y.v] (vb (decide (x=y))):=by
 have:=Jgq (gp:=gp) x y
 simpa only [Jgr] using this
theorem Y32 (l m:List Nd):Does QP gp 46 [.one (.d (.sl (nds l))),.one (.d (.sl (nds m))),.one (.d (.fn (.func 43) []))] (vb (decide (l=m))):=by
 refine W1w ?_
 simp only[go_sem]
 repeat' first|refine Kn rfl ?_|(refine Kw ?_;simp only[go_sem])|refine Kf ?_|apply Kp<;>intro _
 ·rename_i h;simp[Xng h]
 ·rename_i h
  have hlen:l.length=m.length:=by simp at h;omega
  refine Xot 0 rfl fun hl=>?_
  refine Kt (fr 32 [(0,.one (.d (.sl (nds l)))),(1,.one (.d (.sl (nds m)))),(2,.one (.d (.fn (.func 43) []))),(15,.one (.d (.sl (nds l)))),(16,vi l.length),(17,vi (0:Nat))]) ?_
  refine Km (fun mz sz=>∃ i:Nat,i<=l.length/\mz=l.length - i/\(l.take i=m.take i)/\sz=⟨fr 32 [(0,.one (.d (.sl (nds l)))),(1,.one (.d (.sl (nds m)))),(2,.one (.d (.fn (.func 43) []))),(15,.one (.d (.sl (nds l)))),(16,vi l.length),(17,vi i)],[]⟩) (l.length) ⟨0,Nat.zero_le _,(Nat.sub_zero _).symm,?_,rfl⟩ ?_
  ·simp
  rintro _ _ ⟨i,hi,rfl,hz,rfl⟩
  simp only[List.length_map] at hl
  simp only[go_sem]
  by_cases hil:i < l.length
  ·obtain⟨x,hx⟩:=Xaf hil
   obtain⟨y,hy⟩:=Xaf (l:=m) (i:=i) (by omega)
   repeat' first|refine Kn rfl ?_|(refine Kw ?_;simp only[go_sem])|refine Kf ?_|refine⟨_,Y31 _ _,Kg ?_⟩|refine⟨_,⟨Y31 _ _,rfl⟩,Kg ?_⟩|refine⟨_,⟨Kq _,(Xab hx),rfl⟩,Kg ?_⟩|refine⟨_,⟨Kq _,(Xab hy),rfl⟩,Kg ?_⟩|apply Kp<;>intro _
   ·rename_i h;simp[X2d hx hy (by simpa using h)]
   ·refine⟨Xai hil hl,?_⟩
    rename_i h
    refine Kt (fr 32 [(0,.one (.d (.sl (nds l)))),(1,.one (.d (.sl (nds m)))),(2,.one (.d (.fn (.func 43) []))),(15,.one (.d (.sl (nds l)))),(16,vi l.length),(17,vi (i+1))]) ?_
    refine Ku 0 ?_
    simp only[go_sem]
    refine Kl ⟨l.length - (i+1),by omega,i+1,by omega,rfl,?_,rfl⟩
    exact Xiw hz hx hy (by simpa using h)
   ·omega
  ·repeat' (first|refine Kn rfl ?_|(refine Kw ?_;simp only[go_sem])|refine Kf ?_|apply Kp<;>intro _)
   ·omega
   ·rw[List.take_of_length_le (by omega),List.take_of_length_le (by omega)] at hz
    simp[hz]
theorem W6w (g h:Gr):(g.root==h.root && decide (g.l=h.l))=decide (g=h):=by
 cases g;cases h;simp only[Gr.mk.injEq];grind
theorem Xow (g h:Gr):Does QP gp 23 [g.v,h.v] (vb (decide (g=h))):=by
 refine Wz3 ?_
 simp only[go_sem]
 repeat' first|refine Kn rfl ?_|(refine Kw ?_;simp only[go_sem])|refine Kf ?_|refine⟨_,Y32 _ _,Kg ?_⟩|refine⟨_,⟨Y32 _ _,rfl⟩,Kg ?_⟩|apply Kp<;>intro _
 all_goals (rw[<- W6w];simp_all)
abbrev bls (l:List Bool):List (List D):=l.map fun b=>[.bool b]
def X3d {α:Type} (p:α->Bool) (l:List α):Int:=if l.any p then (l.findIdx p:Int) else -1
theorem Xh6 {α:Type} {p:α->Bool} {l:List α} (h:∀ y∈l,p y=false):X3d p l=-1:=by
 unfold X3d
 rw[if_neg]
 simp only[List.any_eq_true,not_exists,not_and]
 intro y hy;simp[h y hy]
theorem Xox {α:Type} {p:α->Bool} {l:List α} {i:Nat} {x:α} (h:∀ y∈l.take i,p y=false) (hx:l[i]?=some x) (h0:p x=true):X3d p l=i:=by
 obtain⟨hi,rfl⟩:=Kr.1 hx
 unfold X3d
 rw[if_pos (List.any_eq_true.2 ⟨l[i],List.getElem_mem hi,h0⟩)]
 have:l.findIdx p=i:=by
  rw[List.findIdx_eq hi]
  refine⟨h0,fun j hj=>?_⟩
  have:l[j]∈l.take i:=by
   rw[List.mem_take_iff_getElem]
   exact⟨j,by omega,rfl⟩
  exact h _ this
 rw[this]
theorem Xj2 {α:Type} (p:α->Bool) (l:List α):decide (X3d p l >= 0)=l.any p:=by
 unfold X3d
 split
 ·rename_i h;simp[h]
 ·rename_i h;simp at h;simp;exact h
theorem Xnh (l:List Bool) (v:Bool):Does QP gp 203 [.one (.d (.sl (bls l))),vb v] (vi (X3d (fun y=>v==y) l)):=by
 refine Wmv ?_
 simp only[go_sem]
 repeat' first|refine Kn rfl ?_|(refine Kw ?_;simp only[go_sem])|refine Kf ?_|apply Kp<;>intro _
 refine Xot 0 rfl fun hl=>?_
 refine Kt (fr 19 [(0,.one (.d (.sl (bls l)))),(1,vb v),(7,vi l.length),(8,vi (0:Nat))]) ?_
 refine Km (fun mz sz=>∃ i:Nat,i<=l.length/\mz=l.length - i/\(∀ y∈l.take i,(v==y)=false)/\sz=⟨fr 19 [(0,.one (.d (.sl (bls l)))),(1,vb v),(7,vi l.length),(8,vi i)],[]⟩) (l.length) ⟨0,Nat.zero_le _,(Nat.sub_zero _).symm,?_,rfl⟩ ?_
 ·simp
 rintro _ _ ⟨i,hi,rfl,hz,rfl⟩
 simp only[List.length_map] at hl
 simp only[go_sem]
 by_cases hil:i < l.length
 ·obtain⟨x,hx⟩:=Xaf hil
  repeat' first|refine Kn rfl ?_|(refine Kw ?_;simp only[go_sem])|refine Kf ?_|refine⟨_,⟨Kq _,(Xab hx),rfl⟩,Kg ?_⟩|apply Kp<;>intro _
  ·rename_i h;rw[Xox hz hx h]
  ·refine⟨Xai hil hl,?_⟩
   rename_i h
   refine Kt (fr 19 [(0,.one (.d (.sl (bls l)))),(1,vb v),(7,vi l.length),(8,vi (i+1))]) ?_
   refine Kl ⟨l.length - (i+1),by omega,i+1,by omega,rfl,?_,rfl⟩
   exact Xfn hz hx (by simpa using h)
  ·omega
 ·repeat' (first|refine Kn rfl ?_|(refine Kw ?_;simp only[go_sem])|refine Kf ?_|apply Kp<;>intro _)
  ·omega
  ·rw[List.take_of_length_le (by omega)] at hz
   rw[Xh6 hz]
theorem Xh7 (l:List Bool) (v:Bool):Does QP gp 187 [.one (.d (.sl (bls l))),vb v] (vb (l.any fun y=>v==y)):=by
 refine Wls ?_
 simp only[go_sem]
 repeat' first|refine Kn rfl ?_|(refine Kw ?_;simp only[go_sem])|refine Kf ?_|refine⟨_,Xnh _ _,Kg ?_⟩|refine⟨_,⟨Xnh _ _,rfl⟩,Kg ?_⟩|apply Kp<;>intro _
 exact Xj2 _ _
theorem Xix (l:List Bool):Does QP gp 166 [.one (.d (.sl (bls l)))] (vb (l.all id)):=by
 refine Wkm ?_
 simp only[go_sem]
 repeat' first|refine Kn rfl ?_|(refine Kw ?_;simp only[go_sem])|refine Kf ?_|refine⟨_,Xh7 _ _,Kg ?_⟩|refine⟨_,⟨Xh7 _ _,rfl⟩,Kg ?_⟩|apply Kp<;>intro _
 induction l <;> simp_all
theorem Xni (l:List Int) (f:FuncId) (c:D) (p:Int->Bool) (hp:∀ x,Does QP gp f [vi x,.one (.d c)] (vb (p x))) :
  Does QP gp 204 [.one (.d (.sl (Xad l))),.one (.d (.fn (.func f) [c]))] (vi (X3d p l)):=by
 refine Wm3 ?_
 simp only[go_sem]
 repeat' first|refine Kn rfl ?_|(refine Kw ?_;simp only[go_sem])|refine Kf ?_|apply Kp<;>intro _
 refine Xot 0 rfl fun hl=>?_
 refine Kt (fr 19 [(0,.one (.d (.sl (Xad l)))),(1,.one (.d (.fn (.func f) [c]))),(7,vi l.length),(8,vi (0:Nat))]) ?_
 refine Km (fun mz sz=>∃ i:Nat,i<=l.length/\mz=l.length - i/\(∀ y∈l.take i,p y=false)/\sz=⟨fr 19 [(0,.one (.d (.sl (Xad l)))),(1,.one (.d (.fn (.func f) [c]))),(7,vi l.length),(8,vi i)],[]⟩) (l.length) ⟨0,Nat.zero_le _,(Nat.sub_zero _).symm,?_,rfl⟩ ?_
 ·simp
 rintro _ _ ⟨i,hi,rfl,hz,rfl⟩
 simp only[List.length_map] at hl
 simp only[go_sem]
 by_cases hil:i < l.length
 ·obtain⟨x,hx⟩:=Xaf hil
  repeat' first|refine Kn rfl ?_|(refine Kw ?_;simp only[go_sem])|refine Kf ?_|refine⟨_,hp _,Kg ?_⟩|refine⟨_,⟨hp _,rfl⟩,Kg ?_⟩|refine⟨_,⟨Kq _,(Xab hx),rfl⟩,Kg ?_⟩|apply Kp<;>intro _
  ·rename_i h;rw[Xox hz hx h]
  ·refine⟨Xai hil hl,?_⟩
   rename_i h
   refine Kt (fr 19 [(0,.one (.d (.sl (Xad l)))),(1,.one (.d (.fn (.func f) [c]))),(7,vi l.length),(8,vi (i+1))]) ?_
   refine Kl ⟨l.length - (i+1),by omega,i+1,by omega,rfl,?_,rfl⟩
   exact Xfn hz hx (by simpa using h)
  ·omega
 ·repeat' (first|refine Kn rfl ?_|(refine Kw ?_;simp only[go_sem])|refine Kf ?_|apply Kp<;>intro _)
  ·omega
  ·rw[List.take_of_length_le (by omega)] at hz
   rw[Xh6 hz]
theorem Xh8 (l:List Int) (f:FuncId) (c:D) (p:Int->Bool) (hp:∀ x,Does QP gp f [vi x,.one (.d c)] (vb (p x))) :
  Does QP gp 189 [.one (.d (.sl (Xad l))),.one (.d (.fn (.func f) [c]))] (vb (l.any p)):=by
 refine Wl0 ?_
 simp only[go_sem]
 repeat' first|refine Kn rfl ?_|(refine Kw ?_;simp only[go_sem])|refine Kf ?_|refine⟨_,Xni _ _ _ _ hp,Kg ?_⟩|refine⟨_,⟨Xni _ _ _ _ hp,rfl⟩,Kg ?_⟩|apply Kp<;>intro _
 exact Xj2 _ _
theorem Xq7 (l:List Sc) (f:FuncId) (p:Sc->Bool) (hp:∀ x,Does QP gp f [x.v] (vb (p x))) :
  Does QP gp 205 [.one (.d (.sl (scs l))),.one (.d (.fn (.func f) []))] (vi (X3d p l)):=by
 refine Wnb ?_
 simp only[go_sem]
 repeat' first|refine Kn rfl ?_|(refine Kw ?_;simp only[go_sem])|refine Kf ?_|apply Kp<;>intro _
 refine Xot 0 rfl fun hl=>?_
 refine Kt (fr 19 [(0,.one (.d (.sl (scs l)))),(1,.one (.d (.fn (.func f) []))),(7,vi l.length),(8,vi (0:Nat))]) ?_
 refine Km (fun mz sz=>∃ i:Nat,i<=l.length/\mz=l.length - i/\(∀ y∈l.take i,p y=false)/\sz=⟨fr 19 [(0,.one (.d (.sl (scs l)))),(1,.one (.d (.fn (.func f) []))),(7,vi l.length),(8,vi i)],[]⟩) (l.length) ⟨0,Nat.zero_le _,(Nat.sub_zero _).symm,?_,rfl⟩ ?_
 ·simp
 rintro _ _ ⟨i,hi,rfl,hz,rfl⟩
 simp only[List.length_map] at hl
 simp only[go_sem]
 by_cases hil:i < l.length
 ·obtain⟨x,hx⟩:=Xaf hil
  repeat' first|refine Kn rfl ?_|(refine Kw ?_;simp only[go_sem])|refine Kf ?_|refine⟨_,hp _,Kg ?_⟩|refine⟨_,⟨hp _,rfl⟩,Kg ?_⟩|refine⟨_,⟨Kq _,(Xab hx),rfl⟩,Kg ?_⟩|apply Kp<;>intro _
  ·rename_i h;rw[Xox hz hx h]
  ·refine⟨Xai hil hl,?_⟩
   rename_i h
   refine Kt (fr 19 [(0,.one (.d (.sl (scs l)))),(1,.one (.d (.fn (.func f) []))),(7,vi l.length),(8,vi (i+1))]) ?_
   refine Kl ⟨l.length - (i+1),by omega,i+1,by omega,rfl,?_,rfl⟩
   exact Xfn hz hx (by simpa using h)
  ·omega
 ·repeat' (first|refine Kn rfl ?_|(refine Kw ?_;simp only[go_sem])|refine Kf ?_|apply Kp<;>intro _)
  ·omega
  ·rw[List.take_of_length_le (by omega)] at hz
   rw[Xh6 hz]
theorem Xjn (l:List Sc) (f:FuncId) (p:Sc->Bool) (hp:∀ x,Does QP gp f [x.v] (vb (p x))) :
  Does QP gp 191 [.one (.d (.sl (scs l))),.one (.d (.fn (.func f) []))] (vb (l.any p)):=by
 refine Wl8 ?_
 simp only[go_sem]
 repeat' first|refine Kn rfl ?_|(refine Kw ?_;simp only[go_sem])|refine Kf ?_|refine⟨_,Xq7 _ _ _ hp,Kg ?_⟩|refine⟨_,⟨Xq7 _ _ _ hp,rfl⟩,Kg ?_⟩|apply Kp<;>intro _
 exact Xj2 _ _
theorem Xq8 (x:Nd) (n i:Int):Does QP gp 188 [vi i,.one (.d (.bx (x.vd n)))] (vb (decide (i < 0) || decide (i >= n))):=by
 refine Wlw ?_
 simp only[go_sem]
 repeat' first|refine Kn rfl ?_|(refine Kw ?_;simp only[go_sem])|refine Kf ?_|apply Kp<;>intro _
 all_goals grind
def Xcq (l:List Int) (n:Int):Bool:=l.all fun i=>decide (0<=i) && decide (i < n)
theorem Xj3 (x:Nd) (n:Int):Does QP gp 167 [x.vw n] (vb (Xcq x.kids n)):=by
 refine Wkr ?_
 simp only[go_sem]
 repeat' first|refine Kn rfl ?_|(refine Kw ?_;simp only[go_sem])|refine Kf ?_|refine⟨_,Xh8 _ _ _ _ (Xq8 x n),Kg ?_⟩|refine⟨_,⟨Xh8 _ _ _ _ (Xq8 x n),rfl⟩,Kg ?_⟩|apply Kp<;>intro _
 unfold Xcq
 generalize x.kids=l
 induction l with
 | nil=>rfl
 | cons a l ih=>simp only[List.any_cons,List.all_cons,Bool.not_or,ih];congr 1;grind
def Xfw:Int:=999999999999999
def prR (R:ByteArray->Bool) (x:Sc):Bool :=
 if x.k=0 then decide (x=⟨0,0,⟨#[]⟩⟩)
 else if x.k=1 then decide (x.s=⟨#[]⟩) && (decide (x.n=0) || decide (x.n=1))
 else if x.k=2 then decide (x.s=⟨#[]⟩) && (decide (-Xfw<=x.n) && decide (x.n<=Xfw))
 else if x.k=3 then decide (x.n=0) && R x.s else false
theorem Xoy (x:Sc):(x.k==0 && (x.n==0 && decide (x.s=⟨#[]⟩)))=decide (x=⟨0,0,⟨#[]⟩⟩):=Xq6 x ⟨0,0,⟨#[]⟩⟩
theorem Xd4 (R:ByteArray->Bool) (hR:∀ s,Does QP gp 63 [vs s] (vb (R s))) (x:Sc):Does QP gp 35 [x.v] (vb (prR R x)):=by
 refine W07 ?_
 simp only[go_sem]
 repeat' first|refine Kn rfl ?_|(refine Kw ?_;simp only[Xoy,go_sem])|refine Kf ?_|refine⟨_,hR _,Kg ?_⟩|refine⟨_,⟨hR _,rfl⟩,Kg ?_⟩|apply Kp<;>intro _
 all_goals (first|(unfold prR Xfw;grind)|trace_state)
theorem Xq9 (R:ByteArray->Bool) (hR:∀ s,Does QP gp 63 [vs s] (vb (R s))) (x:Sc):Does QP gp 190 [x.v] (vb (!prR R x)):=by
 refine Wl4 ?_
 simp only[go_sem]
 repeat' first|refine Kn rfl ?_|(refine Kw ?_;simp only[go_sem])|refine Kf ?_|refine⟨_,Xd4 R hR _,Kg ?_⟩|refine⟨_,⟨Xd4 R hR _,rfl⟩,Kg ?_⟩|apply Kp<;>intro _
 try rfl
section
variable {α:Type} [DecidableEq α] {kag:Bool} {ks:List Leaf} {kv:α->V} {v:V}
theorem Xlq (he:∀ a b,eqV kag ks (kv a) (kv b)=some (decide (a=b))):∀ (l:List α) (x:α),Xdz kag ks (l.map fun a=>(kv a,v)) (kv x)=some (if x∈l then some v else none)
 | [],x=>by simp[Xdz]
 | a::l,x=>by
  simp only[List.map_cons,Xdz,he]
  by_cases h:x=a
  ·simp[h]
  ·simp only[h,decide_false,Xlq he l x,List.mem_cons,false_or]
theorem Xoz (he:∀ a b,eqV kag ks (kv a) (kv b)=some (decide (a=b))):∀ (l:List α) (x:α),x ∉ l->Xmx kag ks (l.map fun a=>(kv a,v)) (kv x) v=some ((l++[x]).map fun a=>(kv a,v))
 | [],x,_=>by simp[Xmx]
 | a::l,x,h=>by
  simp only[List.mem_cons,not_or] at h
  simp only[List.map_cons,Xmx,he,h.1,decide_false,Xoz he l x h.2,List.cons_append]
end
theorem Y33 (x y:Sc):eqV true [.i,.i,.s] x.v y.v=some (decide (x=y)):=by
 simp only[go_sem]
 rw[Xq6]
abbrev Yub (l:List Sc):List (V × V):=l.map fun a=>(Sc.v a,vb true)
theorem X2e (l:List Sc):(Ch.map (Yub l)).refs=[]:=by
 simp only[Ch.refs]
 rw[List.flatMap_eq_nil_iff]
 intro e he
 obtain⟨a,_,rfl⟩:=List.mem_map.1 he
 rfl
theorem W6x (l:List Sc):Does QP gp 206 [.one (.d (.sl (scs l)))] (.one (.d (.fn (.func 208) [.bx [.sl (scs l)]]))):=by
 refine Wnf ?_
 simp only[go_sem]
 repeat' first|refine Kn rfl ?_|(refine Kw ?_;simp only[go_sem])|refine Kf ?_|apply Kp<;>intro _
theorem Yuc {α:Type} [DecidableEq α] {l:List α} {i:Nat} {x:α} (hx:l[i]?=some x) (hm:x∈l.take i):¬ l.Nodup:=by
 intro h
 obtain⟨hi,rfl⟩:=Kr.1 hx
 rw[List.mem_take_iff_getElem] at hm
 obtain⟨j,hj,e⟩:=hm
 exact List.pairwise_iff_getElem.1 h j i (by omega) hi (by omega) e
theorem Xbx {α:Type} {l:List α} {i:Nat} {x:α} (hx:l[i]?=some x):l.take i++[x]=l.take (i+1):=by
 rw[List.take_succ,hx];rfl
theorem X2f {α:Type} {l:List α} {i:Nat} {x:α} (hx:l[i]?=some x) (hm:x ∉ l.take i) (h:(l.take i).Nodup):(l.take (i+1)).Nodup:=by
 rw[<- Xbx hx,List.nodup_append]
 refine⟨h,by simp,?_⟩
 intro a ha b hb;simp at hb;subst hb;rintro rfl;exact hm ha
theorem W6y (l:List Sc):Does QP gp 192 [.one (.d (.sl (scs l)))] (vb (!decide l.Nodup)):=by
 refine Wmg ?_
 simp only[go_sem]
 repeat' first|refine Kn rfl ?_|(refine Kw ?_;simp only[go_sem])|refine Kf ?_|refine⟨_,W6x _,Kg ?_⟩|refine⟨_,⟨W6x _,rfl⟩,Kg ?_⟩|apply Kp<;>intro _
 refine Wxo (f2:=208) (caps:=[.one (.d (.bx [.sl (scs l)]))]) (fun pd own'=>pd=none/\∃ n:Nat,own'.head?=some (.cells [.d (.int .i64 n)])/\decide ((n:Int) < l.length)=!decide l.Nodup) rfl ?_ Wnl ?_ ?_ ?_
 ·intro y;simp only[go_sem]
 ·rintro b rc hps ⟨hs,hta,htb⟩
  refine Yt8 ?_
  simp only[go_sem]
  repeat' first|refine Kn rfl ?_|(refine Kw ?_;simp only[go_sem])|refine Kf ?_|apply Kp<;>intro _
  refine Yym 1 0 rfl rfl fun hl=>?_
  simp only[List.length_map] at hl
  refine Kt (fr 25 [(0,.one (.d (.raw (.func (.yield b) #[] #[])))),(1,.one (.d (.bx [.sl (scs l)]))),(3,.one (.own 2 0)),(7,.one (.d (.sl (scs l)))),(8,vi l.length),(9,vi (0:Nat))]) ?_
  refine Km (fun mz sz=>∃ i:Nat,i<=l.length/\mz=l.length - i/\((l.take i).Nodup)/\sz=⟨fr 25 [(0,.one (.d (.raw (.func (.yield b) #[] #[])))),(1,.one (.d (.bx [.sl (scs l)]))),(3,.one (.own 2 0)),(7,.one (.d (.sl (scs l)))),(8,vi l.length),(9,vi i)],[.cells [.d (.int .i64 ((i:Nat):Int))],.lp b _ rc .ready none,.map (Yub (l.take i))]⟩) (l.length) ⟨0,Nat.zero_le _,(Nat.sub_zero _).symm,?_,rfl⟩ ?_
  ·simp
  rintro _ _ ⟨i,hi,rfl,hz,rfl⟩
  simp only[go_sem]
  by_cases hil:i < l.length
  ·obtain⟨x,hx⟩:=Xaf hil
   repeat' first|refine Kn rfl ?_|(refine Kw ?_;simp only[go_sem])|refine Kf ?_|refine⟨_,⟨Kq _,(Xab hx),rfl⟩,Kg ?_⟩|apply Kp<;>intro _
   ·have hf:=Xlq (v:=vb true) Y33 (l.take i) x
    by_cases hm:x∈l.take i
    ·simp only[hm,if_true] at hf
     refine⟨_,⟨hf,rfl⟩,Kg ?_⟩
     simp only[go_sem]
     repeat' first|refine Kn rfl ?_|(refine Kw ?_;simp only[go_sem])|refine Kf ?_|apply Kp<;>intro _
     refine⟨.ready,none,rfl,by simp,rfl,i,rfl,?_⟩
     have:=Yuc hx hm
     simp[this];omega
    ·simp only[hm,if_false] at hf
     refine⟨_,⟨hf,rfl⟩,Kg ?_⟩
     simp only[go_sem]
     repeat' first|refine Kn rfl ?_|(refine Kw ?_;simp only[go_sem])|refine Kf ?_|apply Kp<;>intro _
     have hn:inK .i64 ((i:Int)+1):=Xai hil hl
     refine⟨[.cells [.d (.int .i64 ((i:Int)+1))],.lp b _ rc .ready none,.map (Yub (l.take i)),.cells x.as],true,Nat.le_refl _,⟨1,_,rc,hs,_,_,[.cells [.d (.int .i64 ((i:Int)+1))],.dead,.map (Yub (l.take i)),.cells x.as],none,rfl,by rw[<- Array.length_toList,hps];rfl,hta,htb,?_,rfl,rfl⟩,Kg ?_⟩
     ·rw[hps]
      simp only[go_sem]
      repeat' first|refine Kn rfl ?_|(refine Kw ?_;simp only[go_sem])|refine Kf ?_|apply Kp<;>intro _
      refine Xlh ⟨rfl,?_⟩
      repeat' first|refine Kn rfl ?_|(refine Kw ?_;simp only[go_sem])|refine Kf ?_|apply Kp<;>intro _
      refine⟨hn,?_⟩
      repeat' first|refine Kn rfl ?_|(refine Kw ?_;simp only[go_sem])|refine Kf ?_|apply Kp<;>intro _
      exact Xlh ⟨⟨rfl,rfl⟩,rfl⟩
     ·simp only[go_sem]
      repeat' first|refine Kn rfl ?_|(refine Kw ?_;simp only[go_sem])|refine Kf ?_|apply Kp<;>intro _
      refine⟨_,Xoz Y33 _ x hm,Kg ?_⟩
      rw[Xbx hx]
      simp only[go_sem]
      repeat' first|refine Kn rfl ?_|(refine Kw ?_;simp only[go_sem])|refine Kf ?_|apply Kp<;>intro _
      refine⟨hn,?_⟩
      refine Kt (fr 25 [(0,.one (.d (.raw (.func (.yield b) #[] #[])))),(1,.one (.d (.bx [.sl (scs l)]))),(3,.one (.own 2 0)),(7,.one (.d (.sl (scs l)))),(8,vi l.length),(9,vi (i+1))]) ?_
      refine Kk 3 (by simp only[List.length_nil,List.length_cons];decide) (by simp only[go_sem]) (by simp only[List.take_succ_cons,List.take_zero,List.all_cons,List.all_nil,X2e];try simp only[go_sem]) ?_
      simp only[go_sem]
      refine Kl ⟨l.length - (i+1),by omega,i+1,by omega,rfl,?_,rfl⟩
      exact X2f hx hm hz
   ·omega
  ·repeat' (first|refine Kn rfl ?_|(refine Kw ?_;simp only[go_sem])|refine Kf ?_|apply Kp<;>intro _)
   ·omega
   ·refine⟨.ready,none,rfl,by simp,rfl,i,rfl,?_⟩
    rw[List.take_of_length_le (by omega)] at hz
    simp[hz];omega
 ·rintro (_|⟨c,own'⟩) ⟨_,n,h1,h2⟩
  ·cases h1
  ·simp only[List.head?_cons,Option.some.injEq] at h1
   subst h1
   simp only[go_sem]
   repeat' first|refine Kn rfl ?_|(refine Kw ?_;simp only[go_sem])|refine Kf ?_|apply Kp<;>intro _
   exact h2
 ·rintro _ _ ⟨h,_⟩;cases h
section
variable (R:ByteArray->Bool) (hR:∀ s,Does QP gp 63 [vs s] (vb (R s)))
include hR
def Xra (R:ByteArray->Bool) (l:List Sc):Bool:=l.all (prR R) && decide l.Nodup
theorem Xy2 (x:Nd) (n:Int):Does QP gp 168 [x.vw n] (vb (Xra R x.keys)):=by
 refine Wkw ?_
 simp only[go_sem]
 repeat' first|refine Kn rfl ?_|(refine Kw ?_;simp only[go_sem])|refine Kf ?_|refine⟨_,Xjn _ _ _ (Xq9 R hR),Kg ?_⟩|refine⟨_,⟨Xjn _ _ _ (Xq9 R hR),rfl⟩,Kg ?_⟩|refine⟨_,W6y _,Kg ?_⟩|refine⟨_,⟨W6y _,rfl⟩,Kg ?_⟩|apply Kp<;>intro _
 all_goals (unfold Xra;grind)
def Yns (R:ByteArray->Bool) (x:Nd):Bool:=prR R x.x && (decide (x.keys=[]) && decide (x.kids=[]))
theorem Y34 (x:Nd) (n:Int):Does QP gp 142 [x.vw n] (vb (Yns R x)):=by
 refine Wiv ?_
 simp only[go_sem]
 repeat' first|refine Kn rfl ?_|(refine Kw ?_;simp only[go_sem])|refine Kf ?_|refine⟨_,Xd4 R hR _,Kg ?_⟩|refine⟨_,⟨Xd4 R hR _,rfl⟩,Kg ?_⟩|refine⟨_,Xix [_,_,_],Kg ?_⟩|refine⟨_,⟨Xix [_,_,_],rfl⟩,Kg ?_⟩|apply Kp<;>intro _
 unfold Yns
 cases x.keys <;> cases x.kids <;> simp <;> omega
def isZ (x:Sc):Bool:=decide (x=⟨0,0,⟨#[]⟩⟩)
def Yfk (x:Nd) (n:Int):Bool:=isZ x.x && (decide (x.keys=[]) && Xcq x.kids n)
omit hR in
theorem Y35 (x:Nd) (n:Int):Does QP gp 143 [x.vw n] (vb (Yfk x n)):=by
 refine Wiz ?_
 simp only[go_sem]
 repeat' first|refine Kn rfl ?_|(refine Kw ?_;simp only[Xoy,go_sem])|refine Kf ?_|refine⟨_,Xj3 _ _,Kg ?_⟩|refine⟨_,⟨Xj3 _ _,rfl⟩,Kg ?_⟩|refine⟨_,Xix [_,_,_],Kg ?_⟩|refine⟨_,⟨Xix [_,_,_],rfl⟩,Kg ?_⟩|apply Kp<;>intro _
 unfold Yfk isZ
 cases x.keys <;> simp <;> omega
def Ynt (R:ByteArray->Bool) (x:Nd) (n:Int):Bool:=isZ x.x && (decide (x.keys.length=x.kids.length) && (Xra R x.keys && Xcq x.kids n))
theorem Y36 (x:Nd) (n:Int):Does QP gp 144 [x.vw n] (vb (Ynt R x n)):=by
 refine Wi3 ?_
 simp only[go_sem]
 repeat' first|refine Kn rfl ?_|(refine Kw ?_;simp only[Xoy,go_sem])|refine Kf ?_|refine⟨_,Xh5 _ _,Kg ?_⟩|refine⟨_,⟨Xh5 _ _,rfl⟩,Kg ?_⟩|refine⟨_,Xy2 R hR _ _,Kg ?_⟩|refine⟨_,⟨Xy2 R hR _ _,rfl⟩,Kg ?_⟩|refine⟨_,Xj3 _ _,Kg ?_⟩|refine⟨_,⟨Xj3 _ _,rfl⟩,Kg ?_⟩|refine⟨_,Xix [_,_,_,_],Kg ?_⟩|refine⟨_,⟨Xix [_,_,_,_],rfl⟩,Kg ?_⟩|apply Kp<;>intro _
 unfold Ynt isZ
 simp
def Xa6 (R:ByteArray->Bool) (x:Nd) (n:Int):Bool :=
 if x.k=0 then Yns R x else if x.k=1 then Yfk x n else if x.k=2 then Ynt R x n else false
theorem Yud (x:Nd) (n:Int):Does QP gp 110 [x.vw n] (vb (Xa6 R x n)):=by
 refine Wgx ?_
 simp only[go_sem]
 repeat' first|refine Kn rfl ?_|(refine Kw ?_;simp only[go_sem])|refine Kf ?_|apply Kp<;>intro _
 ·rename_i h1 h2
  rcases (show x.k=0\/x.k=1\/x.k=2 by omega) with h|h|h
  ·refine⟨0,⟨h,by decide⟩,Kg ?_⟩
   repeat' first|refine Kn rfl ?_|(refine Kw ?_;simp only[go_sem])|refine Kf ?_|refine⟨_,Y34 R hR _ _,Kg ?_⟩|refine⟨_,⟨Y34 R hR _ _,rfl⟩,Kg ?_⟩|apply Kp<;>intro _
   simp[Xa6,h]
  ·refine⟨1,⟨h,by decide⟩,Kg ?_⟩
   repeat' first|refine Kn rfl ?_|(refine Kw ?_;simp only[go_sem])|refine Kf ?_|refine⟨_,Y35 _ _,Kg ?_⟩|refine⟨_,⟨Y35 _ _,rfl⟩,Kg ?_⟩|apply Kp<;>intro _
   simp[Xa6,h]
  ·refine⟨2,⟨h,by decide⟩,Kg ?_⟩
   repeat' first|refine Kn rfl ?_|(refine Kw ?_;simp only[go_sem])|refine Kf ?_|refine⟨_,Y36 R hR _ _,Kg ?_⟩|refine⟨_,⟨Y36 R hR _ _,rfl⟩,Kg ?_⟩|apply Kp<;>intro _
   simp[Xa6,h]
 all_goals (unfold Xa6;rw[if_neg (by omega),if_neg (by omega),if_neg (by omega)])
omit hR in
theorem W6z (g:Gr):Does QP gp 109 [g.v] (.one (.d (.fn (.func 141) [.bx [.int .i64 g.root,.sl (nds g.l)]]))):=by
 refine Wgs ?_
 simp only[go_sem]
 repeat' first|refine Kn rfl ?_|(refine Kw ?_;simp only[go_sem])|refine Kf ?_|apply Kp<;>intro _
def Xei (R:ByteArray->Bool) (g:Gr):Option (Int × Int) :=
 if g.l.length > 200 then some (0,71) else if ¬ (0<=g.root/\g.root < g.l.length) then some (-1,70)
 else (g.l.findIdx? fun x=>!Xa6 R x g.l.length).map fun i=>((i:Int),70)
def Jiw:Option (Int × Int)->D
 | none=>.nilI
 | some (a,e)=>.ifc 175 true [.int .i64 a,.int .i64 e]
abbrev Jeg (e:Option (Int × Int)):A:=.d (Jiw e)
abbrev Jgs (e:Option (Int × Int)):V:=.one (Jeg e)
omit hR in
theorem Xrb {l:List Nd} {p:Nd->Bool} (h:∀ y∈l,p y=false):l.findIdx? p=none:=by
 rw[List.findIdx?_eq_none_iff];exact h
omit hR in
theorem Yfl {l:List Nd} {p:Nd->Bool} {i:Nat} {x:Nd} (h:∀ y∈l.take i,p y=false) (hx:l[i]?=some x) (h0:p x=true):l.findIdx? p=some i:=by
 obtain⟨hi,rfl⟩:=Kr.1 hx
 rw[List.findIdx?_eq_some_iff_getElem]
 refine⟨hi,h0,fun j hj=>?_⟩
 have:l[j]∈l.take i:=by
  rw[List.mem_take_iff_getElem]
  exact⟨j,by omega,rfl⟩
 simp[h _ this]
theorem W60 (g:Gr):Does QP gp 72 [g.v] (Jgs (Xei R g)):=by
 refine W31 ?_
 simp only[go_sem]
 repeat' first|refine Kn rfl ?_|(refine Kw ?_;simp only[go_sem])|refine Kf ?_|refine⟨_,Xj1 _ _ _,Kg ?_⟩|refine⟨_,⟨Xj1 _ _ _,rfl⟩,Kg ?_⟩|refine⟨_,W6z _,Kg ?_⟩|refine⟨_,⟨W6z _,rfl⟩,Kg ?_⟩|apply Kp<;>intro _
 ·rename_i h;unfold Xei;rw[if_pos (by omega)];rfl
 ·rename_i h1 h2
  have h3:¬ (0<=g.root/\g.root < (g.l.length:Int)):=by intro h3;simp[h3] at h2
  unfold Xei;rw[if_neg (by omega),if_pos h3];rfl
 ·rename_i h1 h2
  have h3:0<=g.root/\g.root < (g.l.length:Int):=Classical.byContradiction fun h3=>by simp[h3] at h2
  have hck:Xei R g=(g.l.findIdx? fun x=>!Xa6 R x g.l.length).map fun i=>((i:Int),70):=by
   unfold Xei;rw[if_neg (by omega),if_neg (by simpa using h3)]
  rw[hck]
  refine Wxo (f2:=141) (caps:=[.one (.d (.bx [.int .i64 g.root,.sl (nds g.l)]))]) (fun pd own'=>((pd=none/\(g.l.findIdx? fun x=>!Xa6 R x g.l.length)=none/\own'.head?=some (.cells [.d .nilI]))\/(pd=some .ret/\∃ i:Nat,(g.l.findIdx? fun x=>!Xa6 R x g.l.length)=some i/\own'.head?=some (.cells [Jeg (some ((i:Int),70))])))) rfl ?_ Wir ?_ ?_ ?_
  ·intro y;simp only[go_sem]
  ·rintro b rc hps ⟨hs,hta,htb⟩
   refine Yqm ?_
   simp only[go_sem]
   repeat' first|refine Kn rfl ?_|(refine Kw ?_;simp only[go_sem])|refine Kf ?_|apply Kp<;>intro _
   refine Yym 1 1 rfl rfl fun hl=>?_
   simp only[List.length_map] at hl
   refine Kt (fr 23 [(0,.one (.d (.raw (.func (.yield b) #[] #[])))),(1,.one (.d (.bx [.int .i64 g.root,.sl (nds g.l)]))),(6,.one (.d (.sl (nds g.l)))),(7,vi g.l.length),(8,vi (0:Nat))]) ?_
   refine Km (fun mz sz=>∃ i:Nat,i<=g.l.length/\mz=g.l.length - i/\(∀ y∈g.l.take i,(!Xa6 R y g.l.length)=false)/\sz=⟨fr 23 [(0,.one (.d (.raw (.func (.yield b) #[] #[])))),(1,.one (.d (.bx [.int .i64 g.root,.sl (nds g.l)]))),(6,.one (.d (.sl (nds g.l)))),(7,vi g.l.length),(8,vi i)],[.cells [.d .nilI],.lp b _ rc .ready none]⟩) (g.l.length) ⟨0,Nat.zero_le _,(Nat.sub_zero _).symm,?_,rfl⟩ ?_
   ·simp
   rintro _ _ ⟨i,hi,rfl,hz,rfl⟩
   simp only[go_sem]
   by_cases hil:i < g.l.length
   ·obtain⟨x,hx⟩:=Xaf hil
    repeat' first|refine Kn rfl ?_|(refine Kw ?_;simp only[go_sem])|refine Kf ?_|refine⟨_,⟨Kq _,(Xab hx),rfl⟩,Kg ?_⟩|apply Kp<;>intro _
    ·have hn:inK .i64 ((i:Int)+1):=Xai hil hl
     have hr:=Yud R hR x (g.l.length:Int)
     cases hb:Xa6 R x g.l.length with
     | true =>
      rw[hb] at hr
      refine⟨[.cells [.d .nilI],.lp b _ rc .ready none,.cells x.as,.cells (x.as++[.d (.int .i64 g.l.length)])],true,by simp,⟨1,_,rc,hs,_,_,[.cells [.d .nilI],.dead,.cells x.as,.cells (x.as++[.d (.int .i64 g.l.length)])],none,rfl,by rw[<- Array.length_toList,hps];rfl,hta,htb,?_,rfl,rfl⟩,Kg ?_⟩
      ·rw[hps]
       simp only[go_sem]
       repeat' first|refine Kn rfl ?_|(refine Kw ?_;simp only[go_sem])|refine Kf ?_|apply Kp<;>intro _
       refine Xlh ⟨rfl,?_⟩
       repeat' first|refine Kn rfl ?_|(refine Kw ?_;simp only[go_sem])|refine Kf ?_|refine⟨_,hr,Kg ?_⟩|refine⟨_,⟨hr,rfl⟩,Kg ?_⟩|apply Kp<;>intro _
       exact Xlh ⟨⟨rfl,rfl⟩,rfl⟩
      ·simp only[go_sem]
       repeat' first|refine Kn rfl ?_|(refine Kw ?_;simp only[go_sem])|refine Kf ?_|apply Kp<;>intro _
       refine⟨hn,?_⟩
       refine Kt (fr 23 [(0,.one (.d (.raw (.func (.yield b) #[] #[])))),(1,.one (.d (.bx [.int .i64 g.root,.sl (nds g.l)]))),(6,.one (.d (.sl (nds g.l)))),(7,vi g.l.length),(8,vi (i+1))]) ?_
       refine Ku 2 ?_
       simp only[go_sem]
       refine Kl ⟨g.l.length - (i+1),by omega,i+1,by omega,rfl,?_,rfl⟩
       exact Xfn hz hx (by simp[hb])
     | false =>
      rw[hb] at hr
      refine⟨[.cells [Jeg (some ((i:Int),70))],.lp b _ rc .done (some .ret),.cells x.as,.cells (x.as++[.d (.int .i64 g.l.length)])],false,by simp,⟨1,_,rc,hs,_,_,[.cells [Jeg (some ((i:Int),70))],.dead,.cells x.as,.cells (x.as++[.d (.int .i64 g.l.length)])],some .ret,rfl,by rw[<- Array.length_toList,hps];rfl,hta,htb,?_,rfl,rfl⟩,Kg ?_⟩
      ·rw[hps]
       simp only[go_sem]
       repeat' first|refine Kn rfl ?_|(refine Kw ?_;simp only[go_sem])|refine Kf ?_|apply Kp<;>intro _
       refine Xlh ⟨rfl,?_⟩
       repeat' first|refine Kn rfl ?_|(refine Kw ?_;simp only[go_sem])|refine Kf ?_|refine⟨_,hr,Kg ?_⟩|refine⟨_,⟨hr,rfl⟩,Kg ?_⟩|apply Kp<;>intro _
       exact X4l rfl ⟨⟨rfl,rfl⟩,rfl⟩
      ·simp only[go_sem]
       repeat' first|refine Kn rfl ?_|(refine Kw ?_;simp only[go_sem])|refine Kf ?_|apply Kp<;>intro _
       exact⟨.done,some .ret,rfl,by simp,.inr ⟨rfl,i,Yfl hz hx (by simp[hb]),rfl⟩⟩
    ·omega
   ·repeat' (first|refine Kn rfl ?_|(refine Kw ?_;simp only[go_sem])|refine Kf ?_|apply Kp<;>intro _)
    ·omega
    ·rw[List.take_of_length_le (by omega)] at hz
     exact⟨.ready,none,rfl,by simp,.inl ⟨rfl,Xrb hz,rfl⟩⟩
  ·rintro (_|⟨c,own'⟩) (⟨_,h4,h5⟩|⟨h4,_⟩)
   ·cases h5
   ·cases h4
   ·simp only[List.head?_cons,Option.some.injEq] at h5
    subst h5
    rw[h4]
    repeat' first|refine Kn rfl ?_|(refine Kw ?_;simp only[go_sem])|refine Kf ?_|apply Kp<;>intro _
    rfl
   ·cases h4
  ·rintro c (_|⟨c',own'⟩) (⟨h4,_⟩|⟨h4,i,h5,h6⟩)
   ·cases h4
   ·cases h6
   ·cases h4
   ·cases h4
    simp only[List.head?_cons,Option.some.injEq] at h6
    subst h6
    rw[h5]
    refine⟨.ret,rfl,?_⟩
    repeat' first|refine Kn rfl ?_|(refine Kw ?_;simp only[go_sem])|refine Kf ?_|apply Kp<;>intro _
    first|exact⟨rfl,rfl⟩|rfl
end
end Go.Fw.L07
