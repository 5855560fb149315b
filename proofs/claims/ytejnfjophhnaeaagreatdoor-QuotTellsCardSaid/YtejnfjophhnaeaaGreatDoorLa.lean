/- Chapter 7,part 1: comparisons. -/
import Derived.Test.YtejnfjophhnaeaaGreatDoorL07Mini
import Derived.Test.YtejnfjophhnaeaaGreatDoorFd
set_option linter.all false
namespace Go.Fw.L07
open Go Go.Fw
open Go.Fw.Sh renaming intro->Kg
open Go.Fw renaming Xhj->Ka,Xev->Kb,Xhm->Kv,Xew->Ke,Xex->Kf,Xhl->Kh,Xhk->Ki,Xdt->Kt,Xmi->Kk,Xfn->Ku,Xdr->Kl,Xfh->Km,Gx->Kn
open Int renaming natCast_nonneg->Kq
open List renaming getElem?_eq_some_iff->Kr
open And renaming intro->Kp
open Go.Proofs.Tryz renaming prog->QP
open Go.Fw.V.one renaming injEq->Qs
open Go.Fw.V.agg renaming injEq->Qt
open Go.Fw.V.tup renaming injEq->Qu
open Go.Fw.A.d renaming injEq->Qv
open Go.Fw.D.bool renaming injEq->Qw
open Go.Fw.D.int renaming injEq->Qx
open Go.Fw.D.str renaming injEq->Qy
open Go.Fw.D.sl renaming injEq->Qz
open List.cons renaming injEq->Za
set_option maxRecDepth 4000
variable {gp:Xal}
abbrev vi (n:Int):V:=.one (.d (.int .i64 n))
abbrev vb (b:Bool):V:=.one (.d (.bool b))
abbrev vs (s:ByteArray):V:=.one (.d (.str s))
structure Sc where
 k:Int
 n:Int
 s:ByteArray
 deriving DecidableEq
abbrev Sc.ds (x:Sc):List D:=[.int .i64 x.k,.int .i64 x.n,.str x.s]
abbrev Sc.as (x:Sc):List A:=[.d (.int .i64 x.k),.d (.int .i64 x.n),.d (.str x.s)]
abbrev Sc.v (x:Sc):V:=.agg x.as
abbrev Xag (l:List Int):List (List D):=l.map fun n=>[.int .i64 n]
abbrev scs (l:List Sc):List (List D):=l.map Sc.ds
structure Nd where
 k:Int
 x:Sc
 keys:List Sc
 kids:List Int
 deriving DecidableEq
abbrev Nd.ds (x:Nd):List D:=[.int .i64 x.k,.int .i64 x.x.k,.int .i64 x.x.n,.str x.x.s,.sl (scs x.keys),.sl (Xag x.kids)]
abbrev Nd.as (x:Nd):List A:=[.d (.int .i64 x.k),.d (.int .i64 x.x.k),.d (.int .i64 x.x.n),.d (.str x.x.s),.d (.sl (scs x.keys)),.d (.sl (Xag x.kids))]
abbrev Nd.v (x:Nd):V:=.agg x.as
abbrev nds (l:List Nd):List (List D):=l.map Nd.ds
structure Gr where
 root:Int
 l:List Nd
 deriving DecidableEq
abbrev Gr.as (g:Gr):List A:=[.d (.int .i64 g.root),.d (.sl (nds g.l))]
abbrev Gr.v (g:Gr):V:=.agg g.as
theorem Xab {α β:Type} {f:α->β} {l:List α} {i:Nat} {x:α} (h:l[i]?=some x):(l.map f)[i]?=some (f x):=by simp[h]
theorem Xai {α:Type} {l:List α} {i:Nat} (h:i < l.length):∃ x,l[i]?=some x:=⟨_,List.getElem?_eq_getElem h⟩
theorem Xrg (x:Int):Xak QP gp 136 [vi x] (vb false):=by
 refine Y9p ?_
 simp only[go_sem]
 repeat' first|refine Kn rfl ?_|((first|refine Ka ?_|refine Kb ?_|refine Kv ?_|refine Ke ?_);simp only[go_sem])|refine Kf ?_|refine Kg ?_|apply Kp<;>intro _|((first|refine Kh ?_|refine Ki rfl ?_);simp only[or_self,Qs,Qt,Qu,Qv,Qw,Qx,Qy,Qz,Za,go_sem])
 all_goals simp
theorem Xrh (x:ByteArray):Xak QP gp 137 [vs x] (vb false):=by
 refine Y9t ?_
 simp only[go_sem]
 repeat' first|refine Kn rfl ?_|((first|refine Ka ?_|refine Kb ?_|refine Kv ?_|refine Ke ?_);simp only[go_sem])|refine Kf ?_|refine Kg ?_|apply Kp<;>intro _|((first|refine Kh ?_|refine Ki rfl ?_);simp only[or_self,Qs,Qt,Qu,Qv,Qw,Qx,Qy,Qz,Za,go_sem])
def Ywe (a b:Int):Int:=if a < b then -1 else if b < a then 1 else 0
theorem Xmj (x y:Int):Xak QP gp 107 [vi x,vi y] (vi (Ywe x y)):=by
 refine Y8j ?_
 simp only[go_sem]
 repeat' first|refine Kn rfl ?_|((first|refine Ka ?_|refine Kb ?_|refine Kv ?_|refine Ke ?_);simp only[go_sem])|refine Kf ?_|refine Kg ?_|refine⟨_,Xrg _,Kg ?_⟩|refine⟨_,⟨Xrg _,rfl⟩,Kg ?_⟩|apply Kp<;>intro _|((first|refine Kh ?_|refine Ki rfl ?_);simp only[or_self,Qs,Qt,Qu,Qv,Qw,Qx,Qy,Qz,Za,go_sem])
 all_goals (unfold Ywe;grind)
def Wuo (a b:ByteArray):Int:=if Op.bytesLess a.toList b.toList then -1 else if Op.bytesLess a.toList b.toList || decide (a=b) then 0 else 1
theorem Xmk (x y:ByteArray):Xak QP gp 108 [vs x,vs y] (vi (Wuo x y)):=by
 refine Y8r ?_
 simp only[go_sem]
 repeat' first|refine Kn rfl ?_|((first|refine Ka ?_|refine Kb ?_|refine Kv ?_|refine Ke ?_);simp only[go_sem])|refine Kf ?_|refine Kg ?_|refine⟨_,Xrh _,Kg ?_⟩|refine⟨_,⟨Xrh _,rfl⟩,Kg ?_⟩|apply Kp<;>intro _|((first|refine Kh ?_|refine Ki rfl ?_);simp only[or_self,Qs,Qt,Qu,Qv,Qw,Qx,Qy,Qz,Za,go_sem])
 all_goals (unfold Wuo;grind)
def orI (l:List Int):Int:=(l.find? fun x=>x != 0).getD 0
theorem Ynx {l:List Int} (h:∀ x∈l,x=0):orI l=0:=by
 unfold orI
 rw[List.find?_eq_none.2 fun x hx=>by simp[h x hx]];rfl
theorem Wup {l:List Int} {i:Nat} {x:Int} (h:∀ y∈l.take i,y=0) (hx:l[i]?=some x) (h0:x≠0):orI l=x:=by
 unfold orI
 have:l=l.take i++x::l.drop (i+1):=by
  obtain⟨hi,rfl⟩:=Kr.1 hx
  rw[<- List.drop_eq_getElem_cons hi,List.take_append_drop]
 rw[this,List.find?_append,List.find?_eq_none.2 fun y hy=>by simp[h y hy]]
 simp[h0]
theorem Xhe {α:Type} {l:List α} {p:α->Prop} {i:Nat} {x:α} (h:∀ y∈l.take i,p y) (hx:l[i]?=some x) (h0:p x):∀ y∈l.take (i+1),p y:=by
 intro y hy
 rw[List.take_succ,hx] at hy
 rcases List.mem_append.1 hy with hy|hy
 ·exact h y hy
 ·simp at hy;subst hy;exact h0
theorem Ywf (l:List Int):Xak QP gp 106 [.one (.d (.sl (Xag l)))] (vi (orI l)):=by
 refine Y8b ?_
 simp only[go_sem]
 repeat' first|refine Kn rfl ?_|((first|refine Ka ?_|refine Kb ?_|refine Kv ?_|refine Ke ?_);simp only[go_sem])|refine Kf ?_|refine Kg ?_|apply Kp<;>intro _|((first|refine Kh ?_|refine Ki rfl ?_);simp only[or_self,Qs,Qt,Qu,Qv,Qw,Qx,Qy,Qz,Za,go_sem])
 refine Xpf 0 rfl fun hl=>?_
 refine Kt (fr 18 [(0,.one (.d (.sl (Xag l)))),(3,vi 0),(6,.one (.d (.sl (Xag l)))),(7,vi l.length),(8,vi (0:Nat))]) ?_
 refine Km (fun mz sz=>∃ i:Nat,i<=l.length/\mz=l.length - i/\(∀ y∈l.take i,y=0)/\sz=⟨fr 18 [(0,.one (.d (.sl (Xag l)))),(3,vi 0),(6,.one (.d (.sl (Xag l)))),(7,vi l.length),(8,vi i)],[]⟩) (l.length) ⟨0,Nat.zero_le _,(Nat.sub_zero _).symm,?_,rfl⟩ ?_
 ·simp
 rintro _ _ ⟨i,hi,rfl,hz,rfl⟩
 simp only[List.length_map] at hl
 simp only[go_sem]
 by_cases hil:i < l.length
 ·obtain⟨x,hx⟩:=Xai hil
  repeat' first|refine Kn rfl ?_|((first|refine Ka ?_|refine Kb ?_|refine Kv ?_|refine Ke ?_);simp only[go_sem])|refine Kf ?_|refine Kg ?_|refine⟨_,⟨Kq _,(by first|exact Xab hx|(rw[Int.toNat_natCast];exact Xab hx)),rfl⟩,Kg ?_⟩|apply Kp<;>intro _|((first|refine Kh ?_|refine Ki rfl ?_);simp only[or_self,Qs,Qt,Qu,Qv,Qw,Qx,Qy,Qz,Za,go_sem])
  ·rename_i h;simp at h;rw[Wup hz hx h]
  ·refine⟨Xah hil hl,?_⟩
   rename_i h
   refine Kt (fr 18 [(0,.one (.d (.sl (Xag l)))),(3,vi 0),(6,.one (.d (.sl (Xag l)))),(7,vi l.length),(8,vi (i+1))]) ?_
   refine Kl ⟨l.length - (i+1),by omega,i+1,by omega,rfl,?_,rfl⟩
   exact Xhe hz hx (by simpa using h)
  ·omega
 ·repeat' (first|refine Kn rfl ?_|((first|refine Ka ?_|refine Kb ?_|refine Kv ?_|refine Ke ?_);simp only[go_sem])|refine Kf ?_|refine Kg ?_|apply Kp<;>intro _|((first|refine Kh ?_|refine Ki rfl ?_);simp only[or_self,Qs,Qt,Qu,Qv,Qw,Qx,Qy,Qz,Za,go_sem]))
  ·omega
  ·rw[Ynx]
   rw[List.take_of_length_le (by omega)] at hz
   exact hz
def Xtf (x y:Sc):Int:=if x=y then 0 else orI [Ywe x.k y.k,Ywe x.n y.n,Wuo x.s y.s]
theorem Xhn (x y:Sc):(x.k==y.k && (x.n==y.n && decide (x.s=y.s)))=decide (x=y):=by
 cases x;cases y;simp only[Sc.mk.injEq];grind
theorem X90 (x y:Sc):Xak QP gp 82 [x.v,y.v] (vi (Xtf x y)):=by
 refine Wsm ?_
 simp only[go_sem]
 repeat' first|refine Kn rfl ?_|((first|refine Ka ?_|refine Kb ?_|refine Kv ?_|refine Ke ?_);simp only[Xhn,go_sem])|refine Kf ?_|refine Kg ?_|refine⟨_,Xmj _ _,Kg ?_⟩|refine⟨_,⟨Xmj _ _,rfl⟩,Kg ?_⟩|refine⟨_,Xmk _ _,Kg ?_⟩|refine⟨_,⟨Xmk _ _,rfl⟩,Kg ?_⟩|refine⟨_,Ywf [_,_,_],Kg ?_⟩|refine⟨_,⟨Ywf [_,_,_],rfl⟩,Kg ?_⟩|apply Kp<;>intro _|((first|refine Kh ?_|refine Ki rfl ?_);simp only[Xhn,or_self,Qs,Qt,Qu,Qv,Qw,Qx,Qy,Qz,Za,go_sem])
 all_goals (rename_i h;simp[Xtf,h])
theorem Xj2 {α:Type} {l m:List α} {i:Nat} {x y:α} (h:l.take i=m.take i) (hx:l[i]?=some x) (hy:m[i]?=some y) (e:x=y):l.take (i+1)=m.take (i+1):=by
 rw[List.take_succ,List.take_succ,h,hx,hy,e]
theorem X0p {α:Type} {l m:List α} {i:Nat} {x y:α} (hx:l[i]?=some x) (hy:m[i]?=some y) (e:x≠y):l≠m:=by
 rintro rfl;rw[hx] at hy;cases hy;exact e rfl
theorem Xod {α:Type} {l m:List α} (e:((l.length:Int) != (m.length:Int))=true):l≠m:=by
 rintro rfl;simp at e
theorem Xtg (l m:List Int):Xak QP gp 20 [.one (.d (.sl (Xag l))),.one (.d (.sl (Xag m)))] (vb (decide (l=m))):=by
 refine Won ?_
 simp only[go_sem]
 repeat' first|refine Kn rfl ?_|((first|refine Ka ?_|refine Kb ?_|refine Kv ?_|refine Ke ?_);simp only[go_sem])|refine Kf ?_|refine Kg ?_|apply Kp<;>intro _|((first|refine Kh ?_|refine Ki rfl ?_);simp only[or_self,Qs,Qt,Qu,Qv,Qw,Qx,Qy,Qz,Za,go_sem])
 ·rename_i h;simp[Xod h]
 ·rename_i h
  have hlen:l.length=m.length:=by simp at h;omega
  refine Xpf 0 rfl fun hl=>?_
  refine Kt (fr 26 [(0,.one (.d (.sl (Xag l)))),(1,.one (.d (.sl (Xag m)))),(5,vi (0:Nat))]) ?_
  refine Km (fun mz sz=>∃ i:Nat,i<=l.length/\mz=l.length - i/\(l.take i=m.take i)/\sz=⟨fr 26 [(0,.one (.d (.sl (Xag l)))),(1,.one (.d (.sl (Xag m)))),(5,vi i)],[]⟩) (l.length) ⟨0,Nat.zero_le _,(Nat.sub_zero _).symm,?_,rfl⟩ ?_
  ·simp
  rintro _ _ ⟨i,hi,rfl,hz,rfl⟩
  simp only[List.length_map] at hl
  simp only[go_sem]
  by_cases hil:i < l.length
  ·obtain⟨x,hx⟩:=Xai hil
   obtain⟨y,hy⟩:=Xai (l:=m) (i:=i) (by omega)
   repeat' first|refine Kn rfl ?_|((first|refine Ka ?_|refine Kb ?_|refine Kv ?_|refine Ke ?_);simp only[go_sem])|refine Kf ?_|refine Kg ?_|refine⟨_,⟨Kq _,(by first|exact Xab hx|(rw[Int.toNat_natCast];exact Xab hx)),rfl⟩,Kg ?_⟩|refine⟨_,⟨Kq _,(by first|exact Xab hy|(rw[Int.toNat_natCast];exact Xab hy)),rfl⟩,Kg ?_⟩|apply Kp<;>intro _|((first|refine Kh ?_|refine Ki rfl ?_);simp only[or_self,Qs,Qt,Qu,Qv,Qw,Qx,Qy,Qz,Za,go_sem])
   ·rename_i h;simp[X0p hx hy (by simpa using h)]
   ·refine⟨Xah hil hl,?_⟩
    rename_i h
    refine Kt (fr 26 [(0,.one (.d (.sl (Xag l)))),(1,.one (.d (.sl (Xag m)))),(5,vi (i+1))]) ?_
    refine Kl ⟨l.length - (i+1),by omega,i+1,by omega,rfl,?_,rfl⟩
    exact Xj2 hz hx hy (by simpa using h)
   ·omega
  ·repeat' (first|refine Kn rfl ?_|((first|refine Ka ?_|refine Kb ?_|refine Kv ?_|refine Ke ?_);simp only[go_sem])|refine Kf ?_|refine Kg ?_|apply Kp<;>intro _|((first|refine Kh ?_|refine Ki rfl ?_);simp only[or_self,Qs,Qt,Qu,Qv,Qw,Qx,Qy,Qz,Za,go_sem]))
   ·omega
   ·rw[List.take_of_length_le (by omega),List.take_of_length_le (by omega)] at hz
    simp[hz]
theorem Xxd (l m:List Sc):Xak QP gp 52 [.one (.d (.sl (scs l))),.one (.d (.sl (scs m)))] (vb (decide (l=m))):=by
 refine Wqo ?_
 simp only[go_sem]
 repeat' first|refine Kn rfl ?_|((first|refine Ka ?_|refine Kb ?_|refine Kv ?_|refine Ke ?_);simp only[go_sem])|refine Kf ?_|refine Kg ?_|apply Kp<;>intro _|((first|refine Kh ?_|refine Ki rfl ?_);simp only[or_self,Qs,Qt,Qu,Qv,Qw,Qx,Qy,Qz,Za,go_sem])
 ·rename_i h;simp[Xod h]
 ·rename_i h
  have hlen:l.length=m.length:=by simp at h;omega
  refine Xpf 0 rfl fun hl=>?_
  refine Kt (fr 26 [(0,.one (.d (.sl (scs l)))),(1,.one (.d (.sl (scs m)))),(5,vi (0:Nat))]) ?_
  refine Km (fun mz sz=>∃ i:Nat,i<=l.length/\mz=l.length - i/\(l.take i=m.take i)/\sz=⟨fr 26 [(0,.one (.d (.sl (scs l)))),(1,.one (.d (.sl (scs m)))),(5,vi i)],[]⟩) (l.length) ⟨0,Nat.zero_le _,(Nat.sub_zero _).symm,?_,rfl⟩ ?_
  ·simp
  rintro _ _ ⟨i,hi,rfl,hz,rfl⟩
  simp only[List.length_map] at hl
  simp only[go_sem]
  by_cases hil:i < l.length
  ·obtain⟨x,hx⟩:=Xai hil
   obtain⟨y,hy⟩:=Xai (l:=m) (i:=i) (by omega)
   repeat' first|refine Kn rfl ?_|((first|refine Ka ?_|refine Kb ?_|refine Kv ?_|refine Ke ?_);simp only[Xhn,go_sem])|refine Kf ?_|refine Kg ?_|refine⟨_,⟨Kq _,(by first|exact Xab hx|(rw[Int.toNat_natCast];exact Xab hx)),rfl⟩,Kg ?_⟩|refine⟨_,⟨Kq _,(by first|exact Xab hy|(rw[Int.toNat_natCast];exact Xab hy)),rfl⟩,Kg ?_⟩|apply Kp<;>intro _|((first|refine Kh ?_|refine Ki rfl ?_);simp only[Xhn,or_self,Qs,Qt,Qu,Qv,Qw,Qx,Qy,Qz,Za,go_sem])
   ·rename_i h;simp[X0p hx hy (by simpa using h)]
   ·refine⟨Xah hil hl,?_⟩
    rename_i h
    refine Kt (fr 26 [(0,.one (.d (.sl (scs l)))),(1,.one (.d (.sl (scs m)))),(5,vi (i+1))]) ?_
    refine Kl ⟨l.length - (i+1),by omega,i+1,by omega,rfl,?_,rfl⟩
    exact Xj2 hz hx hy (by simpa using h)
   ·omega
  ·repeat' (first|refine Kn rfl ?_|((first|refine Ka ?_|refine Kb ?_|refine Kv ?_|refine Ke ?_);simp only[go_sem])|refine Kf ?_|refine Kg ?_|apply Kp<;>intro _|((first|refine Kh ?_|refine Ki rfl ?_);simp only[or_self,Qs,Qt,Qu,Qv,Qw,Qx,Qy,Qz,Za,go_sem]))
   ·omega
   ·rw[List.take_of_length_le (by omega),List.take_of_length_le (by omega)] at hz
    simp[hz]
theorem Ywg (l m:List Sc):Xak QP gp 84 [.one (.d (.sl (scs l))),.one (.d (.sl (scs m)))] (vb (decide (l=m))):=by
 refine Wsx ?_
 simp only[go_sem]
 repeat' first|refine Kn rfl ?_|((first|refine Ka ?_|refine Kb ?_|refine Kv ?_|refine Ke ?_);simp only[go_sem])|refine Kf ?_|refine Kg ?_|apply Kp<;>intro _|((first|refine Kh ?_|refine Ki rfl ?_);simp only[or_self,Qs,Qt,Qu,Qv,Qw,Qx,Qy,Qz,Za,go_sem])
 ·rename_i h;simp[Xod h]
 ·rename_i h
  have hlen:l.length=m.length:=by simp at h;omega
  refine Xpf 0 rfl fun hl=>?_
  refine Kt (fr 26 [(0,.one (.d (.sl (scs l)))),(1,.one (.d (.sl (scs m)))),(12,vi l.length),(13,vi (0:Nat))]) ?_
  refine Km (fun mz sz=>∃ i:Nat,i<=l.length/\mz=l.length - i/\(l.take i=m.take i)/\sz=⟨fr 26 [(0,.one (.d (.sl (scs l)))),(1,.one (.d (.sl (scs m)))),(12,vi l.length),(13,vi i)],[]⟩) (l.length) ⟨0,Nat.zero_le _,(Nat.sub_zero _).symm,?_,rfl⟩ ?_
  ·simp
  rintro _ _ ⟨i,hi,rfl,hz,rfl⟩
  simp only[List.length_map] at hl
  simp only[go_sem]
  by_cases hil:i < l.length
  ·obtain⟨x,hx⟩:=Xai hil
   obtain⟨y,hy⟩:=Xai (l:=m) (i:=i) (by omega)
   repeat' first|refine Kn rfl ?_|((first|refine Ka ?_|refine Kb ?_|refine Kv ?_|refine Ke ?_);simp only[Xhn,go_sem])|refine Kf ?_|refine Kg ?_|refine⟨_,⟨Kq _,(by first|exact Xab hx|(rw[Int.toNat_natCast];exact Xab hx)),rfl⟩,Kg ?_⟩|refine⟨_,⟨Kq _,(by first|exact Xab hy|(rw[Int.toNat_natCast];exact Xab hy)),rfl⟩,Kg ?_⟩|apply Kp<;>intro _|((first|refine Kh ?_|refine Ki rfl ?_);simp only[Xhn,or_self,Qs,Qt,Qu,Qv,Qw,Qx,Qy,Qz,Za,go_sem])
   ·rename_i h;simp[X0p hx hy (by simpa using h)]
   ·refine⟨Xah hil hl,?_⟩
    rename_i h
    refine Kt (fr 26 [(0,.one (.d (.sl (scs l)))),(1,.one (.d (.sl (scs m)))),(12,vi l.length),(13,vi (i+1))]) ?_
    refine Kl ⟨l.length - (i+1),by omega,i+1,by omega,rfl,?_,rfl⟩
    exact Xj2 hz hx hy (by simpa using h)
   ·omega
  ·repeat' (first|refine Kn rfl ?_|((first|refine Ka ?_|refine Kb ?_|refine Kv ?_|refine Ke ?_);simp only[go_sem])|refine Kf ?_|refine Kg ?_|apply Kp<;>intro _|((first|refine Kh ?_|refine Ki rfl ?_);simp only[or_self,Qs,Qt,Qu,Qv,Qw,Qx,Qy,Qz,Za,go_sem]))
   ·omega
   ·rw[List.take_of_length_le (by omega),List.take_of_length_le (by omega)] at hz
    simp[hz]
theorem X91 (l m:List Int):Xak QP gp 85 [.one (.d (.sl (Xag l))),.one (.d (.sl (Xag m)))] (vb (decide (l=m))):=by
 refine Ws4 ?_
 simp only[go_sem]
 repeat' first|refine Kn rfl ?_|((first|refine Ka ?_|refine Kb ?_|refine Kv ?_|refine Ke ?_);simp only[go_sem])|refine Kf ?_|refine Kg ?_|apply Kp<;>intro _|((first|refine Kh ?_|refine Ki rfl ?_);simp only[or_self,Qs,Qt,Qu,Qv,Qw,Qx,Qy,Qz,Za,go_sem])
 ·rename_i h;simp[Xod h]
 ·rename_i h
  have hlen:l.length=m.length:=by simp at h;omega
  refine Xpf 0 rfl fun hl=>?_
  refine Kt (fr 26 [(0,.one (.d (.sl (Xag l)))),(1,.one (.d (.sl (Xag m)))),(12,vi l.length),(13,vi (0:Nat))]) ?_
  refine Km (fun mz sz=>∃ i:Nat,i<=l.length/\mz=l.length - i/\(l.take i=m.take i)/\sz=⟨fr 26 [(0,.one (.d (.sl (Xag l)))),(1,.one (.d (.sl (Xag m)))),(12,vi l.length),(13,vi i)],[]⟩) (l.length) ⟨0,Nat.zero_le _,(Nat.sub_zero _).symm,?_,rfl⟩ ?_
  ·simp
  rintro _ _ ⟨i,hi,rfl,hz,rfl⟩
  simp only[List.length_map] at hl
  simp only[go_sem]
  by_cases hil:i < l.length
  ·obtain⟨x,hx⟩:=Xai hil
   obtain⟨y,hy⟩:=Xai (l:=m) (i:=i) (by omega)
   repeat' first|refine Kn rfl ?_|((first|refine Ka ?_|refine Kb ?_|refine Kv ?_|refine Ke ?_);simp only[go_sem])|refine Kf ?_|refine Kg ?_|refine⟨_,⟨Kq _,(by first|exact Xab hx|(rw[Int.toNat_natCast];exact Xab hx)),rfl⟩,Kg ?_⟩|refine⟨_,⟨Kq _,(by first|exact Xab hy|(rw[Int.toNat_natCast];exact Xab hy)),rfl⟩,Kg ?_⟩|apply Kp<;>intro _|((first|refine Kh ?_|refine Ki rfl ?_);simp only[or_self,Qs,Qt,Qu,Qv,Qw,Qx,Qy,Qz,Za,go_sem])
   ·rename_i h;simp[X0p hx hy (by simpa using h)]
   ·refine⟨Xah hil hl,?_⟩
    rename_i h
    refine Kt (fr 26 [(0,.one (.d (.sl (Xag l)))),(1,.one (.d (.sl (Xag m)))),(12,vi l.length),(13,vi (i+1))]) ?_
    refine Kl ⟨l.length - (i+1),by omega,i+1,by omega,rfl,?_,rfl⟩
    exact Xj2 hz hx hy (by simpa using h)
   ·omega
  ·repeat' (first|refine Kn rfl ?_|((first|refine Ka ?_|refine Kb ?_|refine Kv ?_|refine Ke ?_);simp only[go_sem])|refine Kf ?_|refine Kg ?_|apply Kp<;>intro _|((first|refine Kh ?_|refine Ki rfl ?_);simp only[or_self,Qs,Qt,Qu,Qv,Qw,Qx,Qy,Qz,Za,go_sem]))
   ·omega
   ·rw[List.take_of_length_le (by omega),List.take_of_length_le (by omega)] at hz
    simp[hz]
def W3x (s:ByteArray):ByteArray:=s.extract 0 (min s.size 100)
theorem X92 (s:ByteArray):Xak QP gp 94 [vs s] (vs (W3x s)):=by
 refine Wtf ?_
 simp only[go_sem]
 repeat' first|refine Kn rfl ?_|((first|refine Ka ?_|refine Kb ?_|refine Kv ?_|refine Ke ?_);simp only[go_sem])|refine Kf ?_|refine Kg ?_|apply Kp<;>intro _|((first|refine Kh ?_|refine Ki rfl ?_);simp only[or_self,Qs,Qt,Qu,Qv,Qw,Qx,Qy,Qz,Za,go_sem])
 refine⟨0,min s.size 100,⟨rfl,by split <;> omega,by omega,by omega⟩,Kg ?_⟩
 repeat' first|refine Kn rfl ?_|((first|refine Ka ?_|refine Kb ?_|refine Kv ?_|refine Ke ?_);simp only[go_sem])|refine Kf ?_|refine Kg ?_|apply Kp<;>intro _|((first|refine Kh ?_|refine Ki rfl ?_);simp only[or_self,Qs,Qt,Qu,Qv,Qw,Qx,Qy,Qz,Za,go_sem])
 rfl
def Sc.cut (x:Sc):Sc:=⟨x.k,x.n,W3x x.s⟩
theorem Xxe (x:Sc):Xak QP gp 68 [x.v] x.cut.v:=by
 refine Wq6 ?_
 simp only[go_sem]
 repeat' first|refine Kn rfl ?_|((first|refine Ka ?_|refine Kb ?_|refine Kv ?_|refine Ke ?_);simp only[go_sem])|refine Kf ?_|refine Kg ?_|refine⟨_,X92 _,Kg ?_⟩|refine⟨_,⟨X92 _,rfl⟩,Kg ?_⟩|apply Kp<;>intro _|((first|refine Kh ?_|refine Ki rfl ?_);simp only[or_self,Qs,Qt,Qu,Qv,Qw,Qx,Qy,Qz,Za,go_sem])
 exact⟨rfl,rfl,rfl⟩
theorem Xk5 (root i:Int) (l:List (List D)):Xak QP gp 78 [.agg [.d (.int .i64 root),.d (.sl l)],vi i] (vb (decide (0<=i/\i < l.length))):=by
 refine Wr7 ?_
 simp only[go_sem]
 repeat' first|refine Kn rfl ?_|((first|refine Ka ?_|refine Kb ?_|refine Kv ?_|refine Ke ?_);simp only[go_sem])|refine Kf ?_|refine Kg ?_|apply Kp<;>intro _|((first|refine Kh ?_|refine Ki rfl ?_);simp only[or_self,Qs,Qt,Qu,Qv,Qw,Qx,Qy,Qz,Za,go_sem])
 all_goals grind
abbrev Nd.vd (x:Nd) (n:Int):List D:=x.ds++[.int .i64 n]
abbrev Nd.vw (x:Nd) (n:Int):V:=.agg (x.as++[.d (.int .i64 n)])
theorem Xix (x:Nd) (n:Int):Xak QP gp 79 [x.vw n] (vb (decide (x.keys.length=x.kids.length))):=by
 refine Wsb ?_
 simp only[go_sem]
 repeat' first|refine Kn rfl ?_|((first|refine Ka ?_|refine Kb ?_|refine Kv ?_|refine Ke ?_);simp only[go_sem])|refine Kf ?_|refine Kg ?_|apply Kp<;>intro _|((first|refine Kh ?_|refine Ki rfl ?_);simp only[or_self,Qs,Qt,Qu,Qv,Qw,Qx,Qy,Qz,Za,go_sem])
 grind
def Nd.zero:Nd:=⟨0,⟨0,0,⟨#[]⟩⟩,[],[]⟩
def Xau (l:List Nd) (i:Int):Nd:=if 0<=i/\i < l.length then (l[i.toNat]?).getD Nd.zero else Nd.zero
def atN (l:List Nd) (i:Int):Int:=if 0<=i/\i < l.length then l.length else 0
def atE (l:List Nd) (i:Int):Int:=if 0<=i/\i < l.length then 0 else 2
theorem Xth (g:Gr) (i:Int):Xak QP gp 49 [g.v,vi i] (.tup [(Xau g.l i).vw (atN g.l i),vi (atE g.l i)]):=by
 refine Wp3 ?_
 simp only[go_sem]
 repeat' first|refine Kn rfl ?_|((first|refine Ka ?_|refine Kb ?_|refine Kv ?_|refine Ke ?_);simp only[go_sem])|refine Kf ?_|refine Kg ?_|refine⟨_,Xk5 _ _ _,Kg ?_⟩|refine⟨_,⟨Xk5 _ _ _,rfl⟩,Kg ?_⟩|apply Kp<;>intro _|((first|refine Kh ?_|refine Ki rfl ?_);simp only[or_self,Qs,Qt,Qu,Qv,Qw,Qx,Qy,Qz,Za,go_sem])
 ·rename_i h
  have h:¬ (0<=i/\i < (g.l.length:Int)):=by intro h2;simp[h2] at h
  simp only[Xau,atN,atE,if_neg h]
  simp[Nd.zero]
 ·rename_i h
  have h:0<=i/\i < (g.l.length:Int):=Classical.byContradiction fun h2=>by simp[h2] at h
  obtain⟨n,rfl⟩:=Int.eq_ofNat_of_zero_le h.1
  obtain⟨x,hx⟩:=Xai (l:=g.l) (i:=n) (by omega)
  have hr:Xau g.l n=x:=by simp only[Xau,if_pos h,Int.toNat_natCast,hx,Option.getD_some]
  rw[hr]
  refine⟨_,⟨Kq _,(by rw[Int.toNat_natCast];exact Xab hx),rfl⟩,Kg ?_⟩
  simp only[go_sem]
  repeat' first|refine Kn rfl ?_|((first|refine Ka ?_|refine Kb ?_|refine Kv ?_|refine Ke ?_);simp only[go_sem])|refine Kf ?_|refine Kg ?_|apply Kp<;>intro _|((first|refine Kh ?_|refine Ki rfl ?_);simp only[or_self,Qs,Qt,Qu,Qv,Qw,Qx,Qy,Qz,Za,go_sem])
  simp[atN,atE,h]
theorem W49 (x y:Nd):Xak QP gp 83 [x.v,y.v] (vb (decide (x.k=y.k/\x.x=y.x/\x.keys=y.keys/\x.kids=y.kids))):=by
 refine Wsq ?_
 simp only[go_sem]
 repeat' first|refine Kn rfl ?_|((first|refine Ka ?_|refine Kb ?_|refine Kv ?_|refine Ke ?_);simp only[Xhn,go_sem])|refine Kf ?_|refine Kg ?_|refine⟨_,Ywg _ _,Kg ?_⟩|refine⟨_,⟨Ywg _ _,rfl⟩,Kg ?_⟩|refine⟨_,X91 _ _,Kg ?_⟩|refine⟨_,⟨X91 _ _,rfl⟩,Kg ?_⟩|apply Kp<;>intro _|((first|refine Kh ?_|refine Ki rfl ?_);simp only[Xhn,or_self,Qs,Qt,Qu,Qv,Qw,Qx,Qy,Qz,Za,go_sem])
 all_goals grind
theorem W5a (x y:Nd):(x.k=y.k/\x.x=y.x/\x.keys=y.keys/\x.kids=y.kids)↔x=y:=by
 cases x;cases y;simp
theorem Ywh (x y:Nd):Xak QP gp 83 [x.v,y.v] (vb (decide (x=y))):=by
 have:=W49 (gp:=gp) x y
 simpa only [W5a] using this
theorem Ywi (l m:List Nd):Xak QP gp 86 [.one (.d (.sl (nds l))),.one (.d (.sl (nds m))),.one (.d (.fn (.func 83) []))] (vb (decide (l=m))):=by
 refine Wtb ?_
 simp only[go_sem]
 repeat' first|refine Kn rfl ?_|((first|refine Ka ?_|refine Kb ?_|refine Kv ?_|refine Ke ?_);simp only[go_sem])|refine Kf ?_|refine Kg ?_|apply Kp<;>intro _|((first|refine Kh ?_|refine Ki rfl ?_);simp only[or_self,Qs,Qt,Qu,Qv,Qw,Qx,Qy,Qz,Za,go_sem])
 ·rename_i h;simp[Xod h]
 ·rename_i h
  have hlen:l.length=m.length:=by simp at h;omega
  refine Xpf 0 rfl fun hl=>?_
  refine Kt (fr 32 [(0,.one (.d (.sl (nds l)))),(1,.one (.d (.sl (nds m)))),(2,.one (.d (.fn (.func 83) []))),(15,.one (.d (.sl (nds l)))),(16,vi l.length),(17,vi (0:Nat))]) ?_
  refine Km (fun mz sz=>∃ i:Nat,i<=l.length/\mz=l.length - i/\(l.take i=m.take i)/\sz=⟨fr 32 [(0,.one (.d (.sl (nds l)))),(1,.one (.d (.sl (nds m)))),(2,.one (.d (.fn (.func 83) []))),(15,.one (.d (.sl (nds l)))),(16,vi l.length),(17,vi i)],[]⟩) (l.length) ⟨0,Nat.zero_le _,(Nat.sub_zero _).symm,?_,rfl⟩ ?_
  ·simp
  rintro _ _ ⟨i,hi,rfl,hz,rfl⟩
  simp only[List.length_map] at hl
  simp only[go_sem]
  by_cases hil:i < l.length
  ·obtain⟨x,hx⟩:=Xai hil
   obtain⟨y,hy⟩:=Xai (l:=m) (i:=i) (by omega)
   repeat' first|refine Kn rfl ?_|((first|refine Ka ?_|refine Kb ?_|refine Kv ?_|refine Ke ?_);simp only[go_sem])|refine Kf ?_|refine Kg ?_|refine⟨_,Ywh _ _,Kg ?_⟩|refine⟨_,⟨Ywh _ _,rfl⟩,Kg ?_⟩|refine⟨_,⟨Kq _,(by first|exact Xab hx|(rw[Int.toNat_natCast];exact Xab hx)),rfl⟩,Kg ?_⟩|refine⟨_,⟨Kq _,(by first|exact Xab hy|(rw[Int.toNat_natCast];exact Xab hy)),rfl⟩,Kg ?_⟩|apply Kp<;>intro _|((first|refine Kh ?_|refine Ki rfl ?_);simp only[or_self,Qs,Qt,Qu,Qv,Qw,Qx,Qy,Qz,Za,go_sem])
   ·rename_i h;simp[X0p hx hy (by simpa using h)]
   ·refine⟨Xah hil hl,?_⟩
    rename_i h
    refine Kt (fr 32 [(0,.one (.d (.sl (nds l)))),(1,.one (.d (.sl (nds m)))),(2,.one (.d (.fn (.func 83) []))),(15,.one (.d (.sl (nds l)))),(16,vi l.length),(17,vi (i+1))]) ?_
    refine Ku 0 ?_
    simp only[go_sem]
    refine Kl ⟨l.length - (i+1),by omega,i+1,by omega,rfl,?_,rfl⟩
    exact Xj2 hz hx hy (by simpa using h)
   ·omega
  ·repeat' (first|refine Kn rfl ?_|((first|refine Ka ?_|refine Kb ?_|refine Kv ?_|refine Ke ?_);simp only[go_sem])|refine Kf ?_|refine Kg ?_|apply Kp<;>intro _|((first|refine Kh ?_|refine Ki rfl ?_);simp only[or_self,Qs,Qt,Qu,Qv,Qw,Qx,Qy,Qz,Za,go_sem]))
   ·omega
   ·rw[List.take_of_length_le (by omega),List.take_of_length_le (by omega)] at hz
    simp[hz]
theorem Wuq (g h:Gr):(g.root==h.root && decide (g.l=h.l))=decide (g=h):=by
 cases g;cases h;simp only[Gr.mk.injEq];grind
theorem Xml (g h:Gr):Xak QP gp 53 [g.v,h.v] (vb (decide (g=h))):=by
 refine Wqt ?_
 simp only[go_sem]
 repeat' first|refine Kn rfl ?_|((first|refine Ka ?_|refine Kb ?_|refine Kv ?_|refine Ke ?_);simp only[go_sem])|refine Kf ?_|refine Kg ?_|refine⟨_,Ywi _ _,Kg ?_⟩|refine⟨_,⟨Ywi _ _,rfl⟩,Kg ?_⟩|apply Kp<;>intro _|((first|refine Kh ?_|refine Ki rfl ?_);simp only[or_self,Qs,Qt,Qu,Qv,Qw,Qx,Qy,Qz,Za,go_sem])
 all_goals (rw[<- Wuq];simp_all)
abbrev bls (l:List Bool):List (List D):=l.map fun b=>[.bool b]
def Yny {α:Type} (p:α->Bool) (l:List α):Int:=if l.any p then (l.findIdx p:Int) else -1
theorem Xmm {α:Type} {p:α->Bool} {l:List α} (h:∀ y∈l,p y=false):Yny p l=-1:=by
 unfold Yny
 rw[if_neg]
 simp only[List.any_eq_true,not_exists,not_and]
 intro y hy;simp[h y hy]
theorem Xti {α:Type} {p:α->Bool} {l:List α} {i:Nat} {x:α} (h:∀ y∈l.take i,p y=false) (hx:l[i]?=some x) (h0:p x=true):Yny p l=i:=by
 obtain⟨hi,rfl⟩:=Kr.1 hx
 unfold Yny
 rw[if_pos (List.any_eq_true.2 ⟨l[i],List.getElem_mem hi,h0⟩)]
 have:l.findIdx p=i:=by
  rw[List.findIdx_eq hi]
  refine⟨h0,fun j hj=>?_⟩
  have:l[j]∈l.take i:=by
   rw[List.mem_take_iff_getElem]
   exact⟨j,by omega,rfl⟩
  exact h _ this
 rw[this]
theorem Xpg {α:Type} (p:α->Bool) (l:List α):decide (Yny p l >= 0)=l.any p:=by
 unfold Yny
 split
 ·rename_i h;simp[h]
 ·rename_i h;simp at h;simp;exact h
theorem Xoe (l:List Bool) (v:Bool):Xak QP gp 173 [.one (.d (.sl (bls l))),vb v] (vi (Yny (fun y=>v==y) l)):=by
 refine Wbg ?_
 simp only[go_sem]
 repeat' first|refine Kn rfl ?_|((first|refine Ka ?_|refine Kb ?_|refine Kv ?_|refine Ke ?_);simp only[go_sem])|refine Kf ?_|refine Kg ?_|apply Kp<;>intro _|((first|refine Kh ?_|refine Ki rfl ?_);simp only[or_self,Qs,Qt,Qu,Qv,Qw,Qx,Qy,Qz,Za,go_sem])
 refine Xpf 0 rfl fun hl=>?_
 refine Kt (fr 19 [(0,.one (.d (.sl (bls l)))),(1,vb v),(7,vi l.length),(8,vi (0:Nat))]) ?_
 refine Km (fun mz sz=>∃ i:Nat,i<=l.length/\mz=l.length - i/\(∀ y∈l.take i,(v==y)=false)/\sz=⟨fr 19 [(0,.one (.d (.sl (bls l)))),(1,vb v),(7,vi l.length),(8,vi i)],[]⟩) (l.length) ⟨0,Nat.zero_le _,(Nat.sub_zero _).symm,?_,rfl⟩ ?_
 ·simp
 rintro _ _ ⟨i,hi,rfl,hz,rfl⟩
 simp only[List.length_map] at hl
 simp only[go_sem]
 by_cases hil:i < l.length
 ·obtain⟨x,hx⟩:=Xai hil
  repeat' first|refine Kn rfl ?_|((first|refine Ka ?_|refine Kb ?_|refine Kv ?_|refine Ke ?_);simp only[go_sem])|refine Kf ?_|refine Kg ?_|refine⟨_,⟨Kq _,(by first|exact Xab hx|(rw[Int.toNat_natCast];exact Xab hx)),rfl⟩,Kg ?_⟩|apply Kp<;>intro _|((first|refine Kh ?_|refine Ki rfl ?_);simp only[or_self,Qs,Qt,Qu,Qv,Qw,Qx,Qy,Qz,Za,go_sem])
  ·rename_i h;rw[Xti hz hx h]
  ·refine⟨Xah hil hl,?_⟩
   rename_i h
   refine Kt (fr 19 [(0,.one (.d (.sl (bls l)))),(1,vb v),(7,vi l.length),(8,vi (i+1))]) ?_
   refine Kl ⟨l.length - (i+1),by omega,i+1,by omega,rfl,?_,rfl⟩
   exact Xhe hz hx (by simpa using h)
  ·omega
 ·repeat' (first|refine Kn rfl ?_|((first|refine Ka ?_|refine Kb ?_|refine Kv ?_|refine Ke ?_);simp only[go_sem])|refine Kf ?_|refine Kg ?_|apply Kp<;>intro _|((first|refine Kh ?_|refine Ki rfl ?_);simp only[or_self,Qs,Qt,Qu,Qv,Qw,Qx,Qy,Qz,Za,go_sem]))
  ·omega
  ·rw[List.take_of_length_le (by omega)] at hz
   rw[Xmm hz]
theorem Xiy (l:List Bool) (v:Bool):Xak QP gp 154 [.one (.d (.sl (bls l))),vb v] (vb (l.any fun y=>v==y)):=by
 refine Wak ?_
 simp only[go_sem]
 repeat' first|refine Kn rfl ?_|((first|refine Ka ?_|refine Kb ?_|refine Kv ?_|refine Ke ?_);simp only[go_sem])|refine Kf ?_|refine Kg ?_|refine⟨_,Xoe _ _,Kg ?_⟩|refine⟨_,⟨Xoe _ _,rfl⟩,Kg ?_⟩|apply Kp<;>intro _|((first|refine Kh ?_|refine Ki rfl ?_);simp only[or_self,Qs,Qt,Qu,Qv,Qw,Qx,Qy,Qz,Za,go_sem])
 exact Xpg _ _
theorem Xj3 (l:List Bool):Xak QP gp 143 [.one (.d (.sl (bls l)))] (vb (l.all id)):=by
 refine Y9x ?_
 simp only[go_sem]
 repeat' first|refine Kn rfl ?_|((first|refine Ka ?_|refine Kb ?_|refine Kv ?_|refine Ke ?_);simp only[go_sem])|refine Kf ?_|refine Kg ?_|refine⟨_,Xiy _ _,Kg ?_⟩|refine⟨_,⟨Xiy _ _,rfl⟩,Kg ?_⟩|apply Kp<;>intro _|((first|refine Kh ?_|refine Ki rfl ?_);simp only[or_self,Qs,Qt,Qu,Qv,Qw,Qx,Qy,Qz,Za,go_sem])
 induction l <;> simp_all
theorem Xof (l:List Int) (f:FuncId) (c:D) (p:Int->Bool) (hp:∀ x,Xak QP gp f [vi x,.one (.d c)] (vb (p x))) :
  Xak QP gp 174 [.one (.d (.sl (Xag l))),.one (.d (.fn (.func f) [c]))] (vi (Yny p l)):=by
 refine Wbo ?_
 simp only[go_sem]
 repeat' first|refine Kn rfl ?_|((first|refine Ka ?_|refine Kb ?_|refine Kv ?_|refine Ke ?_);simp only[go_sem])|refine Kf ?_|refine Kg ?_|apply Kp<;>intro _|((first|refine Kh ?_|refine Ki rfl ?_);simp only[or_self,Qs,Qt,Qu,Qv,Qw,Qx,Qy,Qz,Za,go_sem])
 refine Xpf 0 rfl fun hl=>?_
 refine Kt (fr 19 [(0,.one (.d (.sl (Xag l)))),(1,.one (.d (.fn (.func f) [c]))),(7,vi l.length),(8,vi (0:Nat))]) ?_
 refine Km (fun mz sz=>∃ i:Nat,i<=l.length/\mz=l.length - i/\(∀ y∈l.take i,p y=false)/\sz=⟨fr 19 [(0,.one (.d (.sl (Xag l)))),(1,.one (.d (.fn (.func f) [c]))),(7,vi l.length),(8,vi i)],[]⟩) (l.length) ⟨0,Nat.zero_le _,(Nat.sub_zero _).symm,?_,rfl⟩ ?_
 ·simp
 rintro _ _ ⟨i,hi,rfl,hz,rfl⟩
 simp only[List.length_map] at hl
 simp only[go_sem]
 by_cases hil:i < l.length
 ·obtain⟨x,hx⟩:=Xai hil
  repeat' first|refine Kn rfl ?_|((first|refine Ka ?_|refine Kb ?_|refine Kv ?_|refine Ke ?_);simp only[go_sem])|refine Kf ?_|refine Kg ?_|refine⟨_,hp _,Kg ?_⟩|refine⟨_,⟨hp _,rfl⟩,Kg ?_⟩|refine⟨_,⟨Kq _,(by first|exact Xab hx|(rw[Int.toNat_natCast];exact Xab hx)),rfl⟩,Kg ?_⟩|apply Kp<;>intro _|((first|refine Kh ?_|refine Ki rfl ?_);simp only[or_self,Qs,Qt,Qu,Qv,Qw,Qx,Qy,Qz,Za,go_sem])
  ·rename_i h;rw[Xti hz hx h]
  ·refine⟨Xah hil hl,?_⟩
   rename_i h
   refine Kt (fr 19 [(0,.one (.d (.sl (Xag l)))),(1,.one (.d (.fn (.func f) [c]))),(7,vi l.length),(8,vi (i+1))]) ?_
   refine Kl ⟨l.length - (i+1),by omega,i+1,by omega,rfl,?_,rfl⟩
   exact Xhe hz hx (by simpa using h)
  ·omega
 ·repeat' (first|refine Kn rfl ?_|((first|refine Ka ?_|refine Kb ?_|refine Kv ?_|refine Ke ?_);simp only[go_sem])|refine Kf ?_|refine Kg ?_|apply Kp<;>intro _|((first|refine Kh ?_|refine Ki rfl ?_);simp only[or_self,Qs,Qt,Qu,Qv,Qw,Qx,Qy,Qz,Za,go_sem]))
  ·omega
  ·rw[List.take_of_length_le (by omega)] at hz
   rw[Xmm hz]
theorem Xiz (l:List Int) (f:FuncId) (c:D) (p:Int->Bool) (hp:∀ x,Xak QP gp f [vi x,.one (.d c)] (vb (p x))) :
  Xak QP gp 156 [.one (.d (.sl (Xag l))),.one (.d (.fn (.func f) [c]))] (vb (l.any p)):=by
 refine Was ?_
 simp only[go_sem]
 repeat' first|refine Kn rfl ?_|((first|refine Ka ?_|refine Kb ?_|refine Kv ?_|refine Ke ?_);simp only[go_sem])|refine Kf ?_|refine Kg ?_|refine⟨_,Xof _ _ _ _ hp,Kg ?_⟩|refine⟨_,⟨Xof _ _ _ _ hp,rfl⟩,Kg ?_⟩|apply Kp<;>intro _|((first|refine Kh ?_|refine Ki rfl ?_);simp only[or_self,Qs,Qt,Qu,Qv,Qw,Qx,Qy,Qz,Za,go_sem])
 exact Xpg _ _
theorem Xri (l:List Sc) (f:FuncId) (p:Sc->Bool) (hp:∀ x,Xak QP gp f [x.v] (vb (p x))) :
  Xak QP gp 175 [.one (.d (.sl (scs l))),.one (.d (.fn (.func f) []))] (vi (Yny p l)):=by
 refine Wbw ?_
 simp only[go_sem]
 repeat' first|refine Kn rfl ?_|((first|refine Ka ?_|refine Kb ?_|refine Kv ?_|refine Ke ?_);simp only[go_sem])|refine Kf ?_|refine Kg ?_|apply Kp<;>intro _|((first|refine Kh ?_|refine Ki rfl ?_);simp only[or_self,Qs,Qt,Qu,Qv,Qw,Qx,Qy,Qz,Za,go_sem])
 refine Xpf 0 rfl fun hl=>?_
 refine Kt (fr 19 [(0,.one (.d (.sl (scs l)))),(1,.one (.d (.fn (.func f) []))),(7,vi l.length),(8,vi (0:Nat))]) ?_
 refine Km (fun mz sz=>∃ i:Nat,i<=l.length/\mz=l.length - i/\(∀ y∈l.take i,p y=false)/\sz=⟨fr 19 [(0,.one (.d (.sl (scs l)))),(1,.one (.d (.fn (.func f) []))),(7,vi l.length),(8,vi i)],[]⟩) (l.length) ⟨0,Nat.zero_le _,(Nat.sub_zero _).symm,?_,rfl⟩ ?_
 ·simp
 rintro _ _ ⟨i,hi,rfl,hz,rfl⟩
 simp only[List.length_map] at hl
 simp only[go_sem]
 by_cases hil:i < l.length
 ·obtain⟨x,hx⟩:=Xai hil
  repeat' first|refine Kn rfl ?_|((first|refine Ka ?_|refine Kb ?_|refine Kv ?_|refine Ke ?_);simp only[go_sem])|refine Kf ?_|refine Kg ?_|refine⟨_,hp _,Kg ?_⟩|refine⟨_,⟨hp _,rfl⟩,Kg ?_⟩|refine⟨_,⟨Kq _,(by first|exact Xab hx|(rw[Int.toNat_natCast];exact Xab hx)),rfl⟩,Kg ?_⟩|apply Kp<;>intro _|((first|refine Kh ?_|refine Ki rfl ?_);simp only[or_self,Qs,Qt,Qu,Qv,Qw,Qx,Qy,Qz,Za,go_sem])
  ·rename_i h;rw[Xti hz hx h]
  ·refine⟨Xah hil hl,?_⟩
   rename_i h
   refine Kt (fr 19 [(0,.one (.d (.sl (scs l)))),(1,.one (.d (.fn (.func f) []))),(7,vi l.length),(8,vi (i+1))]) ?_
   refine Kl ⟨l.length - (i+1),by omega,i+1,by omega,rfl,?_,rfl⟩
   exact Xhe hz hx (by simpa using h)
  ·omega
 ·repeat' (first|refine Kn rfl ?_|((first|refine Ka ?_|refine Kb ?_|refine Kv ?_|refine Ke ?_);simp only[go_sem])|refine Kf ?_|refine Kg ?_|apply Kp<;>intro _|((first|refine Kh ?_|refine Ki rfl ?_);simp only[or_self,Qs,Qt,Qu,Qv,Qw,Qx,Qy,Qz,Za,go_sem]))
  ·omega
  ·rw[List.take_of_length_le (by omega)] at hz
   rw[Xmm hz]
theorem Xkt (l:List Sc) (f:FuncId) (p:Sc->Bool) (hp:∀ x,Xak QP gp f [x.v] (vb (p x))) :
  Xak QP gp 158 [.one (.d (.sl (scs l))),.one (.d (.fn (.func f) []))] (vb (l.any p)):=by
 refine Wa0 ?_
 simp only[go_sem]
 repeat' first|refine Kn rfl ?_|((first|refine Ka ?_|refine Kb ?_|refine Kv ?_|refine Ke ?_);simp only[go_sem])|refine Kf ?_|refine Kg ?_|refine⟨_,Xri _ _ _ hp,Kg ?_⟩|refine⟨_,⟨Xri _ _ _ hp,rfl⟩,Kg ?_⟩|apply Kp<;>intro _|((first|refine Kh ?_|refine Ki rfl ?_);simp only[or_self,Qs,Qt,Qu,Qv,Qw,Qx,Qy,Qz,Za,go_sem])
 exact Xpg _ _
theorem Xrj (x:Nd) (n i:Int):Xak QP gp 155 [vi i,.one (.d (.bx (x.vd n)))] (vb (decide (i < 0) || decide (i >= n))):=by
 refine Wao ?_
 simp only[go_sem]
 repeat' first|refine Kn rfl ?_|((first|refine Ka ?_|refine Kb ?_|refine Kv ?_|refine Ke ?_);simp only[go_sem])|refine Kf ?_|refine Kg ?_|apply Kp<;>intro _|((first|refine Kh ?_|refine Ki rfl ?_);simp only[or_self,Qs,Qt,Qu,Qv,Qw,Qx,Qy,Qz,Za,go_sem])
 all_goals grind
def Xfj (l:List Int) (n:Int):Bool:=l.all fun i=>decide (0<=i) && decide (i < n)
theorem Xk6 (x:Nd) (n:Int):Xak QP gp 144 [x.vw n] (vb (Xfj x.kids n)):=by
 refine Y92 ?_
 simp only[go_sem]
 repeat' first|refine Kn rfl ?_|((first|refine Ka ?_|refine Kb ?_|refine Kv ?_|refine Ke ?_);simp only[go_sem])|refine Kf ?_|refine Kg ?_|refine⟨_,Xiz _ _ _ _ (Xrj x n),Kg ?_⟩|refine⟨_,⟨Xiz _ _ _ _ (Xrj x n),rfl⟩,Kg ?_⟩|apply Kp<;>intro _|((first|refine Kh ?_|refine Ki rfl ?_);simp only[or_self,Qs,Qt,Qu,Qv,Qw,Qx,Qy,Qz,Za,go_sem])
 unfold Xfj
 generalize x.kids=l
 induction l with
 | nil=>rfl
 | cons a l ih=>simp only[List.any_cons,List.all_cons,Bool.not_or,ih];congr 1;grind
def Xi0:Int:=999999999999999
def prR (R:ByteArray->Bool) (x:Sc):Bool :=
 if x.k=0 then decide (x=⟨0,0,⟨#[]⟩⟩)
 else if x.k=1 then decide (x.s=⟨#[]⟩) && (decide (x.n=0) || decide (x.n=1))
 else if x.k=2 then decide (x.s=⟨#[]⟩) && (decide (-Xi0<=x.n) && decide (x.n<=Xi0))
 else if x.k=3 then decide (x.n=0) && R x.s else false
theorem Xg0 (x:Sc):(x.k==0 && (x.n==0 && decide (x.s=⟨#[]⟩)))=decide (x=⟨0,0,⟨#[]⟩⟩):=Xhn x ⟨0,0,⟨#[]⟩⟩
theorem Xe7 (R:ByteArray->Bool) (hR:∀ s,Xak QP gp 147 [vs s] (vb (R s))) (x:Sc):Xak QP gp 127 [x.v] (vb (prR R x)):=by
 refine Y9g ?_
 simp only[go_sem]
 repeat' first|refine Kn rfl ?_|((first|refine Ka ?_|refine Kb ?_|refine Kv ?_|refine Ke ?_);simp only[Xg0,go_sem])|refine Kf ?_|refine Kg ?_|refine⟨_,hR _,Kg ?_⟩|refine⟨_,⟨hR _,rfl⟩,Kg ?_⟩|apply Kp<;>intro _|((first|refine Kh ?_|refine Ki rfl ?_);simp only[Xg0,or_self,Qs,Qt,Qu,Qv,Qw,Qx,Qy,Qz,Za,go_sem])
 all_goals (first|(unfold prR Xi0;grind)|trace_state)
theorem Xrk (R:ByteArray->Bool) (hR:∀ s,Xak QP gp 147 [vs s] (vb (R s))) (x:Sc):Xak QP gp 157 [x.v] (vb (!prR R x)):=by
 refine Waw ?_
 simp only[go_sem]
 repeat' first|refine Kn rfl ?_|((first|refine Ka ?_|refine Kb ?_|refine Kv ?_|refine Ke ?_);simp only[go_sem])|refine Kf ?_|refine Kg ?_|refine⟨_,Xe7 R hR _,Kg ?_⟩|refine⟨_,⟨Xe7 R hR _,rfl⟩,Kg ?_⟩|apply Kp<;>intro _|((first|refine Kh ?_|refine Ki rfl ?_);simp only[or_self,Qs,Qt,Qu,Qv,Qw,Qx,Qy,Qz,Za,go_sem])
 try rfl
section
variable {α:Type} [DecidableEq α] {kag:Bool} {ks:List Leaf} {kv:α->V} {v:V}
theorem Xmn (he:∀ a b,eqV kag ks (kv a) (kv b)=some (decide (a=b))):∀ (l:List α) (x:α),Xet kag ks (l.map fun a=>(kv a,v)) (kv x)=some (if x∈l then some v else none)
 | [],x=>by simp[Xet]
 | a::l,x=>by
  simp only[List.map_cons,Xet,he]
  by_cases h:x=a
  ·simp[h]
  ·simp only[h,decide_false,Xmn he l x,List.mem_cons,false_or]
theorem Xph (he:∀ a b,eqV kag ks (kv a) (kv b)=some (decide (a=b))):∀ (l:List α) (x:α),x ∉ l->Xnm kag ks (l.map fun a=>(kv a,v)) (kv x) v=some ((l++[x]).map fun a=>(kv a,v))
 | [],x,_=>by simp[Xnm]
 | a::l,x,h=>by
  simp only[List.mem_cons,not_or] at h
  simp only[List.map_cons,Xnm,he,h.1,decide_false,Xph he l x h.2,List.cons_append]
end
theorem Ywj (x y:Sc):eqV true [.i,.i,.s] x.v y.v=some (decide (x=y)):=by
 simp only[go_sem]
 rw[Xhn]
abbrev Ynz (l:List Sc):List (V × V):=l.map fun a=>(Sc.v a,vb true)
theorem X0q (l:List Sc):(Ch.map (Ynz l)).refs=[]:=by
 simp only[Ch.refs]
 rw[List.flatMap_eq_nil_iff]
 intro e he
 obtain⟨a,_,rfl⟩:=List.mem_map.1 he
 rfl
theorem Wur (l:List Sc):Xak QP gp 176 [.one (.d (.sl (scs l)))] (.one (.d (.fn (.func 186) [.bx [.sl (scs l)]]))):=by
 refine Wb0 ?_
 simp only[go_sem]
 repeat' first|refine Kn rfl ?_|((first|refine Ka ?_|refine Kb ?_|refine Kv ?_|refine Ke ?_);simp only[go_sem])|refine Kf ?_|refine Kg ?_|apply Kp<;>intro _|((first|refine Kh ?_|refine Ki rfl ?_);simp only[or_self,Qs,Qt,Qu,Qv,Qw,Qx,Qy,Qz,Za,go_sem])
theorem Xxf {α:Type} [DecidableEq α] {l:List α} {i:Nat} {x:α} (hx:l[i]?=some x) (hm:x∈l.take i):¬ l.Nodup:=by
 intro h
 obtain⟨hi,rfl⟩:=Kr.1 hx
 rw[List.mem_take_iff_getElem] at hm
 obtain⟨j,hj,e⟩:=hm
 exact List.pairwise_iff_getElem.1 h j i (by omega) hi (by omega) e
theorem Xen {α:Type} {l:List α} {i:Nat} {x:α} (hx:l[i]?=some x):l.take i++[x]=l.take (i+1):=by
 rw[List.take_succ,hx];rfl
theorem X0r {α:Type} {l:List α} {i:Nat} {x:α} (hx:l[i]?=some x) (hm:x ∉ l.take i) (h:(l.take i).Nodup):(l.take (i+1)).Nodup:=by
 rw[<- Xen hx,List.nodup_append]
 refine⟨h,by simp,?_⟩
 intro a ha b hb;simp at hb;subst hb;rintro rfl;exact hm ha
theorem Wus (l:List Sc):Xak QP gp 159 [.one (.d (.sl (scs l)))] (vb (!decide l.Nodup)):=by
 refine Wa8 ?_
 simp only[go_sem]
 repeat' first|refine Kn rfl ?_|((first|refine Ka ?_|refine Kb ?_|refine Kv ?_|refine Ke ?_);simp only[go_sem])|refine Kf ?_|refine Kg ?_|refine⟨_,Wur _,Kg ?_⟩|refine⟨_,⟨Wur _,rfl⟩,Kg ?_⟩|apply Kp<;>intro _|((first|refine Kh ?_|refine Ki rfl ?_);simp only[or_self,Qs,Qt,Qu,Qv,Qw,Qx,Qy,Qz,Za,go_sem])
 refine Woa (f2:=186) (caps:=[.one (.d (.bx [.sl (scs l)]))]) (fun pd own'=>pd=none/\∃ n:Nat,own'.head?=some (.cells [.d (.int .i64 n)])/\decide ((n:Int) < l.length)=!decide l.Nodup) rfl ?_ Wb6 ?_ ?_ ?_
 ·intro y;simp only[go_sem]
 ·rintro b rc hps ⟨hs,hta,htb⟩
  refine Ynw ?_
  simp only[go_sem]
  repeat' first|refine Kn rfl ?_|((first|refine Ka ?_|refine Kb ?_|refine Kv ?_|refine Ke ?_);simp only[go_sem])|refine Kf ?_|refine Kg ?_|apply Kp<;>intro _|((first|refine Kh ?_|refine Ki rfl ?_);simp only[or_self,Qs,Qt,Qu,Qv,Qw,Qx,Qy,Qz,Za,go_sem])
  refine Ysx 1 0 rfl rfl fun hl=>?_
  simp only[List.length_map] at hl
  refine Kt (fr 25 [(0,.one (.d (.raw (.func (.yield b) #[] #[])))),(1,.one (.d (.bx [.sl (scs l)]))),(3,.one (.own 2 0)),(7,.one (.d (.sl (scs l)))),(8,vi l.length),(9,vi (0:Nat))]) ?_
  refine Km (fun mz sz=>∃ i:Nat,i<=l.length/\mz=l.length - i/\((l.take i).Nodup)/\sz=⟨fr 25 [(0,.one (.d (.raw (.func (.yield b) #[] #[])))),(1,.one (.d (.bx [.sl (scs l)]))),(3,.one (.own 2 0)),(7,.one (.d (.sl (scs l)))),(8,vi l.length),(9,vi i)],[.cells [.d (.int .i64 ((i:Nat):Int))],.lp b _ rc .ready none,.map (Ynz (l.take i))]⟩) (l.length) ⟨0,Nat.zero_le _,(Nat.sub_zero _).symm,?_,rfl⟩ ?_
  ·simp
  rintro _ _ ⟨i,hi,rfl,hz,rfl⟩
  simp only[go_sem]
  by_cases hil:i < l.length
  ·obtain⟨x,hx⟩:=Xai hil
   repeat' first|refine Kn rfl ?_|((first|refine Ka ?_|refine Kb ?_|refine Kv ?_|refine Ke ?_);simp only[go_sem])|refine Kf ?_|refine Kg ?_|refine⟨_,⟨Kq _,(by first|exact Xab hx|(rw[Int.toNat_natCast];exact Xab hx)),rfl⟩,Kg ?_⟩|apply Kp<;>intro _|((first|refine Kh ?_|refine Ki rfl ?_);simp only[or_self,Qs,Qt,Qu,Qv,Qw,Qx,Qy,Qz,Za,go_sem])
   ·have hf:=Xmn (v:=vb true) Ywj (l.take i) x
    by_cases hm:x∈l.take i
    ·simp only[hm,if_true] at hf
     refine⟨_,⟨hf,rfl⟩,Kg ?_⟩
     simp only[go_sem]
     repeat' first|refine Kn rfl ?_|((first|refine Ka ?_|refine Kb ?_|refine Kv ?_|refine Ke ?_);simp only[go_sem])|refine Kf ?_|refine Kg ?_|apply Kp<;>intro _|((first|refine Kh ?_|refine Ki rfl ?_);simp only[or_self,Qs,Qt,Qu,Qv,Qw,Qx,Qy,Qz,Za,go_sem])
     refine⟨.ready,none,rfl,by simp,rfl,i,rfl,?_⟩
     have:=Xxf hx hm
     simp[this];omega
    ·simp only[hm,if_false] at hf
     refine⟨_,⟨hf,rfl⟩,Kg ?_⟩
     simp only[go_sem]
     repeat' first|refine Kn rfl ?_|((first|refine Ka ?_|refine Kb ?_|refine Kv ?_|refine Ke ?_);simp only[go_sem])|refine Kf ?_|refine Kg ?_|apply Kp<;>intro _|((first|refine Kh ?_|refine Ki rfl ?_);simp only[or_self,Qs,Qt,Qu,Qv,Qw,Qx,Qy,Qz,Za,go_sem])
     have hn:inK .i64 ((i:Int)+1):=Xah hil hl
     refine⟨[.cells [.d (.int .i64 ((i:Int)+1))],.lp b _ rc .ready none,.map (Ynz (l.take i)),.cells x.as],true,Nat.le_refl _,⟨1,_,rc,hs,_,_,[.cells [.d (.int .i64 ((i:Int)+1))],.dead,.map (Ynz (l.take i)),.cells x.as],none,rfl,by rw[<- Array.length_toList,hps];rfl,hta,htb,?_,rfl,rfl⟩,Kg ?_⟩
     ·rw[hps]
      simp only[go_sem]
      repeat' first|refine Kn rfl ?_|((first|refine Ka ?_|refine Kb ?_|refine Kv ?_|refine Ke ?_);simp only[go_sem])|refine Kf ?_|refine Kg ?_|apply Kp<;>intro _|((first|refine Kh ?_|refine Ki rfl ?_);simp only[or_self,Qs,Qt,Qu,Qv,Qw,Qx,Qy,Qz,Za,go_sem])
      refine Xjy ⟨rfl,?_⟩
      repeat' first|refine Kn rfl ?_|((first|refine Ka ?_|refine Kb ?_|refine Kv ?_|refine Ke ?_);simp only[go_sem])|refine Kf ?_|refine Kg ?_|apply Kp<;>intro _|((first|refine Kh ?_|refine Ki rfl ?_);simp only[or_self,Qs,Qt,Qu,Qv,Qw,Qx,Qy,Qz,Za,go_sem])
      refine⟨hn,?_⟩
      repeat' first|refine Kn rfl ?_|((first|refine Ka ?_|refine Kb ?_|refine Kv ?_|refine Ke ?_);simp only[go_sem])|refine Kf ?_|refine Kg ?_|apply Kp<;>intro _|((first|refine Kh ?_|refine Ki rfl ?_);simp only[or_self,Qs,Qt,Qu,Qv,Qw,Qx,Qy,Qz,Za,go_sem])
      exact Xjy ⟨⟨rfl,rfl⟩,rfl⟩
     ·simp only[go_sem]
      repeat' first|refine Kn rfl ?_|((first|refine Ka ?_|refine Kb ?_|refine Kv ?_|refine Ke ?_);simp only[go_sem])|refine Kf ?_|refine Kg ?_|apply Kp<;>intro _|((first|refine Kh ?_|refine Ki rfl ?_);simp only[or_self,Qs,Qt,Qu,Qv,Qw,Qx,Qy,Qz,Za,go_sem])
      refine⟨_,Xph Ywj _ x hm,Kg ?_⟩
      rw[Xen hx]
      simp only[go_sem]
      repeat' first|refine Kn rfl ?_|((first|refine Ka ?_|refine Kb ?_|refine Kv ?_|refine Ke ?_);simp only[go_sem])|refine Kf ?_|refine Kg ?_|apply Kp<;>intro _|((first|refine Kh ?_|refine Ki rfl ?_);simp only[or_self,Qs,Qt,Qu,Qv,Qw,Qx,Qy,Qz,Za,go_sem])
      refine⟨hn,?_⟩
      refine Kt (fr 25 [(0,.one (.d (.raw (.func (.yield b) #[] #[])))),(1,.one (.d (.bx [.sl (scs l)]))),(3,.one (.own 2 0)),(7,.one (.d (.sl (scs l)))),(8,vi l.length),(9,vi (i+1))]) ?_
      refine Kk 3 (by simp only[List.length_nil,List.length_cons];decide) (by simp only[go_sem]) (by simp only[List.take_succ_cons,List.take_zero,List.all_cons,List.all_nil,X0q];try simp only[go_sem]) ?_
      simp only[go_sem]
      refine Kl ⟨l.length - (i+1),by omega,i+1,by omega,rfl,?_,rfl⟩
      exact X0r hx hm hz
   ·omega
  ·repeat' (first|refine Kn rfl ?_|((first|refine Ka ?_|refine Kb ?_|refine Kv ?_|refine Ke ?_);simp only[go_sem])|refine Kf ?_|refine Kg ?_|apply Kp<;>intro _|((first|refine Kh ?_|refine Ki rfl ?_);simp only[or_self,Qs,Qt,Qu,Qv,Qw,Qx,Qy,Qz,Za,go_sem]))
   ·omega
   ·refine⟨.ready,none,rfl,by simp,rfl,i,rfl,?_⟩
    rw[List.take_of_length_le (by omega)] at hz
    simp[hz];omega
 ·rintro (_|⟨c,own'⟩) ⟨_,n,h1,h2⟩
  ·cases h1
  ·simp only[List.head?_cons,Option.some.injEq] at h1
   subst h1
   simp only[go_sem]
   repeat' first|refine Kn rfl ?_|((first|refine Ka ?_|refine Kb ?_|refine Kv ?_|refine Ke ?_);simp only[go_sem])|refine Kf ?_|refine Kg ?_|apply Kp<;>intro _|((first|refine Kh ?_|refine Ki rfl ?_);simp only[or_self,Qs,Qt,Qu,Qv,Qw,Qx,Qy,Qz,Za,go_sem])
   exact h2
 ·rintro _ _ ⟨h,_⟩;cases h
section
variable (R:ByteArray->Bool) (hR:∀ s,Xak QP gp 147 [vs s] (vb (R s)))
include hR
def Xpi (R:ByteArray->Bool) (l:List Sc):Bool:=l.all (prR R) && decide l.Nodup
theorem Xxg (x:Nd) (n:Int):Xak QP gp 145 [x.vw n] (vb (Xpi R x.keys)):=by
 refine Y97 ?_
 simp only[go_sem]
 repeat' first|refine Kn rfl ?_|((first|refine Ka ?_|refine Kb ?_|refine Kv ?_|refine Ke ?_);simp only[go_sem])|refine Kf ?_|refine Kg ?_|refine⟨_,Xkt _ _ _ (Xrk R hR),Kg ?_⟩|refine⟨_,⟨Xkt _ _ _ (Xrk R hR),rfl⟩,Kg ?_⟩|refine⟨_,Wus _,Kg ?_⟩|refine⟨_,⟨Wus _,rfl⟩,Kg ?_⟩|apply Kp<;>intro _|((first|refine Kh ?_|refine Ki rfl ?_);simp only[or_self,Qs,Qt,Qu,Qv,Qw,Qx,Qy,Qz,Za,go_sem])
 all_goals (unfold Xpi;grind)
def Yn0 (R:ByteArray->Bool) (x:Nd):Bool:=prR R x.x && (decide (x.keys=[]) && decide (x.kids=[]))
theorem Ywk (x:Nd) (n:Int):Xak QP gp 122 [x.vw n] (vb (Yn0 R x)):=by
 refine Y80 ?_
 simp only[go_sem]
 repeat' first|refine Kn rfl ?_|((first|refine Ka ?_|refine Kb ?_|refine Kv ?_|refine Ke ?_);simp only[go_sem])|refine Kf ?_|refine Kg ?_|refine⟨_,Xe7 R hR _,Kg ?_⟩|refine⟨_,⟨Xe7 R hR _,rfl⟩,Kg ?_⟩|refine⟨_,Xj3 [_,_,_],Kg ?_⟩|refine⟨_,⟨Xj3 [_,_,_],rfl⟩,Kg ?_⟩|apply Kp<;>intro _|((first|refine Kh ?_|refine Ki rfl ?_);simp only[or_self,Qs,Qt,Qu,Qv,Qw,Qx,Qy,Qz,Za,go_sem])
 unfold Yn0
 cases x.keys <;> cases x.kids <;> simp <;> omega
def isZ (x:Sc):Bool:=decide (x=⟨0,0,⟨#[]⟩⟩)
def Yn1 (x:Nd) (n:Int):Bool:=isZ x.x && (decide (x.keys=[]) && Xfj x.kids n)
omit hR in
theorem Ywl (x:Nd) (n:Int):Xak QP gp 123 [x.vw n] (vb (Yn1 x n)):=by
 refine Y84 ?_
 simp only[go_sem]
 repeat' first|refine Kn rfl ?_|((first|refine Ka ?_|refine Kb ?_|refine Kv ?_|refine Ke ?_);simp only[Xg0,go_sem])|refine Kf ?_|refine Kg ?_|refine⟨_,Xk6 _ _,Kg ?_⟩|refine⟨_,⟨Xk6 _ _,rfl⟩,Kg ?_⟩|refine⟨_,Xj3 [_,_,_],Kg ?_⟩|refine⟨_,⟨Xj3 [_,_,_],rfl⟩,Kg ?_⟩|apply Kp<;>intro _|((first|refine Kh ?_|refine Ki rfl ?_);simp only[Xg0,or_self,Qs,Qt,Qu,Qv,Qw,Qx,Qy,Qz,Za,go_sem])
 unfold Yn1 isZ
 cases x.keys <;> simp <;> omega
def Yn2 (R:ByteArray->Bool) (x:Nd) (n:Int):Bool:=isZ x.x && (decide (x.keys.length=x.kids.length) && (Xpi R x.keys && Xfj x.kids n))
theorem Ywm (x:Nd) (n:Int):Xak QP gp 124 [x.vw n] (vb (Yn2 R x n)):=by
 refine Y88 ?_
 simp only[go_sem]
 repeat' first|refine Kn rfl ?_|((first|refine Ka ?_|refine Kb ?_|refine Kv ?_|refine Ke ?_);simp only[Xg0,go_sem])|refine Kf ?_|refine Kg ?_|refine⟨_,Xix _ _,Kg ?_⟩|refine⟨_,⟨Xix _ _,rfl⟩,Kg ?_⟩|refine⟨_,Xxg R hR _ _,Kg ?_⟩|refine⟨_,⟨Xxg R hR _ _,rfl⟩,Kg ?_⟩|refine⟨_,Xk6 _ _,Kg ?_⟩|refine⟨_,⟨Xk6 _ _,rfl⟩,Kg ?_⟩|refine⟨_,Xj3 [_,_,_,_],Kg ?_⟩|refine⟨_,⟨Xj3 [_,_,_,_],rfl⟩,Kg ?_⟩|apply Kp<;>intro _|((first|refine Kh ?_|refine Ki rfl ?_);simp only[Xg0,or_self,Qs,Qt,Qu,Qv,Qw,Qx,Qy,Qz,Za,go_sem])
 unfold Yn2 isZ
 simp
def Xbg (R:ByteArray->Bool) (x:Nd) (n:Int):Bool :=
 if x.k=0 then Yn0 R x else if x.k=1 then Yn1 x n else if x.k=2 then Yn2 R x n else false
theorem Yn3 (x:Nd) (n:Int):Xak QP gp 96 [x.vw n] (vb (Xbg R x n)):=by
 refine Wto ?_
 simp only[go_sem]
 repeat' first|refine Kn rfl ?_|((first|refine Ka ?_|refine Kb ?_|refine Kv ?_|refine Ke ?_);simp only[go_sem])|refine Kf ?_|refine Kg ?_|apply Kp<;>intro _|((first|refine Kh ?_|refine Ki rfl ?_);simp only[or_self,Qs,Qt,Qu,Qv,Qw,Qx,Qy,Qz,Za,go_sem])
 ·rename_i h1 h2
  rcases (show x.k=0\/x.k=1\/x.k=2 by omega) with h|h|h
  ·refine⟨0,⟨h,by decide⟩,Kg ?_⟩
   repeat' first|refine Kn rfl ?_|((first|refine Ka ?_|refine Kb ?_|refine Kv ?_|refine Ke ?_);simp only[go_sem])|refine Kf ?_|refine Kg ?_|refine⟨_,Ywk R hR _ _,Kg ?_⟩|refine⟨_,⟨Ywk R hR _ _,rfl⟩,Kg ?_⟩|apply Kp<;>intro _|((first|refine Kh ?_|refine Ki rfl ?_);simp only[or_self,Qs,Qt,Qu,Qv,Qw,Qx,Qy,Qz,Za,go_sem])
   simp[Xbg,h]
  ·refine⟨1,⟨h,by decide⟩,Kg ?_⟩
   repeat' first|refine Kn rfl ?_|((first|refine Ka ?_|refine Kb ?_|refine Kv ?_|refine Ke ?_);simp only[go_sem])|refine Kf ?_|refine Kg ?_|refine⟨_,Ywl _ _,Kg ?_⟩|refine⟨_,⟨Ywl _ _,rfl⟩,Kg ?_⟩|apply Kp<;>intro _|((first|refine Kh ?_|refine Ki rfl ?_);simp only[or_self,Qs,Qt,Qu,Qv,Qw,Qx,Qy,Qz,Za,go_sem])
   simp[Xbg,h]
  ·refine⟨2,⟨h,by decide⟩,Kg ?_⟩
   repeat' first|refine Kn rfl ?_|((first|refine Ka ?_|refine Kb ?_|refine Kv ?_|refine Ke ?_);simp only[go_sem])|refine Kf ?_|refine Kg ?_|refine⟨_,Ywm R hR _ _,Kg ?_⟩|refine⟨_,⟨Ywm R hR _ _,rfl⟩,Kg ?_⟩|apply Kp<;>intro _|((first|refine Kh ?_|refine Ki rfl ?_);simp only[or_self,Qs,Qt,Qu,Qv,Qw,Qx,Qy,Qz,Za,go_sem])
   simp[Xbg,h]
 all_goals (unfold Xbg;rw[if_neg (by omega),if_neg (by omega),if_neg (by omega)])
omit hR in
theorem Wut (g:Gr):Xak QP gp 95 [g.v] (.one (.d (.fn (.func 121) [.bx [.int .i64 g.root,.sl (nds g.l)]]))):=by
 refine Wtj ?_
 simp only[go_sem]
 repeat' first|refine Kn rfl ?_|((first|refine Ka ?_|refine Kb ?_|refine Kv ?_|refine Ke ?_);simp only[go_sem])|refine Kf ?_|refine Kg ?_|apply Kp<;>intro _|((first|refine Kh ?_|refine Ki rfl ?_);simp only[or_self,Qs,Qt,Qu,Qv,Qw,Qx,Qy,Qz,Za,go_sem])
def Xe8 (R:ByteArray->Bool) (g:Gr):Option (Int × Int) :=
 if g.l.length > 200 then some (0,71) else if ¬ (0<=g.root/\g.root < g.l.length) then some (-1,70)
 else (g.l.findIdx? fun x=>!Xbg R x g.l.length).map fun i=>((i:Int),70)
def W7c:Option (Int × Int)->D
 | none=>.nilI
 | some (a,e)=>.ifc 155 true [.int .i64 a,.int .i64 e]
abbrev W3y (e:Option (Int × Int)):A:=.d (W7c e)
abbrev W5b (e:Option (Int × Int)):V:=.one (W3y e)
omit hR in
theorem Xrl {l:List Nd} {p:Nd->Bool} (h:∀ y∈l,p y=false):l.findIdx? p=none:=by
 rw[List.findIdx?_eq_none_iff];exact h
omit hR in
theorem X93 {l:List Nd} {p:Nd->Bool} {i:Nat} {x:Nd} (h:∀ y∈l.take i,p y=false) (hx:l[i]?=some x) (h0:p x=true):l.findIdx? p=some i:=by
 obtain⟨hi,rfl⟩:=Kr.1 hx
 rw[List.findIdx?_eq_some_iff_getElem]
 refine⟨hi,h0,fun j hj=>?_⟩
 have:l[j]∈l.take i:=by
  rw[List.mem_take_iff_getElem]
  exact⟨j,by omega,rfl⟩
 simp[h _ this]
theorem Wuu (g:Gr):Xak QP gp 70 [g.v] (W5b (Xe8 R g)):=by
 refine Wrk ?_
 simp only[go_sem]
 repeat' first|refine Kn rfl ?_|((first|refine Ka ?_|refine Kb ?_|refine Kv ?_|refine Ke ?_);simp only[go_sem])|refine Kf ?_|refine Kg ?_|refine⟨_,Xk5 _ _ _,Kg ?_⟩|refine⟨_,⟨Xk5 _ _ _,rfl⟩,Kg ?_⟩|refine⟨_,Wut _,Kg ?_⟩|refine⟨_,⟨Wut _,rfl⟩,Kg ?_⟩|apply Kp<;>intro _|((first|refine Kh ?_|refine Ki rfl ?_);simp only[or_self,Qs,Qt,Qu,Qv,Qw,Qx,Qy,Qz,Za,go_sem])
 ·rename_i h;unfold Xe8;rw[if_pos (by omega)];rfl
 ·rename_i h1 h2
  have h3:¬ (0<=g.root/\g.root < (g.l.length:Int)):=by intro h3;simp[h3] at h2
  unfold Xe8;rw[if_neg (by omega),if_pos h3];rfl
 ·rename_i h1 h2
  have h3:0<=g.root/\g.root < (g.l.length:Int):=Classical.byContradiction fun h3=>by simp[h3] at h2
  have hck:Xe8 R g=(g.l.findIdx? fun x=>!Xbg R x g.l.length).map fun i=>((i:Int),70):=by
   unfold Xe8;rw[if_neg (by omega),if_neg (by simpa using h3)]
  rw[hck]
  refine Woa (f2:=121) (caps:=[.one (.d (.bx [.int .i64 g.root,.sl (nds g.l)]))]) (fun pd own'=>((pd=none/\(g.l.findIdx? fun x=>!Xbg R x g.l.length)=none/\own'.head?=some (.cells [.d .nilI]))\/(pd=some .ret/\∃ i:Nat,(g.l.findIdx? fun x=>!Xbg R x g.l.length)=some i/\own'.head?=some (.cells [W3y (some ((i:Int),70))])))) rfl ?_ Y8w ?_ ?_ ?_
  ·intro y;simp only[go_sem]
  ·rintro b rc hps ⟨hs,hta,htb⟩
   refine Ymy ?_
   simp only[go_sem]
   repeat' first|refine Kn rfl ?_|((first|refine Ka ?_|refine Kb ?_|refine Kv ?_|refine Ke ?_);simp only[go_sem])|refine Kf ?_|refine Kg ?_|apply Kp<;>intro _|((first|refine Kh ?_|refine Ki rfl ?_);simp only[or_self,Qs,Qt,Qu,Qv,Qw,Qx,Qy,Qz,Za,go_sem])
   refine Ysx 1 1 rfl rfl fun hl=>?_
   simp only[List.length_map] at hl
   refine Kt (fr 23 [(0,.one (.d (.raw (.func (.yield b) #[] #[])))),(1,.one (.d (.bx [.int .i64 g.root,.sl (nds g.l)]))),(6,.one (.d (.sl (nds g.l)))),(7,vi g.l.length),(8,vi (0:Nat))]) ?_
   refine Km (fun mz sz=>∃ i:Nat,i<=g.l.length/\mz=g.l.length - i/\(∀ y∈g.l.take i,(!Xbg R y g.l.length)=false)/\sz=⟨fr 23 [(0,.one (.d (.raw (.func (.yield b) #[] #[])))),(1,.one (.d (.bx [.int .i64 g.root,.sl (nds g.l)]))),(6,.one (.d (.sl (nds g.l)))),(7,vi g.l.length),(8,vi i)],[.cells [.d .nilI],.lp b _ rc .ready none]⟩) (g.l.length) ⟨0,Nat.zero_le _,(Nat.sub_zero _).symm,?_,rfl⟩ ?_
   ·simp
   rintro _ _ ⟨i,hi,rfl,hz,rfl⟩
   simp only[go_sem]
   by_cases hil:i < g.l.length
   ·obtain⟨x,hx⟩:=Xai hil
    repeat' first|refine Kn rfl ?_|((first|refine Ka ?_|refine Kb ?_|refine Kv ?_|refine Ke ?_);simp only[go_sem])|refine Kf ?_|refine Kg ?_|refine⟨_,⟨Kq _,(by first|exact Xab hx|(rw[Int.toNat_natCast];exact Xab hx)),rfl⟩,Kg ?_⟩|apply Kp<;>intro _|((first|refine Kh ?_|refine Ki rfl ?_);simp only[or_self,Qs,Qt,Qu,Qv,Qw,Qx,Qy,Qz,Za,go_sem])
    ·have hn:inK .i64 ((i:Int)+1):=Xah hil hl
     have hr:=Yn3 R hR x (g.l.length:Int)
     cases hb:Xbg R x g.l.length with
     | true =>
      rw[hb] at hr
      refine⟨[.cells [.d .nilI],.lp b _ rc .ready none,.cells x.as,.cells (x.as++[.d (.int .i64 g.l.length)])],true,by simp,⟨1,_,rc,hs,_,_,[.cells [.d .nilI],.dead,.cells x.as,.cells (x.as++[.d (.int .i64 g.l.length)])],none,rfl,by rw[<- Array.length_toList,hps];rfl,hta,htb,?_,rfl,rfl⟩,Kg ?_⟩
      ·rw[hps]
       simp only[go_sem]
       repeat' first|refine Kn rfl ?_|((first|refine Ka ?_|refine Kb ?_|refine Kv ?_|refine Ke ?_);simp only[go_sem])|refine Kf ?_|refine Kg ?_|apply Kp<;>intro _|((first|refine Kh ?_|refine Ki rfl ?_);simp only[or_self,Qs,Qt,Qu,Qv,Qw,Qx,Qy,Qz,Za,go_sem])
       refine Xjy ⟨rfl,?_⟩
       repeat' first|refine Kn rfl ?_|((first|refine Ka ?_|refine Kb ?_|refine Kv ?_|refine Ke ?_);simp only[go_sem])|refine Kf ?_|refine Kg ?_|refine⟨_,hr,Kg ?_⟩|refine⟨_,⟨hr,rfl⟩,Kg ?_⟩|apply Kp<;>intro _|((first|refine Kh ?_|refine Ki rfl ?_);simp only[or_self,Qs,Qt,Qu,Qv,Qw,Qx,Qy,Qz,Za,go_sem])
       exact Xjy ⟨⟨rfl,rfl⟩,rfl⟩
      ·simp only[go_sem]
       repeat' first|refine Kn rfl ?_|((first|refine Ka ?_|refine Kb ?_|refine Kv ?_|refine Ke ?_);simp only[go_sem])|refine Kf ?_|refine Kg ?_|apply Kp<;>intro _|((first|refine Kh ?_|refine Ki rfl ?_);simp only[or_self,Qs,Qt,Qu,Qv,Qw,Qx,Qy,Qz,Za,go_sem])
       refine⟨hn,?_⟩
       refine Kt (fr 23 [(0,.one (.d (.raw (.func (.yield b) #[] #[])))),(1,.one (.d (.bx [.int .i64 g.root,.sl (nds g.l)]))),(6,.one (.d (.sl (nds g.l)))),(7,vi g.l.length),(8,vi (i+1))]) ?_
       refine Ku 2 ?_
       simp only[go_sem]
       refine Kl ⟨g.l.length - (i+1),by omega,i+1,by omega,rfl,?_,rfl⟩
       exact Xhe hz hx (by simp[hb])
     | false =>
      rw[hb] at hr
      refine⟨[.cells [W3y (some ((i:Int),70))],.lp b _ rc .done (some .ret),.cells x.as,.cells (x.as++[.d (.int .i64 g.l.length)])],false,by simp,⟨1,_,rc,hs,_,_,[.cells [W3y (some ((i:Int),70))],.dead,.cells x.as,.cells (x.as++[.d (.int .i64 g.l.length)])],some .ret,rfl,by rw[<- Array.length_toList,hps];rfl,hta,htb,?_,rfl,rfl⟩,Kg ?_⟩
      ·rw[hps]
       simp only[go_sem]
       repeat' first|refine Kn rfl ?_|((first|refine Ka ?_|refine Kb ?_|refine Kv ?_|refine Ke ?_);simp only[go_sem])|refine Kf ?_|refine Kg ?_|apply Kp<;>intro _|((first|refine Kh ?_|refine Ki rfl ?_);simp only[or_self,Qs,Qt,Qu,Qv,Qw,Qx,Qy,Qz,Za,go_sem])
       refine Xjy ⟨rfl,?_⟩
       repeat' first|refine Kn rfl ?_|((first|refine Ka ?_|refine Kb ?_|refine Kv ?_|refine Ke ?_);simp only[go_sem])|refine Kf ?_|refine Kg ?_|refine⟨_,hr,Kg ?_⟩|refine⟨_,⟨hr,rfl⟩,Kg ?_⟩|apply Kp<;>intro _|((first|refine Kh ?_|refine Ki rfl ?_);simp only[or_self,Qs,Qt,Qu,Qv,Qw,Qx,Qy,Qz,Za,go_sem])
       exact X20 rfl ⟨⟨rfl,rfl⟩,rfl⟩
      ·simp only[go_sem]
       repeat' first|refine Kn rfl ?_|((first|refine Ka ?_|refine Kb ?_|refine Kv ?_|refine Ke ?_);simp only[go_sem])|refine Kf ?_|refine Kg ?_|apply Kp<;>intro _|((first|refine Kh ?_|refine Ki rfl ?_);simp only[or_self,Qs,Qt,Qu,Qv,Qw,Qx,Qy,Qz,Za,go_sem])
       exact⟨.done,some .ret,rfl,by simp,.inr ⟨rfl,i,X93 hz hx (by simp[hb]),rfl⟩⟩
    ·omega
   ·repeat' (first|refine Kn rfl ?_|((first|refine Ka ?_|refine Kb ?_|refine Kv ?_|refine Ke ?_);simp only[go_sem])|refine Kf ?_|refine Kg ?_|apply Kp<;>intro _|((first|refine Kh ?_|refine Ki rfl ?_);simp only[or_self,Qs,Qt,Qu,Qv,Qw,Qx,Qy,Qz,Za,go_sem]))
    ·omega
    ·rw[List.take_of_length_le (by omega)] at hz
     exact⟨.ready,none,rfl,by simp,.inl ⟨rfl,Xrl hz,rfl⟩⟩
  ·rintro (_|⟨c,own'⟩) (⟨_,h4,h5⟩|⟨h4,_⟩)
   ·cases h5
   ·cases h4
   ·simp only[List.head?_cons,Option.some.injEq] at h5
    subst h5
    rw[h4]
    repeat' first|refine Kn rfl ?_|((first|refine Ka ?_|refine Kb ?_|refine Kv ?_|refine Ke ?_);simp only[go_sem])|refine Kf ?_|refine Kg ?_|apply Kp<;>intro _|((first|refine Kh ?_|refine Ki rfl ?_);simp only[or_self,Qs,Qt,Qu,Qv,Qw,Qx,Qy,Qz,Za,go_sem])
    rfl
   ·cases h4
  ·rintro c (_|⟨c',own'⟩) (⟨h4,_⟩|⟨h4,i,h5,h6⟩)
   ·cases h4
   ·cases h6
   ·cases h4
   ·cases h4
    simp only[List.head?_cons,Option.some.injEq] at h6
    subst h6
    rw[h5]
    refine⟨.ret,rfl,?_⟩
    repeat' first|refine Kn rfl ?_|((first|refine Ka ?_|refine Kb ?_|refine Kv ?_|refine Ke ?_);simp only[go_sem])|refine Kf ?_|refine Kg ?_|apply Kp<;>intro _|((first|refine Kh ?_|refine Ki rfl ?_);simp only[or_self,Qs,Qt,Qu,Qv,Qw,Qx,Qy,Qz,Za,go_sem])
    first|exact⟨rfl,rfl⟩|rfl
end
end Go.Fw.L07
