/- Chapter 7,part 1: comparisons. -/
import Derived.Test.YtejnfjophhnaeaaGreatDoorL07Mini
import Derived.Test.YtejnfjophhnaeaaGreatDoorFd
set_option linter.all false
namespace Go.Fw.L07
open Go Go.Fw
open Go.Fw.Sh renaming intro->Kg
open Go.Fw renaming Xhi->Ka,Xef->Ka,Xed->Kb,Xhm->Kv,Xee->Ke,Xeg->Kf,Xhk->Kh,Xhj->Ki,Xdf->Kt,Xnx->Kk,Xff->Ku,Xdd->Kl,Xe9->Km,Gx->Kn
open Int renaming natCast_nonneg->Kq
open List renaming getElem?_eq_some_iff->Kr
open And renaming intro->Kp
open Go.Proofs.Tryz renaming prog->QP
open Go.Fw.V.one renaming injEq->Qs
open Go.Fw.V.agg renaming injEq->Qt
open Go.Fw.V.tup renaming injEq->Qu
open Go.Fw.A.d renaming injEq->Qv
open Go.Fw.D.bool renaming injEq->Qw
open Go.Fw.D.int renaming injEq->Qx
open Go.Fw.D.str renaming injEq->Qy
open Go.Fw.D.sl renaming injEq->Qz
open List.cons renaming injEq->Za
set_option maxRecDepth 4000
variable {gp:Xag}
abbrev vi (n:Int):V:=.one (.d (.int .i64 n))
abbrev vb (b:Bool):V:=.one (.d (.bool b))
abbrev vs (s:ByteArray):V:=.one (.d (.str s))
structure Sc where
 k:Int
 n:Int
 s:ByteArray
 deriving DecidableEq
abbrev Sc.ds (x:Sc):List D:=[.int .i64 x.k,.int .i64 x.n,.str x.s]
abbrev Sc.as (x:Sc):List A:=[.d (.int .i64 x.k),.d (.int .i64 x.n),.d (.str x.s)]
abbrev Sc.v (x:Sc):V:=.agg x.as
abbrev Xai (l:List Int):List (List D):=l.map fun n=>[.int .i64 n]
abbrev scs (l:List Sc):List (List D):=l.map Sc.ds
structure Nd where
 k:Int
 x:Sc
 keys:List Sc
 kids:List Int
 deriving DecidableEq
abbrev Nd.ds (x:Nd):List D:=[.int .i64 x.k,.int .i64 x.x.k,.int .i64 x.x.n,.str x.x.s,.sl (scs x.keys),.sl (Xai x.kids)]
abbrev Nd.as (x:Nd):List A:=[.d (.int .i64 x.k),.d (.int .i64 x.x.k),.d (.int .i64 x.x.n),.d (.str x.x.s),.d (.sl (scs x.keys)),.d (.sl (Xai x.kids))]
abbrev Nd.v (x:Nd):V:=.agg x.as
abbrev nds (l:List Nd):List (List D):=l.map Nd.ds
structure Gr where
 root:Int
 l:List Nd
 deriving DecidableEq
abbrev Gr.as (g:Gr):List A:=[.d (.int .i64 g.root),.d (.sl (nds g.l))]
abbrev Gr.v (g:Gr):V:=.agg g.as
theorem Xad {α β:Type} {f:α->β} {l:List α} {i:Nat} {x:α} (h:l[i]?=some x):(l.map f)[i]?=some (f x):=by simp[h]
theorem Xaj {α:Type} {l:List α} {i:Nat} (h:i < l.length):∃ x,l[i]?=some x:=⟨_,List.getElem?_eq_getElem h⟩
theorem Xq4 (x:Int):Xam QP gp 136 [vi x] (vb false):=by
 refine Y2o ?_
 simp only[go_sem]
 repeat' first|refine Kn rfl ?_|((first|refine Ka ?_|refine Kb ?_|refine Kv ?_|refine Ke ?_);simp only[go_sem])|refine Kf ?_|refine Kg ?_|apply Kp<;>intro _|((first|refine Kh ?_|refine Ki rfl ?_);simp only[or_self,Qs,Qt,Qu,Qv,Qw,Qx,Qy,Qz,Za,go_sem])
 all_goals simp
theorem Xq5 (x:ByteArray):Xam QP gp 137 [vs x] (vb false):=by
 refine Y2s ?_
 simp only[go_sem]
 repeat' first|refine Kn rfl ?_|((first|refine Ka ?_|refine Kb ?_|refine Kv ?_|refine Ke ?_);simp only[go_sem])|refine Kf ?_|refine Kg ?_|apply Kp<;>intro _|((first|refine Kh ?_|refine Ki rfl ?_);simp only[or_self,Qs,Qt,Qu,Qv,Qw,Qx,Qy,Qz,Za,go_sem])
def Yrv (a b:Int):Int:=if a < b then -1 else if b < a then 1 else 0
theorem Xl7 (x y:Int):Xam QP gp 107 [vi x,vi y] (vi (Yrv x y)):=by
 refine Y1i ?_
 simp only[go_sem]
 repeat' first|refine Kn rfl ?_|((first|refine Ka ?_|refine Kb ?_|refine Kv ?_|refine Ke ?_);simp only[go_sem])|refine Kf ?_|refine Kg ?_|refine⟨_,Xq4 _,Kg ?_⟩|refine⟨_,⟨Xq4 _,rfl⟩,Kg ?_⟩|apply Kp<;>intro _|((first|refine Kh ?_|refine Ki rfl ?_);simp only[or_self,Qs,Qt,Qu,Qv,Qw,Qx,Qy,Qz,Za,go_sem])
 all_goals (unfold Yrv;grind)
def Wk8 (a b:ByteArray):Int:=if Op.bytesLess a.toList b.toList then -1 else if Op.bytesLess a.toList b.toList || decide (a=b) then 0 else 1
theorem Xl8 (x y:ByteArray):Xam QP gp 108 [vs x,vs y] (vi (Wk8 x y)):=by
 refine Y1q ?_
 simp only[go_sem]
 repeat' first|refine Kn rfl ?_|((first|refine Ka ?_|refine Kb ?_|refine Kv ?_|refine Ke ?_);simp only[go_sem])|refine Kf ?_|refine Kg ?_|refine⟨_,Xq5 _,Kg ?_⟩|refine⟨_,⟨Xq5 _,rfl⟩,Kg ?_⟩|apply Kp<;>intro _|((first|refine Kh ?_|refine Ki rfl ?_);simp only[or_self,Qs,Qt,Qu,Qv,Qw,Qx,Qy,Qz,Za,go_sem])
 all_goals (unfold Wk8;grind)
def orI (l:List Int):Int:=(l.find? fun x=>x != 0).getD 0
theorem Yk9 {l:List Int} (h:∀ x∈l,x=0):orI l=0:=by
 unfold orI
 rw[List.find?_eq_none.2 fun x hx=>by simp[h x hx]];rfl
theorem Wk9 {l:List Int} {i:Nat} {x:Int} (h:∀ y∈l.take i,y=0) (hx:l[i]?=some x) (h0:x≠0):orI l=x:=by
 unfold orI
 have:l=l.take i++x::l.drop (i+1):=by
  obtain⟨hi,rfl⟩:=Kr.1 hx
  rw[<- List.drop_eq_getElem_cons hi,List.take_append_drop]
 rw[this,List.find?_append,List.find?_eq_none.2 fun y hy=>by simp[h y hy]]
 simp[h0]
theorem Xhb {α:Type} {l:List α} {p:α->Prop} {i:Nat} {x:α} (h:∀ y∈l.take i,p y) (hx:l[i]?=some x) (h0:p x):∀ y∈l.take (i+1),p y:=by
 intro y hy
 rw[List.take_succ,hx] at hy
 rcases List.mem_append.1 hy with hy|hy
 ·exact h y hy
 ·simp at hy;subst hy;exact h0
theorem Yrw (l:List Int):Xam QP gp 106 [.one (.d (.sl (Xai l)))] (vi (orI l)):=by
 refine Y1a ?_
 simp only[go_sem]
 repeat' first|refine Kn rfl ?_|((first|refine Ka ?_|refine Kb ?_|refine Kv ?_|refine Ke ?_);simp only[go_sem])|refine Kf ?_|refine Kg ?_|apply Kp<;>intro _|((first|refine Kh ?_|refine Ki rfl ?_);simp only[or_self,Qs,Qt,Qu,Qv,Qw,Qx,Qy,Qz,Za,go_sem])
 refine Xzt 0 rfl fun hl=>?_
 refine Kt (fr 18 [(0,.one (.d (.sl (Xai l)))),(3,vi 0),(6,.one (.d (.sl (Xai l)))),(7,vi l.length),(8,vi (0:Nat))]) ?_
 refine Km (fun mz sz=>∃ i:Nat,i<=l.length/\mz=l.length - i/\(∀ y∈l.take i,y=0)/\sz=⟨fr 18 [(0,.one (.d (.sl (Xai l)))),(3,vi 0),(6,.one (.d (.sl (Xai l)))),(7,vi l.length),(8,vi i)],[]⟩) (l.length) ⟨0,Nat.zero_le _,(Nat.sub_zero _).symm,?_,rfl⟩ ?_
 ·simp
 rintro _ _ ⟨i,hi,rfl,hz,rfl⟩
 simp only[List.length_map] at hl
 simp only[go_sem]
 by_cases hil:i < l.length
 ·obtain⟨x,hx⟩:=Xaj hil
  repeat' first|refine Kn rfl ?_|((first|refine Ka ?_|refine Kb ?_|refine Kv ?_|refine Ke ?_);simp only[go_sem])|refine Kf ?_|refine Kg ?_|refine⟨_,⟨Kq _,(by first|exact Xad hx|(rw[Int.toNat_natCast];exact Xad hx)),rfl⟩,Kg ?_⟩|apply Kp<;>intro _|((first|refine Kh ?_|refine Ki rfl ?_);simp only[or_self,Qs,Qt,Qu,Qv,Qw,Qx,Qy,Qz,Za,go_sem])
  ·rename_i h;simp at h;rw[Wk9 hz hx h]
  ·refine⟨Xaf hil hl,?_⟩
   rename_i h
   refine Kt (fr 18 [(0,.one (.d (.sl (Xai l)))),(3,vi 0),(6,.one (.d (.sl (Xai l)))),(7,vi l.length),(8,vi (i+1))]) ?_
   refine Kl ⟨l.length - (i+1),by omega,i+1,by omega,rfl,?_,rfl⟩
   exact Xhb hz hx (by simpa using h)
  ·omega
 ·repeat' (first|refine Kn rfl ?_|((first|refine Ka ?_|refine Kb ?_|refine Kv ?_|refine Ke ?_);simp only[go_sem])|refine Kf ?_|refine Kg ?_|apply Kp<;>intro _|((first|refine Kh ?_|refine Ki rfl ?_);simp only[or_self,Qs,Qt,Qu,Qv,Qw,Qx,Qy,Qz,Za,go_sem]))
  ·omega
  ·rw[Yk9]
   rw[List.take_of_length_le (by omega)] at hz
   exact hz
def Xsv (x y:Sc):Int:=if x=y then 0 else orI [Yrv x.k y.k,Yrv x.n y.n,Wk8 x.s y.s]
theorem Xm6 (x y:Sc):(x.k==y.k && (x.n==y.n && decide (x.s=y.s)))=decide (x=y):=by
 cases x;cases y;simp only[Sc.mk.injEq];grind
theorem X8b (x y:Sc):Xam QP gp 82 [x.v,y.v] (vi (Xsv x y)):=by
 refine Wjv ?_
 simp only[go_sem]
 repeat' first|refine Kn rfl ?_|((first|refine Ka ?_|refine Kb ?_|refine Kv ?_|refine Ke ?_);simp only[Xm6,go_sem])|refine Kf ?_|refine Kg ?_|refine⟨_,Xl7 _ _,Kg ?_⟩|refine⟨_,⟨Xl7 _ _,rfl⟩,Kg ?_⟩|refine⟨_,Xl8 _ _,Kg ?_⟩|refine⟨_,⟨Xl8 _ _,rfl⟩,Kg ?_⟩|refine⟨_,Yrw [_,_,_],Kg ?_⟩|refine⟨_,⟨Yrw [_,_,_],rfl⟩,Kg ?_⟩|apply Kp<;>intro _|((first|refine Kh ?_|refine Ki rfl ?_);simp only[Xm6,or_self,Qs,Qt,Qu,Qv,Qw,Qx,Qy,Qz,Za,go_sem])
 all_goals (rename_i h;simp[Xsv,h])
theorem X8c {α:Type} {l m:List α} {i:Nat} {x y:α} (h:l.take i=m.take i) (hx:l[i]?=some x) (hy:m[i]?=some y) (e:x=y):l.take (i+1)=m.take (i+1):=by
 rw[List.take_succ,List.take_succ,h,hx,hy,e]
theorem Wla {α:Type} {l m:List α} {i:Nat} {x y:α} (hx:l[i]?=some x) (hy:m[i]?=some y) (e:x≠y):l≠m:=by
 rintro rfl;rw[hx] at hy;cases hy;exact e rfl
theorem Yrx {α:Type} {l m:List α} (e:((l.length:Int) != (m.length:Int))=true):l≠m:=by
 rintro rfl;simp at e
theorem Xsw (l m:List Int):Xam QP gp 20 [.one (.d (.sl (Xai l))),.one (.d (.sl (Xai m)))] (vb (decide (l=m))):=by
 refine Wf3 ?_
 simp only[go_sem]
 repeat' first|refine Kn rfl ?_|((first|refine Ka ?_|refine Kb ?_|refine Kv ?_|refine Ke ?_);simp only[go_sem])|refine Kf ?_|refine Kg ?_|apply Kp<;>intro _|((first|refine Kh ?_|refine Ki rfl ?_);simp only[or_self,Qs,Qt,Qu,Qv,Qw,Qx,Qy,Qz,Za,go_sem])
 ·rename_i h;simp[Yrx h]
 ·rename_i h
  have hlen:l.length=m.length:=by simp at h;omega
  refine Xzt 0 rfl fun hl=>?_
  refine Kt (fr 26 [(0,.one (.d (.sl (Xai l)))),(1,.one (.d (.sl (Xai m)))),(5,vi (0:Nat))]) ?_
  refine Km (fun mz sz=>∃ i:Nat,i<=l.length/\mz=l.length - i/\(l.take i=m.take i)/\sz=⟨fr 26 [(0,.one (.d (.sl (Xai l)))),(1,.one (.d (.sl (Xai m)))),(5,vi i)],[]⟩) (l.length) ⟨0,Nat.zero_le _,(Nat.sub_zero _).symm,?_,rfl⟩ ?_
  ·simp
  rintro _ _ ⟨i,hi,rfl,hz,rfl⟩
  simp only[List.length_map] at hl
  simp only[go_sem]
  by_cases hil:i < l.length
  ·obtain⟨x,hx⟩:=Xaj hil
   obtain⟨y,hy⟩:=Xaj (l:=m) (i:=i) (by omega)
   repeat' first|refine Kn rfl ?_|((first|refine Ka ?_|refine Kb ?_|refine Kv ?_|refine Ke ?_);simp only[go_sem])|refine Kf ?_|refine Kg ?_|refine⟨_,⟨Kq _,(by first|exact Xad hx|(rw[Int.toNat_natCast];exact Xad hx)),rfl⟩,Kg ?_⟩|refine⟨_,⟨Kq _,(by first|exact Xad hy|(rw[Int.toNat_natCast];exact Xad hy)),rfl⟩,Kg ?_⟩|apply Kp<;>intro _|((first|refine Kh ?_|refine Ki rfl ?_);simp only[or_self,Qs,Qt,Qu,Qv,Qw,Qx,Qy,Qz,Za,go_sem])
   ·rename_i h;simp[Wla hx hy (by simpa using h)]
   ·refine⟨Xaf hil hl,?_⟩
    rename_i h
    refine Kt (fr 26 [(0,.one (.d (.sl (Xai l)))),(1,.one (.d (.sl (Xai m)))),(5,vi (i+1))]) ?_
    refine Kl ⟨l.length - (i+1),by omega,i+1,by omega,rfl,?_,rfl⟩
    exact X8c hz hx hy (by simpa using h)
   ·omega
  ·repeat' (first|refine Kn rfl ?_|((first|refine Ka ?_|refine Kb ?_|refine Kv ?_|refine Ke ?_);simp only[go_sem])|refine Kf ?_|refine Kg ?_|apply Kp<;>intro _|((first|refine Kh ?_|refine Ki rfl ?_);simp only[or_self,Qs,Qt,Qu,Qv,Qw,Qx,Qy,Qz,Za,go_sem]))
   ·omega
   ·rw[List.take_of_length_le (by omega),List.take_of_length_le (by omega)] at hz
    simp[hz]
theorem Yla (l m:List Sc):Xam QP gp 52 [.one (.d (.sl (scs l))),.one (.d (.sl (scs m)))] (vb (decide (l=m))):=by
 refine Wh2 ?_
 simp only[go_sem]
 repeat' first|refine Kn rfl ?_|((first|refine Ka ?_|refine Kb ?_|refine Kv ?_|refine Ke ?_);simp only[go_sem])|refine Kf ?_|refine Kg ?_|apply Kp<;>intro _|((first|refine Kh ?_|refine Ki rfl ?_);simp only[or_self,Qs,Qt,Qu,Qv,Qw,Qx,Qy,Qz,Za,go_sem])
 ·rename_i h;simp[Yrx h]
 ·rename_i h
  have hlen:l.length=m.length:=by simp at h;omega
  refine Xzt 0 rfl fun hl=>?_
  refine Kt (fr 26 [(0,.one (.d (.sl (scs l)))),(1,.one (.d (.sl (scs m)))),(5,vi (0:Nat))]) ?_
  refine Km (fun mz sz=>∃ i:Nat,i<=l.length/\mz=l.length - i/\(l.take i=m.take i)/\sz=⟨fr 26 [(0,.one (.d (.sl (scs l)))),(1,.one (.d (.sl (scs m)))),(5,vi i)],[]⟩) (l.length) ⟨0,Nat.zero_le _,(Nat.sub_zero _).symm,?_,rfl⟩ ?_
  ·simp
  rintro _ _ ⟨i,hi,rfl,hz,rfl⟩
  simp only[List.length_map] at hl
  simp only[go_sem]
  by_cases hil:i < l.length
  ·obtain⟨x,hx⟩:=Xaj hil
   obtain⟨y,hy⟩:=Xaj (l:=m) (i:=i) (by omega)
   repeat' first|refine Kn rfl ?_|((first|refine Ka ?_|refine Kb ?_|refine Kv ?_|refine Ke ?_);simp only[Xm6,go_sem])|refine Kf ?_|refine Kg ?_|refine⟨_,⟨Kq _,(by first|exact Xad hx|(rw[Int.toNat_natCast];exact Xad hx)),rfl⟩,Kg ?_⟩|refine⟨_,⟨Kq _,(by first|exact Xad hy|(rw[Int.toNat_natCast];exact Xad hy)),rfl⟩,Kg ?_⟩|apply Kp<;>intro _|((first|refine Kh ?_|refine Ki rfl ?_);simp only[Xm6,or_self,Qs,Qt,Qu,Qv,Qw,Qx,Qy,Qz,Za,go_sem])
   ·rename_i h;simp[Wla hx hy (by simpa using h)]
   ·refine⟨Xaf hil hl,?_⟩
    rename_i h
    refine Kt (fr 26 [(0,.one (.d (.sl (scs l)))),(1,.one (.d (.sl (scs m)))),(5,vi (i+1))]) ?_
    refine Kl ⟨l.length - (i+1),by omega,i+1,by omega,rfl,?_,rfl⟩
    exact X8c hz hx hy (by simpa using h)
   ·omega
  ·repeat' (first|refine Kn rfl ?_|((first|refine Ka ?_|refine Kb ?_|refine Kv ?_|refine Ke ?_);simp only[go_sem])|refine Kf ?_|refine Kg ?_|apply Kp<;>intro _|((first|refine Kh ?_|refine Ki rfl ?_);simp only[or_self,Qs,Qt,Qu,Qv,Qw,Qx,Qy,Qz,Za,go_sem]))
   ·omega
   ·rw[List.take_of_length_le (by omega),List.take_of_length_le (by omega)] at hz
    simp[hz]
def Wr2 (s:ByteArray):ByteArray:=s.extract 0 (min s.size 100)
theorem X8d (s:ByteArray):Xam QP gp 94 [vs s] (vs (Wr2 s)):=by
 refine Wjz ?_
 simp only[go_sem]
 repeat' first|refine Kn rfl ?_|((first|refine Ka ?_|refine Kb ?_|refine Kv ?_|refine Ke ?_);simp only[go_sem])|refine Kf ?_|refine Kg ?_|apply Kp<;>intro _|((first|refine Kh ?_|refine Ki rfl ?_);simp only[or_self,Qs,Qt,Qu,Qv,Qw,Qx,Qy,Qz,Za,go_sem])
 refine⟨0,min s.size 100,⟨rfl,by split <;> omega,by omega,by omega⟩,Kg ?_⟩
 repeat' first|refine Kn rfl ?_|((first|refine Ka ?_|refine Kb ?_|refine Kv ?_|refine Ke ?_);simp only[go_sem])|refine Kf ?_|refine Kg ?_|apply Kp<;>intro _|((first|refine Kh ?_|refine Ki rfl ?_);simp only[or_self,Qs,Qt,Qu,Qv,Qw,Qx,Qy,Qz,Za,go_sem])
 rfl
def Sc.cut (x:Sc):Sc:=⟨x.k,x.n,Wr2 x.s⟩
theorem Xwn (x:Sc):Xam QP gp 68 [x.v] x.cut.v:=by
 refine Wif ?_
 simp only[go_sem]
 repeat' first|refine Kn rfl ?_|((first|refine Ka ?_|refine Kb ?_|refine Kv ?_|refine Ke ?_);simp only[go_sem])|refine Kf ?_|refine Kg ?_|refine⟨_,X8d _,Kg ?_⟩|refine⟨_,⟨X8d _,rfl⟩,Kg ?_⟩|apply Kp<;>intro _|((first|refine Kh ?_|refine Ki rfl ?_);simp only[or_self,Qs,Qt,Qu,Qv,Qw,Qx,Qy,Qz,Za,go_sem])
 exact⟨rfl,rfl,rfl⟩
theorem Xkv (root i:Int) (l:List (List D)):Xam QP gp 78 [.agg [.d (.int .i64 root),.d (.sl l)],vi i] (vb (decide (0<=i/\i < l.length))):=by
 refine Wjg ?_
 simp only[go_sem]
 repeat' first|refine Kn rfl ?_|((first|refine Ka ?_|refine Kb ?_|refine Kv ?_|refine Ke ?_);simp only[go_sem])|refine Kf ?_|refine Kg ?_|apply Kp<;>intro _|((first|refine Kh ?_|refine Ki rfl ?_);simp only[or_self,Qs,Qt,Qu,Qv,Qw,Qx,Qy,Qz,Za,go_sem])
 all_goals grind
abbrev Nd.vd (x:Nd) (n:Int):List D:=x.ds++[.int .i64 n]
abbrev Nd.vw (x:Nd) (n:Int):V:=.agg (x.as++[.d (.int .i64 n)])
theorem Xi1 (x:Nd) (n:Int):Xam QP gp 79 [x.vw n] (vb (decide (x.keys.length=x.kids.length))):=by
 refine Wjk ?_
 simp only[go_sem]
 repeat' first|refine Kn rfl ?_|((first|refine Ka ?_|refine Kb ?_|refine Kv ?_|refine Ke ?_);simp only[go_sem])|refine Kf ?_|refine Kg ?_|apply Kp<;>intro _|((first|refine Kh ?_|refine Ki rfl ?_);simp only[or_self,Qs,Qt,Qu,Qv,Qw,Qx,Qy,Qz,Za,go_sem])
 grind
def Nd.zero:Nd:=⟨0,⟨0,0,⟨#[]⟩⟩,[],[]⟩
def Xbg (l:List Nd) (i:Int):Nd:=if 0<=i/\i < l.length then (l[i.toNat]?).getD Nd.zero else Nd.zero
def atN (l:List Nd) (i:Int):Int:=if 0<=i/\i < l.length then l.length else 0
def atE (l:List Nd) (i:Int):Int:=if 0<=i/\i < l.length then 0 else 2
theorem Xsx (g:Gr) (i:Int):Xam QP gp 49 [g.v,vi i] (.tup [(Xbg g.l i).vw (atN g.l i),vi (atE g.l i)]):=by
 refine Whh ?_
 simp only[go_sem]
 repeat' first|refine Kn rfl ?_|((first|refine Ka ?_|refine Kb ?_|refine Kv ?_|refine Ke ?_);simp only[go_sem])|refine Kf ?_|refine Kg ?_|refine⟨_,Xkv _ _ _,Kg ?_⟩|refine⟨_,⟨Xkv _ _ _,rfl⟩,Kg ?_⟩|apply Kp<;>intro _|((first|refine Kh ?_|refine Ki rfl ?_);simp only[or_self,Qs,Qt,Qu,Qv,Qw,Qx,Qy,Qz,Za,go_sem])
 ·rename_i h
  have h:¬ (0<=i/\i < (g.l.length:Int)):=by intro h2;simp[h2] at h
  simp only[Xbg,atN,atE,if_neg h]
  simp[Nd.zero]
 ·rename_i h
  have h:0<=i/\i < (g.l.length:Int):=Classical.byContradiction fun h2=>by simp[h2] at h
  obtain⟨n,rfl⟩:=Int.eq_ofNat_of_zero_le h.1
  obtain⟨x,hx⟩:=Xaj (l:=g.l) (i:=n) (by omega)
  have hr:Xbg g.l n=x:=by simp only[Xbg,if_pos h,Int.toNat_natCast,hx,Option.getD_some]
  rw[hr]
  refine⟨_,⟨Kq _,(by rw[Int.toNat_natCast];exact Xad hx),rfl⟩,Kg ?_⟩
  simp only[go_sem]
  repeat' first|refine Kn rfl ?_|((first|refine Ka ?_|refine Kb ?_|refine Kv ?_|refine Ke ?_);simp only[go_sem])|refine Kf ?_|refine Kg ?_|apply Kp<;>intro _|((first|refine Kh ?_|refine Ki rfl ?_);simp only[or_self,Qs,Qt,Qu,Qv,Qw,Qx,Qy,Qz,Za,go_sem])
  simp[atN,atE,h]
abbrev bls (l:List Bool):List (List D):=l.map fun b=>[.bool b]
def Ylb {α:Type} (p:α->Bool) (l:List α):Int:=if l.any p then (l.findIdx p:Int) else -1
theorem Xl9 {α:Type} {p:α->Bool} {l:List α} (h:∀ y∈l,p y=false):Ylb p l=-1:=by
 unfold Ylb
 rw[if_neg]
 simp only[List.any_eq_true,not_exists,not_and]
 intro y hy;simp[h y hy]
theorem Xsy {α:Type} {p:α->Bool} {l:List α} {i:Nat} {x:α} (h:∀ y∈l.take i,p y=false) (hx:l[i]?=some x) (h0:p x=true):Ylb p l=i:=by
 obtain⟨hi,rfl⟩:=Kr.1 hx
 unfold Ylb
 rw[if_pos (List.any_eq_true.2 ⟨l[i],List.getElem_mem hi,h0⟩)]
 have:l.findIdx p=i:=by
  rw[List.findIdx_eq hi]
  refine⟨h0,fun j hj=>?_⟩
  have:l[j]∈l.take i:=by
   rw[List.mem_take_iff_getElem]
   exact⟨j,by omega,rfl⟩
  exact h _ this
 rw[this]
theorem Xoz {α:Type} (p:α->Bool) (l:List α):decide (Ylb p l >= 0)=l.any p:=by
 unfold Ylb
 split
 ·rename_i h;simp[h]
 ·rename_i h;simp at h;simp;exact h
theorem Xnz (l:List Bool) (v:Bool):Xam QP gp 173 [.one (.d (.sl (bls l))),vb v] (vi (Ylb (fun y=>v==y) l)):=by
 refine Y4f ?_
 simp only[go_sem]
 repeat' first|refine Kn rfl ?_|((first|refine Ka ?_|refine Kb ?_|refine Kv ?_|refine Ke ?_);simp only[go_sem])|refine Kf ?_|refine Kg ?_|apply Kp<;>intro _|((first|refine Kh ?_|refine Ki rfl ?_);simp only[or_self,Qs,Qt,Qu,Qv,Qw,Qx,Qy,Qz,Za,go_sem])
 refine Xzt 0 rfl fun hl=>?_
 refine Kt (fr 19 [(0,.one (.d (.sl (bls l)))),(1,vb v),(7,vi l.length),(8,vi (0:Nat))]) ?_
 refine Km (fun mz sz=>∃ i:Nat,i<=l.length/\mz=l.length - i/\(∀ y∈l.take i,(v==y)=false)/\sz=⟨fr 19 [(0,.one (.d (.sl (bls l)))),(1,vb v),(7,vi l.length),(8,vi i)],[]⟩) (l.length) ⟨0,Nat.zero_le _,(Nat.sub_zero _).symm,?_,rfl⟩ ?_
 ·simp
 rintro _ _ ⟨i,hi,rfl,hz,rfl⟩
 simp only[List.length_map] at hl
 simp only[go_sem]
 by_cases hil:i < l.length
 ·obtain⟨x,hx⟩:=Xaj hil
  repeat' first|refine Kn rfl ?_|((first|refine Ka ?_|refine Kb ?_|refine Kv ?_|refine Ke ?_);simp only[go_sem])|refine Kf ?_|refine Kg ?_|refine⟨_,⟨Kq _,(by first|exact Xad hx|(rw[Int.toNat_natCast];exact Xad hx)),rfl⟩,Kg ?_⟩|apply Kp<;>intro _|((first|refine Kh ?_|refine Ki rfl ?_);simp only[or_self,Qs,Qt,Qu,Qv,Qw,Qx,Qy,Qz,Za,go_sem])
  ·rename_i h;rw[Xsy hz hx h]
  ·refine⟨Xaf hil hl,?_⟩
   rename_i h
   refine Kt (fr 19 [(0,.one (.d (.sl (bls l)))),(1,vb v),(7,vi l.length),(8,vi (i+1))]) ?_
   refine Kl ⟨l.length - (i+1),by omega,i+1,by omega,rfl,?_,rfl⟩
   exact Xhb hz hx (by simpa using h)
  ·omega
 ·repeat' (first|refine Kn rfl ?_|((first|refine Ka ?_|refine Kb ?_|refine Kv ?_|refine Ke ?_);simp only[go_sem])|refine Kf ?_|refine Kg ?_|apply Kp<;>intro _|((first|refine Kh ?_|refine Ki rfl ?_);simp only[or_self,Qs,Qt,Qu,Qv,Qw,Qx,Qy,Qz,Za,go_sem]))
  ·omega
  ·rw[List.take_of_length_le (by omega)] at hz
   rw[Xl9 hz]
theorem Xi2 (l:List Bool) (v:Bool):Xam QP gp 154 [.one (.d (.sl (bls l))),vb v] (vb (l.any fun y=>v==y)):=by
 refine Y3j ?_
 simp only[go_sem]
 repeat' first|refine Kn rfl ?_|((first|refine Ka ?_|refine Kb ?_|refine Kv ?_|refine Ke ?_);simp only[go_sem])|refine Kf ?_|refine Kg ?_|refine⟨_,Xnz _ _,Kg ?_⟩|refine⟨_,⟨Xnz _ _,rfl⟩,Kg ?_⟩|apply Kp<;>intro _|((first|refine Kh ?_|refine Ki rfl ?_);simp only[or_self,Qs,Qt,Qu,Qv,Qw,Qx,Qy,Qz,Za,go_sem])
 exact Xoz _ _
theorem Xjv (l:List Bool):Xam QP gp 143 [.one (.d (.sl (bls l)))] (vb (l.all id)):=by
 refine Y2w ?_
 simp only[go_sem]
 repeat' first|refine Kn rfl ?_|((first|refine Ka ?_|refine Kb ?_|refine Kv ?_|refine Ke ?_);simp only[go_sem])|refine Kf ?_|refine Kg ?_|refine⟨_,Xi2 _ _,Kg ?_⟩|refine⟨_,⟨Xi2 _ _,rfl⟩,Kg ?_⟩|apply Kp<;>intro _|((first|refine Kh ?_|refine Ki rfl ?_);simp only[or_self,Qs,Qt,Qu,Qv,Qw,Qx,Qy,Qz,Za,go_sem])
 induction l <;> simp_all
theorem Xn0 (l:List Int) (f:FuncId) (c:D) (p:Int->Bool) (hp:∀ x,Xam QP gp f [vi x,.one (.d c)] (vb (p x))) :
  Xam QP gp 174 [.one (.d (.sl (Xai l))),.one (.d (.fn (.func f) [c]))] (vi (Ylb p l)):=by
 refine Y4n ?_
 simp only[go_sem]
 repeat' first|refine Kn rfl ?_|((first|refine Ka ?_|refine Kb ?_|refine Kv ?_|refine Ke ?_);simp only[go_sem])|refine Kf ?_|refine Kg ?_|apply Kp<;>intro _|((first|refine Kh ?_|refine Ki rfl ?_);simp only[or_self,Qs,Qt,Qu,Qv,Qw,Qx,Qy,Qz,Za,go_sem])
 refine Xzt 0 rfl fun hl=>?_
 refine Kt (fr 19 [(0,.one (.d (.sl (Xai l)))),(1,.one (.d (.fn (.func f) [c]))),(7,vi l.length),(8,vi (0:Nat))]) ?_
 refine Km (fun mz sz=>∃ i:Nat,i<=l.length/\mz=l.length - i/\(∀ y∈l.take i,p y=false)/\sz=⟨fr 19 [(0,.one (.d (.sl (Xai l)))),(1,.one (.d (.fn (.func f) [c]))),(7,vi l.length),(8,vi i)],[]⟩) (l.length) ⟨0,Nat.zero_le _,(Nat.sub_zero _).symm,?_,rfl⟩ ?_
 ·simp
 rintro _ _ ⟨i,hi,rfl,hz,rfl⟩
 simp only[List.length_map] at hl
 simp only[go_sem]
 by_cases hil:i < l.length
 ·obtain⟨x,hx⟩:=Xaj hil
  repeat' first|refine Kn rfl ?_|((first|refine Ka ?_|refine Kb ?_|refine Kv ?_|refine Ke ?_);simp only[go_sem])|refine Kf ?_|refine Kg ?_|refine⟨_,hp _,Kg ?_⟩|refine⟨_,⟨hp _,rfl⟩,Kg ?_⟩|refine⟨_,⟨Kq _,(by first|exact Xad hx|(rw[Int.toNat_natCast];exact Xad hx)),rfl⟩,Kg ?_⟩|apply Kp<;>intro _|((first|refine Kh ?_|refine Ki rfl ?_);simp only[or_self,Qs,Qt,Qu,Qv,Qw,Qx,Qy,Qz,Za,go_sem])
  ·rename_i h;rw[Xsy hz hx h]
  ·refine⟨Xaf hil hl,?_⟩
   rename_i h
   refine Kt (fr 19 [(0,.one (.d (.sl (Xai l)))),(1,.one (.d (.fn (.func f) [c]))),(7,vi l.length),(8,vi (i+1))]) ?_
   refine Kl ⟨l.length - (i+1),by omega,i+1,by omega,rfl,?_,rfl⟩
   exact Xhb hz hx (by simpa using h)
  ·omega
 ·repeat' (first|refine Kn rfl ?_|((first|refine Ka ?_|refine Kb ?_|refine Kv ?_|refine Ke ?_);simp only[go_sem])|refine Kf ?_|refine Kg ?_|apply Kp<;>intro _|((first|refine Kh ?_|refine Ki rfl ?_);simp only[or_self,Qs,Qt,Qu,Qv,Qw,Qx,Qy,Qz,Za,go_sem]))
  ·omega
  ·rw[List.take_of_length_le (by omega)] at hz
   rw[Xl9 hz]
theorem Xi3 (l:List Int) (f:FuncId) (c:D) (p:Int->Bool) (hp:∀ x,Xam QP gp f [vi x,.one (.d c)] (vb (p x))) :
  Xam QP gp 156 [.one (.d (.sl (Xai l))),.one (.d (.fn (.func f) [c]))] (vb (l.any p)):=by
 refine Y3r ?_
 simp only[go_sem]
 repeat' first|refine Kn rfl ?_|((first|refine Ka ?_|refine Kb ?_|refine Kv ?_|refine Ke ?_);simp only[go_sem])|refine Kf ?_|refine Kg ?_|refine⟨_,Xn0 _ _ _ _ hp,Kg ?_⟩|refine⟨_,⟨Xn0 _ _ _ _ hp,rfl⟩,Kg ?_⟩|apply Kp<;>intro _|((first|refine Kh ?_|refine Ki rfl ?_);simp only[or_self,Qs,Qt,Qu,Qv,Qw,Qx,Qy,Qz,Za,go_sem])
 exact Xoz _ _
theorem Xq6 (l:List Sc) (f:FuncId) (p:Sc->Bool) (hp:∀ x,Xam QP gp f [x.v] (vb (p x))) :
  Xam QP gp 175 [.one (.d (.sl (scs l))),.one (.d (.fn (.func f) []))] (vi (Ylb p l)):=by
 refine Y4v ?_
 simp only[go_sem]
 repeat' first|refine Kn rfl ?_|((first|refine Ka ?_|refine Kb ?_|refine Kv ?_|refine Ke ?_);simp only[go_sem])|refine Kf ?_|refine Kg ?_|apply Kp<;>intro _|((first|refine Kh ?_|refine Ki rfl ?_);simp only[or_self,Qs,Qt,Qu,Qv,Qw,Qx,Qy,Qz,Za,go_sem])
 refine Xzt 0 rfl fun hl=>?_
 refine Kt (fr 19 [(0,.one (.d (.sl (scs l)))),(1,.one (.d (.fn (.func f) []))),(7,vi l.length),(8,vi (0:Nat))]) ?_
 refine Km (fun mz sz=>∃ i:Nat,i<=l.length/\mz=l.length - i/\(∀ y∈l.take i,p y=false)/\sz=⟨fr 19 [(0,.one (.d (.sl (scs l)))),(1,.one (.d (.fn (.func f) []))),(7,vi l.length),(8,vi i)],[]⟩) (l.length) ⟨0,Nat.zero_le _,(Nat.sub_zero _).symm,?_,rfl⟩ ?_
 ·simp
 rintro _ _ ⟨i,hi,rfl,hz,rfl⟩
 simp only[List.length_map] at hl
 simp only[go_sem]
 by_cases hil:i < l.length
 ·obtain⟨x,hx⟩:=Xaj hil
  repeat' first|refine Kn rfl ?_|((first|refine Ka ?_|refine Kb ?_|refine Kv ?_|refine Ke ?_);simp only[go_sem])|refine Kf ?_|refine Kg ?_|refine⟨_,hp _,Kg ?_⟩|refine⟨_,⟨hp _,rfl⟩,Kg ?_⟩|refine⟨_,⟨Kq _,(by first|exact Xad hx|(rw[Int.toNat_natCast];exact Xad hx)),rfl⟩,Kg ?_⟩|apply Kp<;>intro _|((first|refine Kh ?_|refine Ki rfl ?_);simp only[or_self,Qs,Qt,Qu,Qv,Qw,Qx,Qy,Qz,Za,go_sem])
  ·rename_i h;rw[Xsy hz hx h]
  ·refine⟨Xaf hil hl,?_⟩
   rename_i h
   refine Kt (fr 19 [(0,.one (.d (.sl (scs l)))),(1,.one (.d (.fn (.func f) []))),(7,vi l.length),(8,vi (i+1))]) ?_
   refine Kl ⟨l.length - (i+1),by omega,i+1,by omega,rfl,?_,rfl⟩
   exact Xhb hz hx (by simpa using h)
  ·omega
 ·repeat' (first|refine Kn rfl ?_|((first|refine Ka ?_|refine Kb ?_|refine Kv ?_|refine Ke ?_);simp only[go_sem])|refine Kf ?_|refine Kg ?_|apply Kp<;>intro _|((first|refine Kh ?_|refine Ki rfl ?_);simp only[or_self,Qs,Qt,Qu,Qv,Qw,Qx,Qy,Qz,Za,go_sem]))
  ·omega
  ·rw[List.take_of_length_le (by omega)] at hz
   rw[Xl9 hz]
theorem Xkl (l:List Sc) (f:FuncId) (p:Sc->Bool) (hp:∀ x,Xam QP gp f [x.v] (vb (p x))) :
  Xam QP gp 158 [.one (.d (.sl (scs l))),.one (.d (.fn (.func f) []))] (vb (l.any p)):=by
 refine Y3z ?_
 simp only[go_sem]
 repeat' first|refine Kn rfl ?_|((first|refine Ka ?_|refine Kb ?_|refine Kv ?_|refine Ke ?_);simp only[go_sem])|refine Kf ?_|refine Kg ?_|refine⟨_,Xq6 _ _ _ hp,Kg ?_⟩|refine⟨_,⟨Xq6 _ _ _ hp,rfl⟩,Kg ?_⟩|apply Kp<;>intro _|((first|refine Kh ?_|refine Ki rfl ?_);simp only[or_self,Qs,Qt,Qu,Qv,Qw,Qx,Qy,Qz,Za,go_sem])
 exact Xoz _ _
theorem Xq7 (x:Nd) (n i:Int):Xam QP gp 155 [vi i,.one (.d (.bx (x.vd n)))] (vb (decide (i < 0) || decide (i >= n))):=by
 refine Y3n ?_
 simp only[go_sem]
 repeat' first|refine Kn rfl ?_|((first|refine Ka ?_|refine Kb ?_|refine Kv ?_|refine Ke ?_);simp only[go_sem])|refine Kf ?_|refine Kg ?_|apply Kp<;>intro _|((first|refine Kh ?_|refine Ki rfl ?_);simp only[or_self,Qs,Qt,Qu,Qv,Qw,Qx,Qy,Qz,Za,go_sem])
 all_goals grind
def Xc4 (l:List Int) (n:Int):Bool:=l.all fun i=>decide (0<=i) && decide (i < n)
theorem Xkw (x:Nd) (n:Int):Xam QP gp 144 [x.vw n] (vb (Xc4 x.kids n)):=by
 refine Y21 ?_
 simp only[go_sem]
 repeat' first|refine Kn rfl ?_|((first|refine Ka ?_|refine Kb ?_|refine Kv ?_|refine Ke ?_);simp only[go_sem])|refine Kf ?_|refine Kg ?_|refine⟨_,Xi3 _ _ _ _ (Xq7 x n),Kg ?_⟩|refine⟨_,⟨Xi3 _ _ _ _ (Xq7 x n),rfl⟩,Kg ?_⟩|apply Kp<;>intro _|((first|refine Kh ?_|refine Ki rfl ?_);simp only[or_self,Qs,Qt,Qu,Qv,Qw,Qx,Qy,Qz,Za,go_sem])
 unfold Xc4
 generalize x.kids=l
 induction l with
 | nil=>rfl
 | cons a l ih=>simp only[List.any_cons,List.all_cons,Bool.not_or,ih];congr 1;grind
def Xi4:Int:=999999999999999
def prR (R:ByteArray->Bool) (x:Sc):Bool :=
 if x.k=0 then decide (x=⟨0,0,⟨#[]⟩⟩)
 else if x.k=1 then decide (x.s=⟨#[]⟩) && (decide (x.n=0) || decide (x.n=1))
 else if x.k=2 then decide (x.s=⟨#[]⟩) && (decide (-Xi4<=x.n) && decide (x.n<=Xi4))
 else if x.k=3 then decide (x.n=0) && R x.s else false
theorem Xgw (x:Sc):(x.k==0 && (x.n==0 && decide (x.s=⟨#[]⟩)))=decide (x=⟨0,0,⟨#[]⟩⟩):=Xm6 x ⟨0,0,⟨#[]⟩⟩
theorem Xev (R:ByteArray->Bool) (hR:∀ s,Xam QP gp 147 [vs s] (vb (R s))) (x:Sc):Xam QP gp 127 [x.v] (vb (prR R x)):=by
 refine Y2f ?_
 simp only[go_sem]
 repeat' first|refine Kn rfl ?_|((first|refine Ka ?_|refine Kb ?_|refine Kv ?_|refine Ke ?_);simp only[Xgw,go_sem])|refine Kf ?_|refine Kg ?_|refine⟨_,hR _,Kg ?_⟩|refine⟨_,⟨hR _,rfl⟩,Kg ?_⟩|apply Kp<;>intro _|((first|refine Kh ?_|refine Ki rfl ?_);simp only[Xgw,or_self,Qs,Qt,Qu,Qv,Qw,Qx,Qy,Qz,Za,go_sem])
 all_goals (first|(unfold prR Xi4;grind)|trace_state)
theorem Xq8 (R:ByteArray->Bool) (hR:∀ s,Xam QP gp 147 [vs s] (vb (R s))) (x:Sc):Xam QP gp 157 [x.v] (vb (!prR R x)):=by
 refine Y3v ?_
 simp only[go_sem]
 repeat' first|refine Kn rfl ?_|((first|refine Ka ?_|refine Kb ?_|refine Kv ?_|refine Ke ?_);simp only[go_sem])|refine Kf ?_|refine Kg ?_|refine⟨_,Xev R hR _,Kg ?_⟩|refine⟨_,⟨Xev R hR _,rfl⟩,Kg ?_⟩|apply Kp<;>intro _|((first|refine Kh ?_|refine Ki rfl ?_);simp only[or_self,Qs,Qt,Qu,Qv,Qw,Qx,Qy,Qz,Za,go_sem])
 try rfl
section
variable {α:Type} [DecidableEq α] {kag:Bool} {ks:List Leaf} {kv:α->V} {v:V}
theorem Xi5 (he:∀ a b,eqV kag ks (kv a) (kv b)=some (decide (a=b))):∀ (l:List α) (x:α),Xep kag ks (l.map fun a=>(kv a,v)) (kv x)=some (if x∈l then some v else none)
 | [],x=>by simp[Xep]
 | a::l,x=>by
  simp only[List.map_cons,Xep,he]
  by_cases h:x=a
  ·simp[h]
  ·simp only[h,decide_false,Xi5 he l x,List.mem_cons,false_or]
theorem Xo0 (he:∀ a b,eqV kag ks (kv a) (kv b)=some (decide (a=b))):∀ (l:List α) (x:α),x ∉ l->Xob kag ks (l.map fun a=>(kv a,v)) (kv x) v=some ((l++[x]).map fun a=>(kv a,v))
 | [],x,_=>by simp[Xob]
 | a::l,x,h=>by
  simp only[List.mem_cons,not_or] at h
  simp only[List.map_cons,Xob,he,h.1,decide_false,Xo0 he l x h.2,List.cons_append]
end
theorem Yry (x y:Sc):eqV true [.i,.i,.s] x.v y.v=some (decide (x=y)):=by
 simp only[go_sem]
 rw[Xm6]
abbrev Ylc (l:List Sc):List (V × V):=l.map fun a=>(Sc.v a,vb true)
theorem Xzu (l:List Sc):(Ch.map (Ylc l)).refs=[]:=by
 simp only[Ch.refs]
 rw[List.flatMap_eq_nil_iff]
 intro e he
 obtain⟨a,_,rfl⟩:=List.mem_map.1 he
 rfl
theorem Wlb (l:List Sc):Xam QP gp 176 [.one (.d (.sl (scs l)))] (.one (.d (.fn (.func 186) [.bx [.sl (scs l)]]))):=by
 refine Y4z ?_
 simp only[go_sem]
 repeat' first|refine Kn rfl ?_|((first|refine Ka ?_|refine Kb ?_|refine Kv ?_|refine Ke ?_);simp only[go_sem])|refine Kf ?_|refine Kg ?_|apply Kp<;>intro _|((first|refine Kh ?_|refine Ki rfl ?_);simp only[or_self,Qs,Qt,Qu,Qv,Qw,Qx,Qy,Qz,Za,go_sem])
theorem Yld {α:Type} [DecidableEq α] {l:List α} {i:Nat} {x:α} (hx:l[i]?=some x) (hm:x∈l.take i):¬ l.Nodup:=by
 intro h
 obtain⟨hi,rfl⟩:=Kr.1 hx
 rw[List.mem_take_iff_getElem] at hm
 obtain⟨j,hj,e⟩:=hm
 exact List.pairwise_iff_getElem.1 h j i (by omega) hi (by omega) e
theorem Xew {α:Type} {l:List α} {i:Nat} {x:α} (hx:l[i]?=some x):l.take i++[x]=l.take (i+1):=by
 rw[List.take_succ,hx];rfl
theorem Xzv {α:Type} {l:List α} {i:Nat} {x:α} (hx:l[i]?=some x) (hm:x ∉ l.take i) (h:(l.take i).Nodup):(l.take (i+1)).Nodup:=by
 rw[<- Xew hx,List.nodup_append]
 refine⟨h,by simp,?_⟩
 intro a ha b hb;simp at hb;subst hb;rintro rfl;exact hm ha
theorem Wlc (l:List Sc):Xam QP gp 159 [.one (.d (.sl (scs l)))] (vb (!decide l.Nodup)):=by
 refine Y37 ?_
 simp only[go_sem]
 repeat' first|refine Kn rfl ?_|((first|refine Ka ?_|refine Kb ?_|refine Kv ?_|refine Ke ?_);simp only[go_sem])|refine Kf ?_|refine Kg ?_|refine⟨_,Wlb _,Kg ?_⟩|refine⟨_,⟨Wlb _,rfl⟩,Kg ?_⟩|apply Kp<;>intro _|((first|refine Kh ?_|refine Ki rfl ?_);simp only[or_self,Qs,Qt,Qu,Qv,Qw,Qx,Qy,Qz,Za,go_sem])
 refine Wsc (f2:=186) (caps:=[.one (.d (.bx [.sl (scs l)]))]) (fun pd own'=>pd=none/\∃ n:Nat,own'.head?=some (.cells [.d (.int .i64 n)])/\decide ((n:Int) < l.length)=!decide l.Nodup) rfl ?_ Y45 ?_ ?_ ?_
 ·intro y;simp only[go_sem]
 ·rintro b rc hps ⟨hs,hta,htb⟩
  refine Yk8 ?_
  simp only[go_sem]
  repeat' first|refine Kn rfl ?_|((first|refine Ka ?_|refine Kb ?_|refine Kv ?_|refine Ke ?_);simp only[go_sem])|refine Kf ?_|refine Kg ?_|apply Kp<;>intro _|((first|refine Kh ?_|refine Ki rfl ?_);simp only[or_self,Qs,Qt,Qu,Qv,Qw,Qx,Qy,Qz,Za,go_sem])
  refine Yo2 1 0 rfl rfl fun hl=>?_
  simp only[List.length_map] at hl
  refine Kt (fr 25 [(0,.one (.d (.raw (.func (.yield b) #[] #[])))),(1,.one (.d (.bx [.sl (scs l)]))),(3,.one (.own 2 0)),(7,.one (.d (.sl (scs l)))),(8,vi l.length),(9,vi (0:Nat))]) ?_
  refine Km (fun mz sz=>∃ i:Nat,i<=l.length/\mz=l.length - i/\((l.take i).Nodup)/\sz=⟨fr 25 [(0,.one (.d (.raw (.func (.yield b) #[] #[])))),(1,.one (.d (.bx [.sl (scs l)]))),(3,.one (.own 2 0)),(7,.one (.d (.sl (scs l)))),(8,vi l.length),(9,vi i)],[.cells [.d (.int .i64 ((i:Nat):Int))],.lp b _ rc .ready none,.map (Ylc (l.take i))]⟩) (l.length) ⟨0,Nat.zero_le _,(Nat.sub_zero _).symm,?_,rfl⟩ ?_
  ·simp
  rintro _ _ ⟨i,hi,rfl,hz,rfl⟩
  simp only[go_sem]
  by_cases hil:i < l.length
  ·obtain⟨x,hx⟩:=Xaj hil
   repeat' first|refine Kn rfl ?_|((first|refine Ka ?_|refine Kb ?_|refine Kv ?_|refine Ke ?_);simp only[go_sem])|refine Kf ?_|refine Kg ?_|refine⟨_,⟨Kq _,(by first|exact Xad hx|(rw[Int.toNat_natCast];exact Xad hx)),rfl⟩,Kg ?_⟩|apply Kp<;>intro _|((first|refine Kh ?_|refine Ki rfl ?_);simp only[or_self,Qs,Qt,Qu,Qv,Qw,Qx,Qy,Qz,Za,go_sem])
   ·have hf:=Xi5 (v:=vb true) Yry (l.take i) x
    by_cases hm:x∈l.take i
    ·simp only[hm,if_true] at hf
     refine⟨_,⟨hf,rfl⟩,Kg ?_⟩
     simp only[go_sem]
     repeat' first|refine Kn rfl ?_|((first|refine Ka ?_|refine Kb ?_|refine Kv ?_|refine Ke ?_);simp only[go_sem])|refine Kf ?_|refine Kg ?_|apply Kp<;>intro _|((first|refine Kh ?_|refine Ki rfl ?_);simp only[or_self,Qs,Qt,Qu,Qv,Qw,Qx,Qy,Qz,Za,go_sem])
     refine⟨.ready,none,rfl,by simp,rfl,i,rfl,?_⟩
     have:=Yld hx hm
     simp[this];omega
    ·simp only[hm,if_false] at hf
     refine⟨_,⟨hf,rfl⟩,Kg ?_⟩
     simp only[go_sem]
     repeat' first|refine Kn rfl ?_|((first|refine Ka ?_|refine Kb ?_|refine Kv ?_|refine Ke ?_);simp only[go_sem])|refine Kf ?_|refine Kg ?_|apply Kp<;>intro _|((first|refine Kh ?_|refine Ki rfl ?_);simp only[or_self,Qs,Qt,Qu,Qv,Qw,Qx,Qy,Qz,Za,go_sem])
     have hn:inK .i64 ((i:Int)+1):=Xaf hil hl
     refine⟨[.cells [.d (.int .i64 ((i:Int)+1))],.lp b _ rc .ready none,.map (Ylc (l.take i)),.cells x.as],true,Nat.le_refl _,⟨1,_,rc,hs,_,_,[.cells [.d (.int .i64 ((i:Int)+1))],.dead,.map (Ylc (l.take i)),.cells x.as],none,rfl,by rw[<- Array.length_toList,hps];rfl,hta,htb,?_,rfl,rfl⟩,Kg ?_⟩
     ·rw[hps]
      simp only[go_sem]
      repeat' first|refine Kn rfl ?_|((first|refine Ka ?_|refine Kb ?_|refine Kv ?_|refine Ke ?_);simp only[go_sem])|refine Kf ?_|refine Kg ?_|apply Kp<;>intro _|((first|refine Kh ?_|refine Ki rfl ?_);simp only[or_self,Qs,Qt,Qu,Qv,Qw,Qx,Qy,Qz,Za,go_sem])
      refine Xor ⟨rfl,?_⟩
      repeat' first|refine Kn rfl ?_|((first|refine Ka ?_|refine Kb ?_|refine Kv ?_|refine Ke ?_);simp only[go_sem])|refine Kf ?_|refine Kg ?_|apply Kp<;>intro _|((first|refine Kh ?_|refine Ki rfl ?_);simp only[or_self,Qs,Qt,Qu,Qv,Qw,Qx,Qy,Qz,Za,go_sem])
      refine⟨hn,?_⟩
      repeat' first|refine Kn rfl ?_|((first|refine Ka ?_|refine Kb ?_|refine Kv ?_|refine Ke ?_);simp only[go_sem])|refine Kf ?_|refine Kg ?_|apply Kp<;>intro _|((first|refine Kh ?_|refine Ki rfl ?_);simp only[or_self,Qs,Qt,Qu,Qv,Qw,Qx,Qy,Qz,Za,go_sem])
      exact Xor ⟨⟨rfl,rfl⟩,rfl⟩
     ·simp only[go_sem]
      repeat' first|refine Kn rfl ?_|((first|refine Ka ?_|refine Kb ?_|refine Kv ?_|refine Ke ?_);simp only[go_sem])|refine Kf ?_|refine Kg ?_|apply Kp<;>intro _|((first|refine Kh ?_|refine Ki rfl ?_);simp only[or_self,Qs,Qt,Qu,Qv,Qw,Qx,Qy,Qz,Za,go_sem])
      refine⟨_,Xo0 Yry _ x hm,Kg ?_⟩
      rw[Xew hx]
      simp only[go_sem]
      repeat' first|refine Kn rfl ?_|((first|refine Ka ?_|refine Kb ?_|refine Kv ?_|refine Ke ?_);simp only[go_sem])|refine Kf ?_|refine Kg ?_|apply Kp<;>intro _|((first|refine Kh ?_|refine Ki rfl ?_);simp only[or_self,Qs,Qt,Qu,Qv,Qw,Qx,Qy,Qz,Za,go_sem])
      refine⟨hn,?_⟩
      refine Kt (fr 25 [(0,.one (.d (.raw (.func (.yield b) #[] #[])))),(1,.one (.d (.bx [.sl (scs l)]))),(3,.one (.own 2 0)),(7,.one (.d (.sl (scs l)))),(8,vi l.length),(9,vi (i+1))]) ?_
      refine Kk 3 (by simp only[List.length_nil,List.length_cons];decide) (by simp only[go_sem]) (by simp only[List.take_succ_cons,List.take_zero,List.all_cons,List.all_nil,Xzu];try simp only[go_sem]) ?_
      simp only[go_sem]
      refine Kl ⟨l.length - (i+1),by omega,i+1,by omega,rfl,?_,rfl⟩
      exact Xzv hx hm hz
   ·omega
  ·repeat' (first|refine Kn rfl ?_|((first|refine Ka ?_|refine Kb ?_|refine Kv ?_|refine Ke ?_);simp only[go_sem])|refine Kf ?_|refine Kg ?_|apply Kp<;>intro _|((first|refine Kh ?_|refine Ki rfl ?_);simp only[or_self,Qs,Qt,Qu,Qv,Qw,Qx,Qy,Qz,Za,go_sem]))
   ·omega
   ·refine⟨.ready,none,rfl,by simp,rfl,i,rfl,?_⟩
    rw[List.take_of_length_le (by omega)] at hz
    simp[hz];omega
 ·rintro (_|⟨c,own'⟩) ⟨_,n,h1,h2⟩
  ·cases h1
  ·simp only[List.head?_cons,Option.some.injEq] at h1
   subst h1
   simp only[go_sem]
   repeat' first|refine Kn rfl ?_|((first|refine Ka ?_|refine Kb ?_|refine Kv ?_|refine Ke ?_);simp only[go_sem])|refine Kf ?_|refine Kg ?_|apply Kp<;>intro _|((first|refine Kh ?_|refine Ki rfl ?_);simp only[or_self,Qs,Qt,Qu,Qv,Qw,Qx,Qy,Qz,Za,go_sem])
   exact h2
 ·rintro _ _ ⟨h,_⟩;cases h
section
variable (R:ByteArray->Bool) (hR:∀ s,Xam QP gp 147 [vs s] (vb (R s)))
include hR
def Xo1 (R:ByteArray->Bool) (l:List Sc):Bool:=l.all (prR R) && decide l.Nodup
theorem Xwo (x:Nd) (n:Int):Xam QP gp 145 [x.vw n] (vb (Xo1 R x.keys)):=by
 refine Y26 ?_
 simp only[go_sem]
 repeat' first|refine Kn rfl ?_|((first|refine Ka ?_|refine Kb ?_|refine Kv ?_|refine Ke ?_);simp only[go_sem])|refine Kf ?_|refine Kg ?_|refine⟨_,Xkl _ _ _ (Xq8 R hR),Kg ?_⟩|refine⟨_,⟨Xkl _ _ _ (Xq8 R hR),rfl⟩,Kg ?_⟩|refine⟨_,Wlc _,Kg ?_⟩|refine⟨_,⟨Wlc _,rfl⟩,Kg ?_⟩|apply Kp<;>intro _|((first|refine Kh ?_|refine Ki rfl ?_);simp only[or_self,Qs,Qt,Qu,Qv,Qw,Qx,Qy,Qz,Za,go_sem])
 all_goals (unfold Xo1;grind)
def Yg7 (R:ByteArray->Bool) (x:Nd):Bool:=prR R x.x && (decide (x.keys=[]) && decide (x.kids=[]))
theorem Yrz (x:Nd) (n:Int):Xam QP gp 122 [x.vw n] (vb (Yg7 R x)):=by
 refine Y1z ?_
 simp only[go_sem]
 repeat' first|refine Kn rfl ?_|((first|refine Ka ?_|refine Kb ?_|refine Kv ?_|refine Ke ?_);simp only[go_sem])|refine Kf ?_|refine Kg ?_|refine⟨_,Xev R hR _,Kg ?_⟩|refine⟨_,⟨Xev R hR _,rfl⟩,Kg ?_⟩|refine⟨_,Xjv [_,_,_],Kg ?_⟩|refine⟨_,⟨Xjv [_,_,_],rfl⟩,Kg ?_⟩|apply Kp<;>intro _|((first|refine Kh ?_|refine Ki rfl ?_);simp only[or_self,Qs,Qt,Qu,Qv,Qw,Qx,Qy,Qz,Za,go_sem])
 unfold Yg7
 cases x.keys <;> cases x.kids <;> simp <;> omega
def isZ (x:Sc):Bool:=decide (x=⟨0,0,⟨#[]⟩⟩)
def X8e (x:Nd) (n:Int):Bool:=isZ x.x && (decide (x.keys=[]) && Xc4 x.kids n)
omit hR in
theorem Yr0 (x:Nd) (n:Int):Xam QP gp 123 [x.vw n] (vb (X8e x n)):=by
 refine Y13 ?_
 simp only[go_sem]
 repeat' first|refine Kn rfl ?_|((first|refine Ka ?_|refine Kb ?_|refine Kv ?_|refine Ke ?_);simp only[Xgw,go_sem])|refine Kf ?_|refine Kg ?_|refine⟨_,Xkw _ _,Kg ?_⟩|refine⟨_,⟨Xkw _ _,rfl⟩,Kg ?_⟩|refine⟨_,Xjv [_,_,_],Kg ?_⟩|refine⟨_,⟨Xjv [_,_,_],rfl⟩,Kg ?_⟩|apply Kp<;>intro _|((first|refine Kh ?_|refine Ki rfl ?_);simp only[Xgw,or_self,Qs,Qt,Qu,Qv,Qw,Qx,Qy,Qz,Za,go_sem])
 unfold X8e isZ
 cases x.keys <;> simp <;> omega
def X8f (R:ByteArray->Bool) (x:Nd) (n:Int):Bool:=isZ x.x && (decide (x.keys.length=x.kids.length) && (Xo1 R x.keys && Xc4 x.kids n))
theorem Yr1 (x:Nd) (n:Int):Xam QP gp 124 [x.vw n] (vb (X8f R x n)):=by
 refine Y17 ?_
 simp only[go_sem]
 repeat' first|refine Kn rfl ?_|((first|refine Ka ?_|refine Kb ?_|refine Kv ?_|refine Ke ?_);simp only[Xgw,go_sem])|refine Kf ?_|refine Kg ?_|refine⟨_,Xi1 _ _,Kg ?_⟩|refine⟨_,⟨Xi1 _ _,rfl⟩,Kg ?_⟩|refine⟨_,Xwo R hR _ _,Kg ?_⟩|refine⟨_,⟨Xwo R hR _ _,rfl⟩,Kg ?_⟩|refine⟨_,Xkw _ _,Kg ?_⟩|refine⟨_,⟨Xkw _ _,rfl⟩,Kg ?_⟩|refine⟨_,Xjv [_,_,_,_],Kg ?_⟩|refine⟨_,⟨Xjv [_,_,_,_],rfl⟩,Kg ?_⟩|apply Kp<;>intro _|((first|refine Kh ?_|refine Ki rfl ?_);simp only[Xgw,or_self,Qs,Qt,Qu,Qv,Qw,Qx,Qy,Qz,Za,go_sem])
 unfold X8f isZ
 simp
def Xa9 (R:ByteArray->Bool) (x:Nd) (n:Int):Bool :=
 if x.k=0 then Yg7 R x else if x.k=1 then X8e x n else if x.k=2 then X8f R x n else false
theorem Yle (x:Nd) (n:Int):Xam QP gp 96 [x.vw n] (vb (Xa9 R x n)):=by
 refine Wj8 ?_
 simp only[go_sem]
 repeat' first|refine Kn rfl ?_|((first|refine Ka ?_|refine Kb ?_|refine Kv ?_|refine Ke ?_);simp only[go_sem])|refine Kf ?_|refine Kg ?_|apply Kp<;>intro _|((first|refine Kh ?_|refine Ki rfl ?_);simp only[or_self,Qs,Qt,Qu,Qv,Qw,Qx,Qy,Qz,Za,go_sem])
 ·rename_i h1 h2
  rcases (show x.k=0\/x.k=1\/x.k=2 by omega) with h|h|h
  ·refine⟨0,⟨h,by decide⟩,Kg ?_⟩
   repeat' first|refine Kn rfl ?_|((first|refine Ka ?_|refine Kb ?_|refine Kv ?_|refine Ke ?_);simp only[go_sem])|refine Kf ?_|refine Kg ?_|refine⟨_,Yrz R hR _ _,Kg ?_⟩|refine⟨_,⟨Yrz R hR _ _,rfl⟩,Kg ?_⟩|apply Kp<;>intro _|((first|refine Kh ?_|refine Ki rfl ?_);simp only[or_self,Qs,Qt,Qu,Qv,Qw,Qx,Qy,Qz,Za,go_sem])
   simp[Xa9,h]
  ·refine⟨1,⟨h,by decide⟩,Kg ?_⟩
   repeat' first|refine Kn rfl ?_|((first|refine Ka ?_|refine Kb ?_|refine Kv ?_|refine Ke ?_);simp only[go_sem])|refine Kf ?_|refine Kg ?_|refine⟨_,Yr0 _ _,Kg ?_⟩|refine⟨_,⟨Yr0 _ _,rfl⟩,Kg ?_⟩|apply Kp<;>intro _|((first|refine Kh ?_|refine Ki rfl ?_);simp only[or_self,Qs,Qt,Qu,Qv,Qw,Qx,Qy,Qz,Za,go_sem])
   simp[Xa9,h]
  ·refine⟨2,⟨h,by decide⟩,Kg ?_⟩
   repeat' first|refine Kn rfl ?_|((first|refine Ka ?_|refine Kb ?_|refine Kv ?_|refine Ke ?_);simp only[go_sem])|refine Kf ?_|refine Kg ?_|refine⟨_,Yr1 R hR _ _,Kg ?_⟩|refine⟨_,⟨Yr1 R hR _ _,rfl⟩,Kg ?_⟩|apply Kp<;>intro _|((first|refine Kh ?_|refine Ki rfl ?_);simp only[or_self,Qs,Qt,Qu,Qv,Qw,Qx,Qy,Qz,Za,go_sem])
   simp[Xa9,h]
 all_goals (unfold Xa9;rw[if_neg (by omega),if_neg (by omega),if_neg (by omega)])
omit hR in
theorem Wld (g:Gr):Xam QP gp 95 [g.v] (.one (.d (.fn (.func 121) [.bx [.int .i64 g.root,.sl (nds g.l)]]))):=by
 refine Wj3 ?_
 simp only[go_sem]
 repeat' first|refine Kn rfl ?_|((first|refine Ka ?_|refine Kb ?_|refine Kv ?_|refine Ke ?_);simp only[go_sem])|refine Kf ?_|refine Kg ?_|apply Kp<;>intro _|((first|refine Kh ?_|refine Ki rfl ?_);simp only[or_self,Qs,Qt,Qu,Qv,Qw,Qx,Qy,Qz,Za,go_sem])
def Xex (R:ByteArray->Bool) (g:Gr):Option (Int × Int) :=
 if g.l.length > 200 then some (0,71) else if ¬ (0<=g.root/\g.root < g.l.length) then some (-1,70)
 else (g.l.findIdx? fun x=>!Xa9 R x g.l.length).map fun i=>((i:Int),70)
def Wux:Option (Int × Int)->D
 | none=>.nilI
 | some (a,e)=>.ifc 155 true [.int .i64 a,.int .i64 e]
abbrev Wr3 (e:Option (Int × Int)):A:=.d (Wux e)
abbrev Ws6 (e:Option (Int × Int)):V:=.one (Wr3 e)
omit hR in
theorem Xq9 {l:List Nd} {p:Nd->Bool} (h:∀ y∈l,p y=false):l.findIdx? p=none:=by
 rw[List.findIdx?_eq_none_iff];exact h
omit hR in
theorem X8g {l:List Nd} {p:Nd->Bool} {i:Nat} {x:Nd} (h:∀ y∈l.take i,p y=false) (hx:l[i]?=some x) (h0:p x=true):l.findIdx? p=some i:=by
 obtain⟨hi,rfl⟩:=Kr.1 hx
 rw[List.findIdx?_eq_some_iff_getElem]
 refine⟨hi,h0,fun j hj=>?_⟩
 have:l[j]∈l.take i:=by
  rw[List.mem_take_iff_getElem]
  exact⟨j,by omega,rfl⟩
 simp[h _ this]
theorem Wle (g:Gr):Xam QP gp 70 [g.v] (Ws6 (Xex R g)):=by
 refine Wit ?_
 simp only[go_sem]
 repeat' first|refine Kn rfl ?_|((first|refine Ka ?_|refine Kb ?_|refine Kv ?_|refine Ke ?_);simp only[go_sem])|refine Kf ?_|refine Kg ?_|refine⟨_,Xkv _ _ _,Kg ?_⟩|refine⟨_,⟨Xkv _ _ _,rfl⟩,Kg ?_⟩|refine⟨_,Wld _,Kg ?_⟩|refine⟨_,⟨Wld _,rfl⟩,Kg ?_⟩|apply Kp<;>intro _|((first|refine Kh ?_|refine Ki rfl ?_);simp only[or_self,Qs,Qt,Qu,Qv,Qw,Qx,Qy,Qz,Za,go_sem])
 ·rename_i h;unfold Xex;rw[if_pos (by omega)];rfl
 ·rename_i h1 h2
  have h3:¬ (0<=g.root/\g.root < (g.l.length:Int)):=by intro h3;simp[h3] at h2
  unfold Xex;rw[if_neg (by omega),if_pos h3];rfl
 ·rename_i h1 h2
  have h3:0<=g.root/\g.root < (g.l.length:Int):=Classical.byContradiction fun h3=>by simp[h3] at h2
  have hck:Xex R g=(g.l.findIdx? fun x=>!Xa9 R x g.l.length).map fun i=>((i:Int),70):=by
   unfold Xex;rw[if_neg (by omega),if_neg (by simpa using h3)]
  rw[hck]
  refine Wsc (f2:=121) (caps:=[.one (.d (.bx [.int .i64 g.root,.sl (nds g.l)]))]) (fun pd own'=>((pd=none/\(g.l.findIdx? fun x=>!Xa9 R x g.l.length)=none/\own'.head?=some (.cells [.d .nilI]))\/(pd=some .ret/\∃ i:Nat,(g.l.findIdx? fun x=>!Xa9 R x g.l.length)=some i/\own'.head?=some (.cells [Wr3 (some ((i:Int),70))])))) rfl ?_ Y1v ?_ ?_ ?_
  ·intro y;simp only[go_sem]
  ·rintro b rc hps ⟨hs,hta,htb⟩
   refine Yka ?_
   simp only[go_sem]
   repeat' first|refine Kn rfl ?_|((first|refine Ka ?_|refine Kb ?_|refine Kv ?_|refine Ke ?_);simp only[go_sem])|refine Kf ?_|refine Kg ?_|apply Kp<;>intro _|((first|refine Kh ?_|refine Ki rfl ?_);simp only[or_self,Qs,Qt,Qu,Qv,Qw,Qx,Qy,Qz,Za,go_sem])
   refine Yo2 1 1 rfl rfl fun hl=>?_
   simp only[List.length_map] at hl
   refine Kt (fr 23 [(0,.one (.d (.raw (.func (.yield b) #[] #[])))),(1,.one (.d (.bx [.int .i64 g.root,.sl (nds g.l)]))),(6,.one (.d (.sl (nds g.l)))),(7,vi g.l.length),(8,vi (0:Nat))]) ?_
   refine Km (fun mz sz=>∃ i:Nat,i<=g.l.length/\mz=g.l.length - i/\(∀ y∈g.l.take i,(!Xa9 R y g.l.length)=false)/\sz=⟨fr 23 [(0,.one (.d (.raw (.func (.yield b) #[] #[])))),(1,.one (.d (.bx [.int .i64 g.root,.sl (nds g.l)]))),(6,.one (.d (.sl (nds g.l)))),(7,vi g.l.length),(8,vi i)],[.cells [.d .nilI],.lp b _ rc .ready none]⟩) (g.l.length) ⟨0,Nat.zero_le _,(Nat.sub_zero _).symm,?_,rfl⟩ ?_
   ·simp
   rintro _ _ ⟨i,hi,rfl,hz,rfl⟩
   simp only[go_sem]
   by_cases hil:i < g.l.length
   ·obtain⟨x,hx⟩:=Xaj hil
    repeat' first|refine Kn rfl ?_|((first|refine Ka ?_|refine Kb ?_|refine Kv ?_|refine Ke ?_);simp only[go_sem])|refine Kf ?_|refine Kg ?_|refine⟨_,⟨Kq _,(by first|exact Xad hx|(rw[Int.toNat_natCast];exact Xad hx)),rfl⟩,Kg ?_⟩|apply Kp<;>intro _|((first|refine Kh ?_|refine Ki rfl ?_);simp only[or_self,Qs,Qt,Qu,Qv,Qw,Qx,Qy,Qz,Za,go_sem])
    ·have hn:inK .i64 ((i:Int)+1):=Xaf hil hl
     have hr:=Yle R hR x (g.l.length:Int)
     cases hb:Xa9 R x g.l.length with
     | true =>
      rw[hb] at hr
      refine⟨[.cells [.d .nilI],.lp b _ rc .ready none,.cells x.as,.cells (x.as++[.d (.int .i64 g.l.length)])],true,by simp,⟨1,_,rc,hs,_,_,[.cells [.d .nilI],.dead,.cells x.as,.cells (x.as++[.d (.int .i64 g.l.length)])],none,rfl,by rw[<- Array.length_toList,hps];rfl,hta,htb,?_,rfl,rfl⟩,Kg ?_⟩
      ·rw[hps]
       simp only[go_sem]
       repeat' first|refine Kn rfl ?_|((first|refine Ka ?_|refine Kb ?_|refine Kv ?_|refine Ke ?_);simp only[go_sem])|refine Kf ?_|refine Kg ?_|apply Kp<;>intro _|((first|refine Kh ?_|refine Ki rfl ?_);simp only[or_self,Qs,Qt,Qu,Qv,Qw,Qx,Qy,Qz,Za,go_sem])
       refine Xor ⟨rfl,?_⟩
       repeat' first|refine Kn rfl ?_|((first|refine Ka ?_|refine Kb ?_|refine Kv ?_|refine Ke ?_);simp only[go_sem])|refine Kf ?_|refine Kg ?_|refine⟨_,hr,Kg ?_⟩|refine⟨_,⟨hr,rfl⟩,Kg ?_⟩|apply Kp<;>intro _|((first|refine Kh ?_|refine Ki rfl ?_);simp only[or_self,Qs,Qt,Qu,Qv,Qw,Qx,Qy,Qz,Za,go_sem])
       exact Xor ⟨⟨rfl,rfl⟩,rfl⟩
      ·simp only[go_sem]
       repeat' first|refine Kn rfl ?_|((first|refine Ka ?_|refine Kb ?_|refine Kv ?_|refine Ke ?_);simp only[go_sem])|refine Kf ?_|refine Kg ?_|apply Kp<;>intro _|((first|refine Kh ?_|refine Ki rfl ?_);simp only[or_self,Qs,Qt,Qu,Qv,Qw,Qx,Qy,Qz,Za,go_sem])
       refine⟨hn,?_⟩
       refine Kt (fr 23 [(0,.one (.d (.raw (.func (.yield b) #[] #[])))),(1,.one (.d (.bx [.int .i64 g.root,.sl (nds g.l)]))),(6,.one (.d (.sl (nds g.l)))),(7,vi g.l.length),(8,vi (i+1))]) ?_
       refine Ku 2 ?_
       simp only[go_sem]
       refine Kl ⟨g.l.length - (i+1),by omega,i+1,by omega,rfl,?_,rfl⟩
       exact Xhb hz hx (by simp[hb])
     | false =>
      rw[hb] at hr
      refine⟨[.cells [Wr3 (some ((i:Int),70))],.lp b _ rc .done (some .ret),.cells x.as,.cells (x.as++[.d (.int .i64 g.l.length)])],false,by simp,⟨1,_,rc,hs,_,_,[.cells [Wr3 (some ((i:Int),70))],.dead,.cells x.as,.cells (x.as++[.d (.int .i64 g.l.length)])],some .ret,rfl,by rw[<- Array.length_toList,hps];rfl,hta,htb,?_,rfl,rfl⟩,Kg ?_⟩
      ·rw[hps]
       simp only[go_sem]
       repeat' first|refine Kn rfl ?_|((first|refine Ka ?_|refine Kb ?_|refine Kv ?_|refine Ke ?_);simp only[go_sem])|refine Kf ?_|refine Kg ?_|apply Kp<;>intro _|((first|refine Kh ?_|refine Ki rfl ?_);simp only[or_self,Qs,Qt,Qu,Qv,Qw,Qx,Qy,Qz,Za,go_sem])
       refine Xor ⟨rfl,?_⟩
       repeat' first|refine Kn rfl ?_|((first|refine Ka ?_|refine Kb ?_|refine Kv ?_|refine Ke ?_);simp only[go_sem])|refine Kf ?_|refine Kg ?_|refine⟨_,hr,Kg ?_⟩|refine⟨_,⟨hr,rfl⟩,Kg ?_⟩|apply Kp<;>intro _|((first|refine Kh ?_|refine Ki rfl ?_);simp only[or_self,Qs,Qt,Qu,Qv,Qw,Qx,Qy,Qz,Za,go_sem])
       exact X1x rfl ⟨⟨rfl,rfl⟩,rfl⟩
      ·simp only[go_sem]
       repeat' first|refine Kn rfl ?_|((first|refine Ka ?_|refine Kb ?_|refine Kv ?_|refine Ke ?_);simp only[go_sem])|refine Kf ?_|refine Kg ?_|apply Kp<;>intro _|((first|refine Kh ?_|refine Ki rfl ?_);simp only[or_self,Qs,Qt,Qu,Qv,Qw,Qx,Qy,Qz,Za,go_sem])
       exact⟨.done,some .ret,rfl,by simp,.inr ⟨rfl,i,X8g hz hx (by simp[hb]),rfl⟩⟩
    ·omega
   ·repeat' (first|refine Kn rfl ?_|((first|refine Ka ?_|refine Kb ?_|refine Kv ?_|refine Ke ?_);simp only[go_sem])|refine Kf ?_|refine Kg ?_|apply Kp<;>intro _|((first|refine Kh ?_|refine Ki rfl ?_);simp only[or_self,Qs,Qt,Qu,Qv,Qw,Qx,Qy,Qz,Za,go_sem]))
    ·omega
    ·rw[List.take_of_length_le (by omega)] at hz
     exact⟨.ready,none,rfl,by simp,.inl ⟨rfl,Xq9 hz,rfl⟩⟩
  ·rintro (_|⟨c,own'⟩) (⟨_,h4,h5⟩|⟨h4,_⟩)
   ·cases h5
   ·cases h4
   ·simp only[List.head?_cons,Option.some.injEq] at h5
    subst h5
    rw[h4]
    repeat' first|refine Kn rfl ?_|((first|refine Ka ?_|refine Kb ?_|refine Kv ?_|refine Ke ?_);simp only[go_sem])|refine Kf ?_|refine Kg ?_|apply Kp<;>intro _|((first|refine Kh ?_|refine Ki rfl ?_);simp only[or_self,Qs,Qt,Qu,Qv,Qw,Qx,Qy,Qz,Za,go_sem])
    rfl
   ·cases h4
  ·rintro c (_|⟨c',own'⟩) (⟨h4,_⟩|⟨h4,i,h5,h6⟩)
   ·cases h4
   ·cases h6
   ·cases h4
   ·cases h4
    simp only[List.head?_cons,Option.some.injEq] at h6
    subst h6
    rw[h5]
    refine⟨.ret,rfl,?_⟩
    repeat' first|refine Kn rfl ?_|((first|refine Ka ?_|refine Kb ?_|refine Kv ?_|refine Ke ?_);simp only[go_sem])|refine Kf ?_|refine Kg ?_|apply Kp<;>intro _|((first|refine Kh ?_|refine Ki rfl ?_);simp only[or_self,Qs,Qt,Qu,Qv,Qw,Qx,Qy,Qz,Za,go_sem])
    first|exact⟨rfl,rfl⟩|rfl
end
end Go.Fw.L07
