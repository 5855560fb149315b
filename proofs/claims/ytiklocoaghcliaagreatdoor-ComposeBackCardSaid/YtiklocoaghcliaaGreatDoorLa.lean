/- Chapter 7,part 1: comparisons. -/
import Derived.Test.YtiklocoaghcliaaGreatDoorL07Mini
import Derived.Test.YtiklocoaghcliaaGreatDoorFd
set_option linter.all false
namespace Go.Fw.L07
open Go Go.Fw
open Go.Fw.Sh renaming intro->Kg
open Go.Fw renaming Xh9->Kv,Xel->Kf,Xdn->Kt,Xl3->Kk,Xh8->Ku,Xdl->Kl,Xfl->Km,Gx->Kn
open Go.Fw renaming Xec->Kw, Xbg->Kw, Xbk->Kw, Xbv->Kw, Xb3->Kw, Xh6->Kw, Xem->Kw
open Go.Fw.Sh renaming intro->Kf
open Int renaming natCast_nonneg->Kq
open List renaming getElem?_eq_some_iff->Kr
open And renaming intro->Kp
open Go.Proofs.Tryz renaming prog->QP
set_option maxRecDepth 4000
variable {gp:Xaj}
abbrev vi (n:Int):V:=.one (.d (.int .i64 n))
abbrev vb (b:Bool):V:=.one (.d (.bool b))
abbrev vs (s:ByteArray):V:=.one (.d (.str s))
structure Sc where
 k:Int
 n:Int
 s:ByteArray
 deriving DecidableEq
abbrev Sc.ds (x:Sc):List D:=[.int .i64 x.k,.int .i64 x.n,.str x.s]
abbrev Sc.as (x:Sc):List A:=[.d (.int .i64 x.k),.d (.int .i64 x.n),.d (.str x.s)]
abbrev Sc.v (x:Sc):V:=.agg x.as
abbrev Xai (l:List Int):List (List D):=l.map fun n=>[.int .i64 n]
abbrev scs (l:List Sc):List (List D):=l.map Sc.ds
structure Nd where
 k:Int
 x:Sc
 keys:List Sc
 kids:List Int
 deriving DecidableEq
abbrev Nd.ds (x:Nd):List D:=[.int .i64 x.k,.int .i64 x.x.k,.int .i64 x.x.n,.str x.x.s,.sl (scs x.keys),.sl (Xai x.kids)]
abbrev Nd.as (x:Nd):List A:=[.d (.int .i64 x.k),.d (.int .i64 x.x.k),.d (.int .i64 x.x.n),.d (.str x.x.s),.d (.sl (scs x.keys)),.d (.sl (Xai x.kids))]
abbrev Nd.v (x:Nd):V:=.agg x.as
abbrev nds (l:List Nd):List (List D):=l.map Nd.ds
structure Gr where
 root:Int
 l:List Nd
 deriving DecidableEq
abbrev Gr.as (g:Gr):List A:=[.d (.int .i64 g.root),.d (.sl (nds g.l))]
abbrev Gr.v (g:Gr):V:=.agg g.as
theorem Xae {α β:Type} {f:α->β} {l:List α} {i:Nat} {x:α} (h:l[i]?=some x):(l.map f)[i]?=some (f x):=by simp[h]
theorem Xaq {α:Type} {l:List α} {i:Nat} (h:i < l.length):∃ x,l[i]?=some x:=⟨_,List.getElem?_eq_getElem h⟩
theorem Xr3 (x:Int):Xao QP gp 142 [vi x] (vb false):=by
 refine Y8f ?_
 simp only[go_sem]
 repeat' first|refine Kn rfl ?_|((first|refine Kw ?_|refine Kv ?_);simp only[go_sem])|refine Kf ?_|apply Kp<;>intro _
 all_goals simp
theorem Xr4 (x:ByteArray):Xao QP gp 143 [vs x] (vb false):=by
 refine Y8j ?_
 simp only[go_sem]
 repeat' first|refine Kn rfl ?_|((first|refine Kw ?_|refine Kv ?_);simp only[go_sem])|refine Kf ?_|apply Kp<;>intro _
def Yvf (a b:Int):Int:=if a < b then -1 else if b < a then 1 else 0
theorem Xmd (x y:Int):Xao QP gp 121 [vi x,vi y] (vi (Yvf x y)):=by
 refine Y6r ?_
 simp only[go_sem]
 repeat' first|refine Kn rfl ?_|((first|refine Kw ?_|refine Kv ?_);simp only[go_sem])|refine Kf ?_|refine⟨_,Xr3 _,Kg ?_⟩|refine⟨_,⟨Xr3 _,rfl⟩,Kg ?_⟩|apply Kp<;>intro _
 all_goals (unfold Yvf;grind)
def Wrs (a b:ByteArray):Int:=if Op.bytesLess a.toList b.toList then -1 else if Op.bytesLess a.toList b.toList || decide (a=b) then 0 else 1
theorem Xme (x y:ByteArray):Xao QP gp 122 [vs x,vs y] (vi (Wrs x y)):=by
 refine Y6z ?_
 simp only[go_sem]
 repeat' first|refine Kn rfl ?_|((first|refine Kw ?_|refine Kv ?_);simp only[go_sem])|refine Kf ?_|refine⟨_,Xr4 _,Kg ?_⟩|refine⟨_,⟨Xr4 _,rfl⟩,Kg ?_⟩|apply Kp<;>intro _
 all_goals (unfold Wrs;grind)
def orI (l:List Int):Int:=(l.find? fun x=>x != 0).getD 0
theorem Yl3 {l:List Int} (h:∀ x∈l,x=0):orI l=0:=by
 unfold orI
 rw[List.find?_eq_none.2 fun x hx=>by simp[h x hx]];rfl
theorem Wrt {l:List Int} {i:Nat} {x:Int} (h:∀ y∈l.take i,y=0) (hx:l[i]?=some x) (h0:x≠0):orI l=x:=by
 unfold orI
 have:l=l.take i++x::l.drop (i+1):=by
  obtain⟨hi,rfl⟩:=Kr.1 hx
  rw[<- List.drop_eq_getElem_cons hi,List.take_append_drop]
 rw[this,List.find?_append,List.find?_eq_none.2 fun y hy=>by simp[h y hy]]
 simp[h0]
theorem Xi2 {α:Type} {l:List α} {p:α->Prop} {i:Nat} {x:α} (h:∀ y∈l.take i,p y) (hx:l[i]?=some x) (h0:p x):∀ y∈l.take (i+1),p y:=by
 intro y hy
 rw[List.take_succ,hx] at hy
 rcases List.mem_append.1 hy with hy|hy
 ·exact h y hy
 ·simp at hy;subst hy;exact h0
theorem Yvg (l:List Int):Xao QP gp 120 [.one (.d (.sl (Xai l)))] (vi (orI l)):=by
 refine Y6j ?_
 simp only[go_sem]
 repeat' first|refine Kn rfl ?_|((first|refine Kw ?_|refine Kv ?_);simp only[go_sem])|refine Kf ?_|apply Kp<;>intro _
 refine Xrv 0 rfl fun hl=>?_
 refine Kt (fr 18 [(0,.one (.d (.sl (Xai l)))),(3,vi 0),(6,.one (.d (.sl (Xai l)))),(7,vi l.length),(8,vi (0:Nat))]) ?_
 refine Km (fun mz sz=>∃ i:Nat,i<=l.length/\mz=l.length - i/\(∀ y∈l.take i,y=0)/\sz=⟨fr 18 [(0,.one (.d (.sl (Xai l)))),(3,vi 0),(6,.one (.d (.sl (Xai l)))),(7,vi l.length),(8,vi i)],[]⟩) (l.length) ⟨0,Nat.zero_le _,(Nat.sub_zero _).symm,?_,rfl⟩ ?_
 ·simp
 rintro _ _ ⟨i,hi,rfl,hz,rfl⟩
 simp only[List.length_map] at hl
 simp only[go_sem]
 by_cases hil:i < l.length
 ·obtain⟨x,hx⟩:=Xaq hil
  repeat' first|refine Kn rfl ?_|((first|refine Kw ?_|refine Kv ?_);simp only[go_sem])|refine Kf ?_|refine⟨_,⟨Kq _,(by first|exact Xae hx|(rw[Int.toNat_natCast];exact Xae hx)),rfl⟩,Kg ?_⟩|apply Kp<;>intro _
  ·rename_i h;simp at h;rw[Wrt hz hx h]
  ·refine⟨Xat hil hl,?_⟩
   rename_i h
   refine Kt (fr 18 [(0,.one (.d (.sl (Xai l)))),(3,vi 0),(6,.one (.d (.sl (Xai l)))),(7,vi l.length),(8,vi (i+1))]) ?_
   refine Kl ⟨l.length - (i+1),by omega,i+1,by omega,rfl,?_,rfl⟩
   exact Xi2 hz hx (by simpa using h)
  ·omega
 ·repeat' (first|refine Kn rfl ?_|((first|refine Kw ?_|refine Kv ?_);simp only[go_sem])|refine Kf ?_|apply Kp<;>intro _)
  ·omega
  ·rw[Yl3]
   rw[List.take_of_length_le (by omega)] at hz
   exact hz
def Xt8 (x y:Sc):Int:=if x=y then 0 else orI [Yvf x.k y.k,Yvf x.n y.n,Wrs x.s y.s]
theorem Yah (x y:Sc):(x.k==y.k && (x.n==y.n && decide (x.s=y.s)))=decide (x=y):=by
 cases x;cases y;simp only[Sc.mk.injEq];grind
theorem Yai (x y:Sc):Xao QP gp 100 [x.v,y.v] (vi (Xt8 x y)):=by
 refine Y4x ?_
 simp only[go_sem]
 repeat' first|refine Kn rfl ?_|((first|refine Kw ?_|refine Kv ?_);simp only[Yah,go_sem])|refine Kf ?_|refine⟨_,Xmd _ _,Kg ?_⟩|refine⟨_,⟨Xmd _ _,rfl⟩,Kg ?_⟩|refine⟨_,Xme _ _,Kg ?_⟩|refine⟨_,⟨Xme _ _,rfl⟩,Kg ?_⟩|refine⟨_,Yvg [_,_,_],Kg ?_⟩|refine⟨_,⟨Yvg [_,_,_],rfl⟩,Kg ?_⟩|apply Kp<;>intro _
 all_goals (rename_i h;simp[Xt8,h])
theorem Xpk {α:Type} {l m:List α} {i:Nat} {x y:α} (h:l.take i=m.take i) (hx:l[i]?=some x) (hy:m[i]?=some y) (e:x=y):l.take (i+1)=m.take (i+1):=by
 rw[List.take_succ,List.take_succ,h,hx,hy,e]
theorem Yl4 {α:Type} {l m:List α} {i:Nat} {x y:α} (hx:l[i]?=some x) (hy:m[i]?=some y) (e:x≠y):l≠m:=by
 rintro rfl;rw[hx] at hy;cases hy;exact e rfl
theorem Xxp {α:Type} {l m:List α} (e:((l.length:Int) != (m.length:Int))=true):l≠m:=by
 rintro rfl;simp at e
theorem Yvh (l m:List Sc):Xao QP gp 36 [.one (.d (.sl (scs l))),.one (.d (.sl (scs m)))] (vb (decide (l=m))):=by
 refine Wmb ?_
 simp only[go_sem]
 repeat' first|refine Kn rfl ?_|((first|refine Kw ?_|refine Kv ?_);simp only[go_sem])|refine Kf ?_|apply Kp<;>intro _
 ·rename_i h;simp[Xxp h]
 ·rename_i h
  have hlen:l.length=m.length:=by simp at h;omega
  refine Xrv 0 rfl fun hl=>?_
  refine Kt (fr 26 [(0,.one (.d (.sl (scs l)))),(1,.one (.d (.sl (scs m)))),(12,vi l.length),(13,vi (0:Nat))]) ?_
  refine Km (fun mz sz=>∃ i:Nat,i<=l.length/\mz=l.length - i/\(l.take i=m.take i)/\sz=⟨fr 26 [(0,.one (.d (.sl (scs l)))),(1,.one (.d (.sl (scs m)))),(12,vi l.length),(13,vi i)],[]⟩) (l.length) ⟨0,Nat.zero_le _,(Nat.sub_zero _).symm,?_,rfl⟩ ?_
  ·simp
  rintro _ _ ⟨i,hi,rfl,hz,rfl⟩
  simp only[List.length_map] at hl
  simp only[go_sem]
  by_cases hil:i < l.length
  ·obtain⟨x,hx⟩:=Xaq hil
   obtain⟨y,hy⟩:=Xaq (l:=m) (i:=i) (by omega)
   repeat' first|refine Kn rfl ?_|((first|refine Kw ?_|refine Kv ?_);simp only[Yah,go_sem])|refine Kf ?_|refine⟨_,⟨Kq _,(by first|exact Xae hx|(rw[Int.toNat_natCast];exact Xae hx)),rfl⟩,Kg ?_⟩|refine⟨_,⟨Kq _,(by first|exact Xae hy|(rw[Int.toNat_natCast];exact Xae hy)),rfl⟩,Kg ?_⟩|apply Kp<;>intro _
   ·rename_i h;simp[Yl4 hx hy (by simpa using h)]
   ·refine⟨Xat hil hl,?_⟩
    rename_i h
    refine Kt (fr 26 [(0,.one (.d (.sl (scs l)))),(1,.one (.d (.sl (scs m)))),(12,vi l.length),(13,vi (i+1))]) ?_
    refine Kl ⟨l.length - (i+1),by omega,i+1,by omega,rfl,?_,rfl⟩
    exact Xpk hz hx hy (by simpa using h)
   ·omega
  ·repeat' (first|refine Kn rfl ?_|((first|refine Kw ?_|refine Kv ?_);simp only[go_sem])|refine Kf ?_|apply Kp<;>intro _)
   ·omega
   ·rw[List.take_of_length_le (by omega),List.take_of_length_le (by omega)] at hz
    simp[hz]
theorem Yaj (l m:List Int):Xao QP gp 37 [.one (.d (.sl (Xai l))),.one (.d (.sl (Xai m)))] (vb (decide (l=m))):=by
 refine Wmi ?_
 simp only[go_sem]
 repeat' first|refine Kn rfl ?_|((first|refine Kw ?_|refine Kv ?_);simp only[go_sem])|refine Kf ?_|apply Kp<;>intro _
 ·rename_i h;simp[Xxp h]
 ·rename_i h
  have hlen:l.length=m.length:=by simp at h;omega
  refine Xrv 0 rfl fun hl=>?_
  refine Kt (fr 26 [(0,.one (.d (.sl (Xai l)))),(1,.one (.d (.sl (Xai m)))),(12,vi l.length),(13,vi (0:Nat))]) ?_
  refine Km (fun mz sz=>∃ i:Nat,i<=l.length/\mz=l.length - i/\(l.take i=m.take i)/\sz=⟨fr 26 [(0,.one (.d (.sl (Xai l)))),(1,.one (.d (.sl (Xai m)))),(12,vi l.length),(13,vi i)],[]⟩) (l.length) ⟨0,Nat.zero_le _,(Nat.sub_zero _).symm,?_,rfl⟩ ?_
  ·simp
  rintro _ _ ⟨i,hi,rfl,hz,rfl⟩
  simp only[List.length_map] at hl
  simp only[go_sem]
  by_cases hil:i < l.length
  ·obtain⟨x,hx⟩:=Xaq hil
   obtain⟨y,hy⟩:=Xaq (l:=m) (i:=i) (by omega)
   repeat' first|refine Kn rfl ?_|((first|refine Kw ?_|refine Kv ?_);simp only[go_sem])|refine Kf ?_|refine⟨_,⟨Kq _,(by first|exact Xae hx|(rw[Int.toNat_natCast];exact Xae hx)),rfl⟩,Kg ?_⟩|refine⟨_,⟨Kq _,(by first|exact Xae hy|(rw[Int.toNat_natCast];exact Xae hy)),rfl⟩,Kg ?_⟩|apply Kp<;>intro _
   ·rename_i h;simp[Yl4 hx hy (by simpa using h)]
   ·refine⟨Xat hil hl,?_⟩
    rename_i h
    refine Kt (fr 26 [(0,.one (.d (.sl (Xai l)))),(1,.one (.d (.sl (Xai m)))),(12,vi l.length),(13,vi (i+1))]) ?_
    refine Kl ⟨l.length - (i+1),by omega,i+1,by omega,rfl,?_,rfl⟩
    exact Xpk hz hx hy (by simpa using h)
   ·omega
  ·repeat' (first|refine Kn rfl ?_|((first|refine Kw ?_|refine Kv ?_);simp only[go_sem])|refine Kf ?_|apply Kp<;>intro _)
   ·omega
   ·rw[List.take_of_length_le (by omega),List.take_of_length_le (by omega)] at hz
    simp[hz]
def Wh9 (s:ByteArray):ByteArray:=s.extract 0 (min s.size 100)
theorem Yak (s:ByteArray):Xao QP gp 96 [vs s] (vs (Wh9 s)):=by
 refine Wqn ?_
 simp only[go_sem]
 repeat' first|refine Kn rfl ?_|((first|refine Kw ?_|refine Kv ?_);simp only[go_sem])|refine Kf ?_|apply Kp<;>intro _
 refine⟨0,min s.size 100,⟨rfl,by split <;> omega,by omega,by omega⟩,Kg ?_⟩
 repeat' first|refine Kn rfl ?_|((first|refine Kw ?_|refine Kv ?_);simp only[go_sem])|refine Kf ?_|apply Kp<;>intro _
 rfl
def Sc.cut (x:Sc):Sc:=⟨x.k,x.n,Wh9 x.s⟩
theorem Xxq (x:Sc):Xao QP gp 73 [x.v] x.cut.v:=by
 refine Wo8 ?_
 simp only[go_sem]
 repeat' first|refine Kn rfl ?_|((first|refine Kw ?_|refine Kv ?_);simp only[go_sem])|refine Kf ?_|refine⟨_,Yak _,Kg ?_⟩|refine⟨_,⟨Yak _,rfl⟩,Kg ?_⟩|apply Kp<;>intro _
 exact⟨rfl,rfl,rfl⟩
theorem Xkv (root i:Int) (l:List (List D)):Xao QP gp 66 [.agg [.d (.int .i64 root),.d (.sl l)],vi i] (vb (decide (0<=i/\i < l.length))):=by
 refine Wop ?_
 simp only[go_sem]
 repeat' first|refine Kn rfl ?_|((first|refine Kw ?_|refine Kv ?_);simp only[go_sem])|refine Kf ?_|apply Kp<;>intro _
 all_goals grind
abbrev Nd.vd (x:Nd) (n:Int):List D:=x.ds++[.int .i64 n]
abbrev Nd.vw (x:Nd) (n:Int):V:=.agg (x.as++[.d (.int .i64 n)])
theorem Xi3 (x:Nd) (n:Int):Xao QP gp 97 [x.vw n] (vb (decide (x.keys.length=x.kids.length))):=by
 refine Wqr ?_
 simp only[go_sem]
 repeat' first|refine Kn rfl ?_|((first|refine Kw ?_|refine Kv ?_);simp only[go_sem])|refine Kf ?_|apply Kp<;>intro _
 grind
def Nd.zero:Nd:=⟨0,⟨0,0,⟨#[]⟩⟩,[],[]⟩
def Xbc (l:List Nd) (i:Int):Nd:=if 0<=i/\i < l.length then (l[i.toNat]?).getD Nd.zero else Nd.zero
def atN (l:List Nd) (i:Int):Int:=if 0<=i/\i < l.length then l.length else 0
def atE (l:List Nd) (i:Int):Int:=if 0<=i/\i < l.length then 0 else 2
theorem Xt9 (g:Gr) (i:Int):Xao QP gp 74 [g.v,vi i] (.tup [(Xbc g.l i).vw (atN g.l i),vi (atE g.l i)]):=by
 refine Wpe ?_
 simp only[go_sem]
 repeat' first|refine Kn rfl ?_|((first|refine Kw ?_|refine Kv ?_);simp only[go_sem])|refine Kf ?_|refine⟨_,Xkv _ _ _,Kg ?_⟩|refine⟨_,⟨Xkv _ _ _,rfl⟩,Kg ?_⟩|apply Kp<;>intro _
 ·rename_i h
  have h:¬ (0<=i/\i < (g.l.length:Int)):=by intro h2;simp[h2] at h
  simp only[Xbc,atN,atE,if_neg h]
  simp[Nd.zero]
 ·rename_i h
  have h:0<=i/\i < (g.l.length:Int):=Classical.byContradiction fun h2=>by simp[h2] at h
  obtain⟨n,rfl⟩:=Int.eq_ofNat_of_zero_le h.1
  obtain⟨x,hx⟩:=Xaq (l:=g.l) (i:=n) (by omega)
  have hr:Xbc g.l n=x:=by simp only[Xbc,if_pos h,Int.toNat_natCast,hx,Option.getD_some]
  rw[hr]
  refine⟨_,⟨Kq _,(by rw[Int.toNat_natCast];exact Xae hx),rfl⟩,Kg ?_⟩
  simp only[go_sem]
  repeat' first|refine Kn rfl ?_|((first|refine Kw ?_|refine Kv ?_);simp only[go_sem])|refine Kf ?_|apply Kp<;>intro _
  simp[atN,atE,h]
theorem Wz1 (x y:Nd):Xao QP gp 35 [x.v,y.v] (vb (decide (x.k=y.k/\x.x=y.x/\x.keys=y.keys/\x.kids=y.kids))):=by
 refine Wl4 ?_
 simp only[go_sem]
 repeat' first|refine Kn rfl ?_|((first|refine Kw ?_|refine Kv ?_);simp only[Yah,go_sem])|refine Kf ?_|refine⟨_,Yvh _ _,Kg ?_⟩|refine⟨_,⟨Yvh _ _,rfl⟩,Kg ?_⟩|refine⟨_,Yaj _ _,Kg ?_⟩|refine⟨_,⟨Yaj _ _,rfl⟩,Kg ?_⟩|apply Kp<;>intro _
 all_goals grind
theorem Wz2 (x y:Nd):(x.k=y.k/\x.x=y.x/\x.keys=y.keys/\x.kids=y.kids)↔x=y:=by
 cases x;cases y;simp
theorem Yvi (x y:Nd):Xao QP gp 35 [x.v,y.v] (vb (decide (x=y))):=by
 have:=Wz1 (gp:=gp) x y
 simpa only [Wz2] using this
theorem Yvj (l m:List Nd):Xao QP gp 38 [.one (.d (.sl (nds l))),.one (.d (.sl (nds m))),.one (.d (.fn (.func 35) []))] (vb (decide (l=m))):=by
 refine Wmp ?_
 simp only[go_sem]
 repeat' first|refine Kn rfl ?_|((first|refine Kw ?_|refine Kv ?_);simp only[go_sem])|refine Kf ?_|apply Kp<;>intro _
 ·rename_i h;simp[Xxp h]
 ·rename_i h
  have hlen:l.length=m.length:=by simp at h;omega
  refine Xrv 0 rfl fun hl=>?_
  refine Kt (fr 32 [(0,.one (.d (.sl (nds l)))),(1,.one (.d (.sl (nds m)))),(2,.one (.d (.fn (.func 35) []))),(15,.one (.d (.sl (nds l)))),(16,vi l.length),(17,vi (0:Nat))]) ?_
  refine Km (fun mz sz=>∃ i:Nat,i<=l.length/\mz=l.length - i/\(l.take i=m.take i)/\sz=⟨fr 32 [(0,.one (.d (.sl (nds l)))),(1,.one (.d (.sl (nds m)))),(2,.one (.d (.fn (.func 35) []))),(15,.one (.d (.sl (nds l)))),(16,vi l.length),(17,vi i)],[]⟩) (l.length) ⟨0,Nat.zero_le _,(Nat.sub_zero _).symm,?_,rfl⟩ ?_
  ·simp
  rintro _ _ ⟨i,hi,rfl,hz,rfl⟩
  simp only[List.length_map] at hl
  simp only[go_sem]
  by_cases hil:i < l.length
  ·obtain⟨x,hx⟩:=Xaq hil
   obtain⟨y,hy⟩:=Xaq (l:=m) (i:=i) (by omega)
   repeat' first|refine Kn rfl ?_|((first|refine Kw ?_|refine Kv ?_);simp only[go_sem])|refine Kf ?_|refine⟨_,Yvi _ _,Kg ?_⟩|refine⟨_,⟨Yvi _ _,rfl⟩,Kg ?_⟩|refine⟨_,⟨Kq _,(by first|exact Xae hx|(rw[Int.toNat_natCast];exact Xae hx)),rfl⟩,Kg ?_⟩|refine⟨_,⟨Kq _,(by first|exact Xae hy|(rw[Int.toNat_natCast];exact Xae hy)),rfl⟩,Kg ?_⟩|apply Kp<;>intro _
   ·rename_i h;simp[Yl4 hx hy (by simpa using h)]
   ·refine⟨Xat hil hl,?_⟩
    rename_i h
    refine Kt (fr 32 [(0,.one (.d (.sl (nds l)))),(1,.one (.d (.sl (nds m)))),(2,.one (.d (.fn (.func 35) []))),(15,.one (.d (.sl (nds l)))),(16,vi l.length),(17,vi (i+1))]) ?_
    refine Ku 0 ?_
    simp only[go_sem]
    refine Kl ⟨l.length - (i+1),by omega,i+1,by omega,rfl,?_,rfl⟩
    exact Xpk hz hx hy (by simpa using h)
   ·omega
  ·repeat' (first|refine Kn rfl ?_|((first|refine Kw ?_|refine Kv ?_);simp only[go_sem])|refine Kf ?_|apply Kp<;>intro _)
   ·omega
   ·rw[List.take_of_length_le (by omega),List.take_of_length_le (by omega)] at hz
    simp[hz]
theorem Wz3 (g h:Gr):(g.root==h.root && decide (g.l=h.l))=decide (g=h):=by
 cases g;cases h;simp only[Gr.mk.injEq];grind
theorem Xmf (g h:Gr):Xao QP gp 14 [g.v,h.v] (vb (decide (g=h))):=by
 refine Wkp ?_
 simp only[go_sem]
 repeat' first|refine Kn rfl ?_|((first|refine Kw ?_|refine Kv ?_);simp only[go_sem])|refine Kf ?_|refine⟨_,Yvj _ _,Kg ?_⟩|refine⟨_,⟨Yvj _ _,rfl⟩,Kg ?_⟩|apply Kp<;>intro _
 all_goals (rw[<- Wz3];simp_all)
abbrev bls (l:List Bool):List (List D):=l.map fun b=>[.bool b]
def Yl5 {α:Type} (p:α->Bool) (l:List α):Int:=if l.any p then (l.findIdx p:Int) else -1
theorem Xmg {α:Type} {p:α->Bool} {l:List α} (h:∀ y∈l,p y=false):Yl5 p l=-1:=by
 unfold Yl5
 rw[if_neg]
 simp only[List.any_eq_true,not_exists,not_and]
 intro y hy;simp[h y hy]
theorem Xua {α:Type} {p:α->Bool} {l:List α} {i:Nat} {x:α} (h:∀ y∈l.take i,p y=false) (hx:l[i]?=some x) (h0:p x=true):Yl5 p l=i:=by
 obtain⟨hi,rfl⟩:=Kr.1 hx
 unfold Yl5
 rw[if_pos (List.any_eq_true.2 ⟨l[i],List.getElem_mem hi,h0⟩)]
 have:l.findIdx p=i:=by
  rw[List.findIdx_eq hi]
  refine⟨h0,fun j hj=>?_⟩
  have:l[j]∈l.take i:=by
   rw[List.mem_take_iff_getElem]
   exact⟨j,by omega,rfl⟩
  exact h _ this
 rw[this]
theorem Xpl {α:Type} (p:α->Bool) (l:List α):decide (Yl5 p l >= 0)=l.any p:=by
 unfold Yl5
 split
 ·rename_i h;simp[h]
 ·rename_i h;simp at h;simp;exact h
theorem Xof (l:List Bool) (v:Bool):Xao QP gp 147 [.one (.d (.sl (bls l))),vb v] (vi (Yl5 (fun y=>v==y) l)):=by
 refine Y8v ?_
 simp only[go_sem]
 repeat' first|refine Kn rfl ?_|((first|refine Kw ?_|refine Kv ?_);simp only[go_sem])|refine Kf ?_|apply Kp<;>intro _
 refine Xrv 0 rfl fun hl=>?_
 refine Kt (fr 19 [(0,.one (.d (.sl (bls l)))),(1,vb v),(7,vi l.length),(8,vi (0:Nat))]) ?_
 refine Km (fun mz sz=>∃ i:Nat,i<=l.length/\mz=l.length - i/\(∀ y∈l.take i,(v==y)=false)/\sz=⟨fr 19 [(0,.one (.d (.sl (bls l)))),(1,vb v),(7,vi l.length),(8,vi i)],[]⟩) (l.length) ⟨0,Nat.zero_le _,(Nat.sub_zero _).symm,?_,rfl⟩ ?_
 ·simp
 rintro _ _ ⟨i,hi,rfl,hz,rfl⟩
 simp only[List.length_map] at hl
 simp only[go_sem]
 by_cases hil:i < l.length
 ·obtain⟨x,hx⟩:=Xaq hil
  repeat' first|refine Kn rfl ?_|((first|refine Kw ?_|refine Kv ?_);simp only[go_sem])|refine Kf ?_|refine⟨_,⟨Kq _,(by first|exact Xae hx|(rw[Int.toNat_natCast];exact Xae hx)),rfl⟩,Kg ?_⟩|apply Kp<;>intro _
  ·rename_i h;rw[Xua hz hx h]
  ·refine⟨Xat hil hl,?_⟩
   rename_i h
   refine Kt (fr 19 [(0,.one (.d (.sl (bls l)))),(1,vb v),(7,vi l.length),(8,vi (i+1))]) ?_
   refine Kl ⟨l.length - (i+1),by omega,i+1,by omega,rfl,?_,rfl⟩
   exact Xi2 hz hx (by simpa using h)
  ·omega
 ·repeat' (first|refine Kn rfl ?_|((first|refine Kw ?_|refine Kv ?_);simp only[go_sem])|refine Kf ?_|apply Kp<;>intro _)
  ·omega
  ·rw[List.take_of_length_le (by omega)] at hz
   rw[Xmg hz]
theorem Xed (l:List Bool) (v:Bool):Xao QP gp 133 [.one (.d (.sl (bls l))),vb v] (vb (l.any fun y=>v==y)):=by
 refine Y7q ?_
 simp only[go_sem]
 repeat' first|refine Kn rfl ?_|((first|refine Kw ?_|refine Kv ?_);simp only[go_sem])|refine Kf ?_|refine⟨_,Xof _ _,Kg ?_⟩|refine⟨_,⟨Xof _ _,rfl⟩,Kg ?_⟩|apply Kp<;>intro _
 exact Xpl _ _
theorem Xju (l:List Bool):Xao QP gp 114 [.one (.d (.sl (bls l)))] (vb (l.all id)):=by
 refine Y5t ?_
 simp only[go_sem]
 repeat' first|refine Kn rfl ?_|((first|refine Kw ?_|refine Kv ?_);simp only[go_sem])|refine Kf ?_|refine⟨_,Xed _ _,Kg ?_⟩|refine⟨_,⟨Xed _ _,rfl⟩,Kg ?_⟩|apply Kp<;>intro _
 induction l <;> simp_all
theorem Xog (l:List Int) (f:FuncId) (c:D) (p:Int->Bool) (hp:∀ x,Xao QP gp f [vi x,.one (.d c)] (vb (p x))) :
  Xao QP gp 148 [.one (.d (.sl (Xai l))),.one (.d (.fn (.func f) [c]))] (vi (Yl5 p l)):=by
 refine Y83 ?_
 simp only[go_sem]
 repeat' first|refine Kn rfl ?_|((first|refine Kw ?_|refine Kv ?_);simp only[go_sem])|refine Kf ?_|apply Kp<;>intro _
 refine Xrv 0 rfl fun hl=>?_
 refine Kt (fr 19 [(0,.one (.d (.sl (Xai l)))),(1,.one (.d (.fn (.func f) [c]))),(7,vi l.length),(8,vi (0:Nat))]) ?_
 refine Km (fun mz sz=>∃ i:Nat,i<=l.length/\mz=l.length - i/\(∀ y∈l.take i,p y=false)/\sz=⟨fr 19 [(0,.one (.d (.sl (Xai l)))),(1,.one (.d (.fn (.func f) [c]))),(7,vi l.length),(8,vi i)],[]⟩) (l.length) ⟨0,Nat.zero_le _,(Nat.sub_zero _).symm,?_,rfl⟩ ?_
 ·simp
 rintro _ _ ⟨i,hi,rfl,hz,rfl⟩
 simp only[List.length_map] at hl
 simp only[go_sem]
 by_cases hil:i < l.length
 ·obtain⟨x,hx⟩:=Xaq hil
  repeat' first|refine Kn rfl ?_|((first|refine Kw ?_|refine Kv ?_);simp only[go_sem])|refine Kf ?_|refine⟨_,hp _,Kg ?_⟩|refine⟨_,⟨hp _,rfl⟩,Kg ?_⟩|refine⟨_,⟨Kq _,(by first|exact Xae hx|(rw[Int.toNat_natCast];exact Xae hx)),rfl⟩,Kg ?_⟩|apply Kp<;>intro _
  ·rename_i h;rw[Xua hz hx h]
  ·refine⟨Xat hil hl,?_⟩
   rename_i h
   refine Kt (fr 19 [(0,.one (.d (.sl (Xai l)))),(1,.one (.d (.fn (.func f) [c]))),(7,vi l.length),(8,vi (i+1))]) ?_
   refine Kl ⟨l.length - (i+1),by omega,i+1,by omega,rfl,?_,rfl⟩
   exact Xi2 hz hx (by simpa using h)
  ·omega
 ·repeat' (first|refine Kn rfl ?_|((first|refine Kw ?_|refine Kv ?_);simp only[go_sem])|refine Kf ?_|apply Kp<;>intro _)
  ·omega
  ·rw[List.take_of_length_le (by omega)] at hz
   rw[Xmg hz]
theorem Xi4 (l:List Int) (f:FuncId) (c:D) (p:Int->Bool) (hp:∀ x,Xao QP gp f [vi x,.one (.d c)] (vb (p x))) :
  Xao QP gp 135 [.one (.d (.sl (Xai l))),.one (.d (.fn (.func f) [c]))] (vb (l.any p)):=by
 refine Y7y ?_
 simp only[go_sem]
 repeat' first|refine Kn rfl ?_|((first|refine Kw ?_|refine Kv ?_);simp only[go_sem])|refine Kf ?_|refine⟨_,Xog _ _ _ _ hp,Kg ?_⟩|refine⟨_,⟨Xog _ _ _ _ hp,rfl⟩,Kg ?_⟩|apply Kp<;>intro _
 exact Xpl _ _
theorem Xr5 (l:List Sc) (f:FuncId) (p:Sc->Bool) (hp:∀ x,Xao QP gp f [x.v] (vb (p x))) :
  Xao QP gp 149 [.one (.d (.sl (scs l))),.one (.d (.fn (.func f) []))] (vi (Yl5 p l)):=by
 refine Y9b ?_
 simp only[go_sem]
 repeat' first|refine Kn rfl ?_|((first|refine Kw ?_|refine Kv ?_);simp only[go_sem])|refine Kf ?_|apply Kp<;>intro _
 refine Xrv 0 rfl fun hl=>?_
 refine Kt (fr 19 [(0,.one (.d (.sl (scs l)))),(1,.one (.d (.fn (.func f) []))),(7,vi l.length),(8,vi (0:Nat))]) ?_
 refine Km (fun mz sz=>∃ i:Nat,i<=l.length/\mz=l.length - i/\(∀ y∈l.take i,p y=false)/\sz=⟨fr 19 [(0,.one (.d (.sl (scs l)))),(1,.one (.d (.fn (.func f) []))),(7,vi l.length),(8,vi i)],[]⟩) (l.length) ⟨0,Nat.zero_le _,(Nat.sub_zero _).symm,?_,rfl⟩ ?_
 ·simp
 rintro _ _ ⟨i,hi,rfl,hz,rfl⟩
 simp only[List.length_map] at hl
 simp only[go_sem]
 by_cases hil:i < l.length
 ·obtain⟨x,hx⟩:=Xaq hil
  repeat' first|refine Kn rfl ?_|((first|refine Kw ?_|refine Kv ?_);simp only[go_sem])|refine Kf ?_|refine⟨_,hp _,Kg ?_⟩|refine⟨_,⟨hp _,rfl⟩,Kg ?_⟩|refine⟨_,⟨Kq _,(by first|exact Xae hx|(rw[Int.toNat_natCast];exact Xae hx)),rfl⟩,Kg ?_⟩|apply Kp<;>intro _
  ·rename_i h;rw[Xua hz hx h]
  ·refine⟨Xat hil hl,?_⟩
   rename_i h
   refine Kt (fr 19 [(0,.one (.d (.sl (scs l)))),(1,.one (.d (.fn (.func f) []))),(7,vi l.length),(8,vi (i+1))]) ?_
   refine Kl ⟨l.length - (i+1),by omega,i+1,by omega,rfl,?_,rfl⟩
   exact Xi2 hz hx (by simpa using h)
  ·omega
 ·repeat' (first|refine Kn rfl ?_|((first|refine Kw ?_|refine Kv ?_);simp only[go_sem])|refine Kf ?_|apply Kp<;>intro _)
  ·omega
  ·rw[List.take_of_length_le (by omega)] at hz
   rw[Xmg hz]
theorem Xez (l:List Sc) (f:FuncId) (p:Sc->Bool) (hp:∀ x,Xao QP gp f [x.v] (vb (p x))) :
  Xao QP gp 137 [.one (.d (.sl (scs l))),.one (.d (.fn (.func f) []))] (vb (l.any p)):=by
 refine Y76 ?_
 simp only[go_sem]
 repeat' first|refine Kn rfl ?_|((first|refine Kw ?_|refine Kv ?_);simp only[go_sem])|refine Kf ?_|refine⟨_,Xr5 _ _ _ hp,Kg ?_⟩|refine⟨_,⟨Xr5 _ _ _ hp,rfl⟩,Kg ?_⟩|apply Kp<;>intro _
 exact Xpl _ _
theorem Xr6 (x:Nd) (n i:Int):Xao QP gp 134 [vi i,.one (.d (.bx (x.vd n)))] (vb (decide (i < 0) || decide (i >= n))):=by
 refine Y7u ?_
 simp only[go_sem]
 repeat' first|refine Kn rfl ?_|((first|refine Kw ?_|refine Kv ?_);simp only[go_sem])|refine Kf ?_|apply Kp<;>intro _
 all_goals grind
def Xd0 (l:List Int) (n:Int):Bool:=l.all fun i=>decide (0<=i) && decide (i < n)
theorem Xkw (x:Nd) (n:Int):Xao QP gp 115 [x.vw n] (vb (Xd0 x.kids n)):=by
 refine Y5y ?_
 simp only[go_sem]
 repeat' first|refine Kn rfl ?_|((first|refine Kw ?_|refine Kv ?_);simp only[go_sem])|refine Kf ?_|refine⟨_,Xi4 _ _ _ _ (Xr6 x n),Kg ?_⟩|refine⟨_,⟨Xi4 _ _ _ _ (Xr6 x n),rfl⟩,Kg ?_⟩|apply Kp<;>intro _
 unfold Xd0
 generalize x.kids=l
 induction l with
 | nil=>rfl
 | cons a l ih=>simp only[List.any_cons,List.all_cons,Bool.not_or,ih];congr 1;grind
def Xmh:Int:=999999999999999
def prR (R:ByteArray->Bool) (x:Sc):Bool :=
 if x.k=0 then decide (x=⟨0,0,⟨#[]⟩⟩)
 else if x.k=1 then decide (x.s=⟨#[]⟩) && (decide (x.n=0) || decide (x.n=1))
 else if x.k=2 then decide (x.s=⟨#[]⟩) && (decide (-Xmh<=x.n) && decide (x.n<=Xmh))
 else if x.k=3 then decide (x.n=0) && R x.s else false
theorem Xpm (x:Sc):(x.k==0 && (x.n==0 && decide (x.s=⟨#[]⟩)))=decide (x=⟨0,0,⟨#[]⟩⟩):=Yah x ⟨0,0,⟨#[]⟩⟩
theorem Xb6 (R:ByteArray->Bool) (hR:∀ s,Xao QP gp 40 [vs s] (vb (R s))) (x:Sc):Xao QP gp 18 [x.v] (vb (prR R x)):=by
 refine Wkx ?_
 simp only[go_sem]
 repeat' first|refine Kn rfl ?_|((first|refine Kw ?_|refine Kv ?_);simp only[Xpm,go_sem])|refine Kf ?_|refine⟨_,hR _,Kg ?_⟩|refine⟨_,⟨hR _,rfl⟩,Kg ?_⟩|apply Kp<;>intro _
 all_goals (first|(unfold prR Xmh;grind)|trace_state)
theorem Xr7 (R:ByteArray->Bool) (hR:∀ s,Xao QP gp 40 [vs s] (vb (R s))) (x:Sc):Xao QP gp 136 [x.v] (vb (!prR R x)):=by
 refine Y72 ?_
 simp only[go_sem]
 repeat' first|refine Kn rfl ?_|((first|refine Kw ?_|refine Kv ?_);simp only[go_sem])|refine Kf ?_|refine⟨_,Xb6 R hR _,Kg ?_⟩|refine⟨_,⟨Xb6 R hR _,rfl⟩,Kg ?_⟩|apply Kp<;>intro _
 try rfl
section
variable {α:Type} [DecidableEq α] {kag:Bool} {ks:List Leaf} {kv:α->V} {v:V}
theorem Xmi (he:∀ a b,eqV kag ks (kv a) (kv b)=some (decide (a=b))):∀ (l:List α) (x:α),Xdc kag ks (l.map fun a=>(kv a,v)) (kv x)=some (if x∈l then some v else none)
 | [],x=>by simp[Xdc]
 | a::l,x=>by
  simp only[List.map_cons,Xdc,he]
  by_cases h:x=a
  ·simp[h]
  ·simp only[h,decide_false,Xmi he l x,List.mem_cons,false_or]
theorem Xpn (he:∀ a b,eqV kag ks (kv a) (kv b)=some (decide (a=b))):∀ (l:List α) (x:α),x ∉ l->Xj9 kag ks (l.map fun a=>(kv a,v)) (kv x) v=some ((l++[x]).map fun a=>(kv a,v))
 | [],x,_=>by simp[Xj9]
 | a::l,x,h=>by
  simp only[List.mem_cons,not_or] at h
  simp only[List.map_cons,Xj9,he,h.1,decide_false,Xpn he l x h.2,List.cons_append]
end
theorem Yvk (x y:Sc):eqV true [.i,.i,.s] x.v y.v=some (decide (x=y)):=by
 simp only[go_sem]
 rw[Yah]
abbrev Yl6 (l:List Sc):List (V × V):=l.map fun a=>(Sc.v a,vb true)
theorem X0s (l:List Sc):(Ch.map (Yl6 l)).refs=[]:=by
 simp only[Ch.refs]
 rw[List.flatMap_eq_nil_iff]
 intro e he
 obtain⟨a,_,rfl⟩:=List.mem_map.1 he
 rfl
theorem Wru (l:List Sc):Xao QP gp 111 [.one (.d (.sl (scs l)))] (.one (.d (.fn (.func 132) [.bx [.sl (scs l)]]))):=by
 refine Y5p ?_
 simp only[go_sem]
 repeat' first|refine Kn rfl ?_|((first|refine Kw ?_|refine Kv ?_);simp only[go_sem])|refine Kf ?_|apply Kp<;>intro _
theorem Yl7 {α:Type} [DecidableEq α] {l:List α} {i:Nat} {x:α} (hx:l[i]?=some x) (hm:x∈l.take i):¬ l.Nodup:=by
 intro h
 obtain⟨hi,rfl⟩:=Kr.1 hx
 rw[List.mem_take_iff_getElem] at hm
 obtain⟨j,hj,e⟩:=hm
 exact List.pairwise_iff_getElem.1 h j i (by omega) hi (by omega) e
theorem Xb8 {α:Type} {l:List α} {i:Nat} {x:α} (hx:l[i]?=some x):l.take i++[x]=l.take (i+1):=by
 rw[List.take_succ,hx];rfl
theorem X0t {α:Type} {l:List α} {i:Nat} {x:α} (hx:l[i]?=some x) (hm:x ∉ l.take i) (h:(l.take i).Nodup):(l.take (i+1)).Nodup:=by
 rw[<- Xb8 hx,List.nodup_append]
 refine⟨h,by simp,?_⟩
 intro a ha b hb;simp at hb;subst hb;rintro rfl;exact hm ha
theorem Y9c (l:List Sc):Xao QP gp 80 [.one (.d (.sl (scs l)))] (vb (!decide l.Nodup)):=by
 refine Wpy ?_
 simp only[go_sem]
 repeat' first|refine Kn rfl ?_|((first|refine Kw ?_|refine Kv ?_);simp only[go_sem])|refine Kf ?_|refine⟨_,Wru _,Kg ?_⟩|refine⟨_,⟨Wru _,rfl⟩,Kg ?_⟩|apply Kp<;>intro _
 refine Yzw (f2:=132) (caps:=[.one (.d (.bx [.sl (scs l)]))]) (fun pd own'=>pd=none/\∃ n:Nat,own'.head?=some (.cells [.d (.int .i64 n)])/\decide ((n:Int) < l.length)=!decide l.Nodup) rfl ?_ Y7m ?_ ?_ ?_
 ·intro y;simp only[go_sem]
 ·rintro b rc hps ⟨hs,hta,htb⟩
  refine Yll ?_
  simp only[go_sem]
  repeat' first|refine Kn rfl ?_|((first|refine Kw ?_|refine Kv ?_);simp only[go_sem])|refine Kf ?_|apply Kp<;>intro _
  refine Yqc 1 0 rfl rfl fun hl=>?_
  simp only[List.length_map] at hl
  refine Kt (fr 25 [(0,.one (.d (.raw (.func (.yield b) #[] #[])))),(1,.one (.d (.bx [.sl (scs l)]))),(3,.one (.own 2 0)),(7,.one (.d (.sl (scs l)))),(8,vi l.length),(9,vi (0:Nat))]) ?_
  refine Km (fun mz sz=>∃ i:Nat,i<=l.length/\mz=l.length - i/\((l.take i).Nodup)/\sz=⟨fr 25 [(0,.one (.d (.raw (.func (.yield b) #[] #[])))),(1,.one (.d (.bx [.sl (scs l)]))),(3,.one (.own 2 0)),(7,.one (.d (.sl (scs l)))),(8,vi l.length),(9,vi i)],[.cells [.d (.int .i64 ((i:Nat):Int))],.lp b _ rc .ready none,.map (Yl6 (l.take i))]⟩) (l.length) ⟨0,Nat.zero_le _,(Nat.sub_zero _).symm,?_,rfl⟩ ?_
  ·simp
  rintro _ _ ⟨i,hi,rfl,hz,rfl⟩
  simp only[go_sem]
  by_cases hil:i < l.length
  ·obtain⟨x,hx⟩:=Xaq hil
   repeat' first|refine Kn rfl ?_|((first|refine Kw ?_|refine Kv ?_);simp only[go_sem])|refine Kf ?_|refine⟨_,⟨Kq _,(by first|exact Xae hx|(rw[Int.toNat_natCast];exact Xae hx)),rfl⟩,Kg ?_⟩|apply Kp<;>intro _
   ·have hf:=Xmi (v:=vb true) Yvk (l.take i) x
    by_cases hm:x∈l.take i
    ·simp only[hm,if_true] at hf
     refine⟨_,⟨hf,rfl⟩,Kg ?_⟩
     simp only[go_sem]
     repeat' first|refine Kn rfl ?_|((first|refine Kw ?_|refine Kv ?_);simp only[go_sem])|refine Kf ?_|apply Kp<;>intro _
     refine⟨.ready,none,rfl,by simp,rfl,i,rfl,?_⟩
     have:=Yl7 hx hm
     simp[this];omega
    ·simp only[hm,if_false] at hf
     refine⟨_,⟨hf,rfl⟩,Kg ?_⟩
     simp only[go_sem]
     repeat' first|refine Kn rfl ?_|((first|refine Kw ?_|refine Kv ?_);simp only[go_sem])|refine Kf ?_|apply Kp<;>intro _
     have hn:inK .i64 ((i:Int)+1):=Xat hil hl
     refine⟨[.cells [.d (.int .i64 ((i:Int)+1))],.lp b _ rc .ready none,.map (Yl6 (l.take i)),.cells x.as],true,Nat.le_refl _,⟨1,_,rc,hs,_,_,[.cells [.d (.int .i64 ((i:Int)+1))],.dead,.map (Yl6 (l.take i)),.cells x.as],none,rfl,by rw[<- Array.length_toList,hps];rfl,hta,htb,?_,rfl,rfl⟩,Kg ?_⟩
     ·rw[hps]
      simp only[go_sem]
      repeat' first|refine Kn rfl ?_|((first|refine Kw ?_|refine Kv ?_);simp only[go_sem])|refine Kf ?_|apply Kp<;>intro _
      refine Xfz ⟨rfl,?_⟩
      repeat' first|refine Kn rfl ?_|((first|refine Kw ?_|refine Kv ?_);simp only[go_sem])|refine Kf ?_|apply Kp<;>intro _
      refine⟨hn,?_⟩
      repeat' first|refine Kn rfl ?_|((first|refine Kw ?_|refine Kv ?_);simp only[go_sem])|refine Kf ?_|apply Kp<;>intro _
      exact Xfz ⟨⟨rfl,rfl⟩,rfl⟩
     ·simp only[go_sem]
      repeat' first|refine Kn rfl ?_|((first|refine Kw ?_|refine Kv ?_);simp only[go_sem])|refine Kf ?_|apply Kp<;>intro _
      refine⟨_,Xpn Yvk _ x hm,Kg ?_⟩
      rw[Xb8 hx]
      simp only[go_sem]
      repeat' first|refine Kn rfl ?_|((first|refine Kw ?_|refine Kv ?_);simp only[go_sem])|refine Kf ?_|apply Kp<;>intro _
      refine⟨hn,?_⟩
      refine Kt (fr 25 [(0,.one (.d (.raw (.func (.yield b) #[] #[])))),(1,.one (.d (.bx [.sl (scs l)]))),(3,.one (.own 2 0)),(7,.one (.d (.sl (scs l)))),(8,vi l.length),(9,vi (i+1))]) ?_
      refine Kk 3 (by simp only[List.length_nil,List.length_cons];decide) (by simp only[go_sem]) (by simp only[List.take_succ_cons,List.take_zero,List.all_cons,List.all_nil,X0s];try simp only[go_sem]) ?_
      simp only[go_sem]
      refine Kl ⟨l.length - (i+1),by omega,i+1,by omega,rfl,?_,rfl⟩
      exact X0t hx hm hz
   ·omega
  ·repeat' (first|refine Kn rfl ?_|((first|refine Kw ?_|refine Kv ?_);simp only[go_sem])|refine Kf ?_|apply Kp<;>intro _)
   ·omega
   ·refine⟨.ready,none,rfl,by simp,rfl,i,rfl,?_⟩
    rw[List.take_of_length_le (by omega)] at hz
    simp[hz];omega
 ·rintro (_|⟨c,own'⟩) ⟨_,n,h1,h2⟩
  ·cases h1
  ·simp only[List.head?_cons,Option.some.injEq] at h1
   subst h1
   simp only[go_sem]
   repeat' first|refine Kn rfl ?_|((first|refine Kw ?_|refine Kv ?_);simp only[go_sem])|refine Kf ?_|apply Kp<;>intro _
   exact h2
 ·rintro _ _ ⟨h,_⟩;cases h
section
variable (R:ByteArray->Bool) (hR:∀ s,Xao QP gp 40 [vs s] (vb (R s)))
include hR
def Xpo (R:ByteArray->Bool) (l:List Sc):Bool:=l.all (prR R) && decide l.Nodup
theorem Xxr (x:Nd) (n:Int):Xao QP gp 116 [x.vw n] (vb (Xpo R x.keys)):=by
 refine Y53 ?_
 simp only[go_sem]
 repeat' first|refine Kn rfl ?_|((first|refine Kw ?_|refine Kv ?_);simp only[go_sem])|refine Kf ?_|refine⟨_,Xez _ _ _ (Xr7 R hR),Kg ?_⟩|refine⟨_,⟨Xez _ _ _ (Xr7 R hR),rfl⟩,Kg ?_⟩|refine⟨_,Y9c _,Kg ?_⟩|refine⟨_,⟨Y9c _,rfl⟩,Kg ?_⟩|apply Kp<;>intro _
 all_goals (unfold Xpo;grind)
def Yil (R:ByteArray->Bool) (x:Nd):Bool:=prR R x.x && (decide (x.keys=[]) && decide (x.kids=[]))
theorem Yvl (x:Nd) (n:Int):Xao QP gp 90 [x.vw n] (vb (Yil R x)):=by
 refine Wqb ?_
 simp only[go_sem]
 repeat' first|refine Kn rfl ?_|((first|refine Kw ?_|refine Kv ?_);simp only[go_sem])|refine Kf ?_|refine⟨_,Xb6 R hR _,Kg ?_⟩|refine⟨_,⟨Xb6 R hR _,rfl⟩,Kg ?_⟩|refine⟨_,Xju [_,_,_],Kg ?_⟩|refine⟨_,⟨Xju [_,_,_],rfl⟩,Kg ?_⟩|apply Kp<;>intro _
 unfold Yil
 cases x.keys <;> cases x.kids <;> simp <;> omega
def isZ (x:Sc):Bool:=decide (x=⟨0,0,⟨#[]⟩⟩)
def Yal (x:Nd) (n:Int):Bool:=isZ x.x && (decide (x.keys=[]) && Xd0 x.kids n)
omit hR in
theorem Yvm (x:Nd) (n:Int):Xao QP gp 91 [x.vw n] (vb (Yal x n)):=by
 refine Wqf ?_
 simp only[go_sem]
 repeat' first|refine Kn rfl ?_|((first|refine Kw ?_|refine Kv ?_);simp only[Xpm,go_sem])|refine Kf ?_|refine⟨_,Xkw _ _,Kg ?_⟩|refine⟨_,⟨Xkw _ _,rfl⟩,Kg ?_⟩|refine⟨_,Xju [_,_,_],Kg ?_⟩|refine⟨_,⟨Xju [_,_,_],rfl⟩,Kg ?_⟩|apply Kp<;>intro _
 unfold Yal isZ
 cases x.keys <;> simp <;> omega
def Yam (R:ByteArray->Bool) (x:Nd) (n:Int):Bool:=isZ x.x && (decide (x.keys.length=x.kids.length) && (Xpo R x.keys && Xd0 x.kids n))
theorem Yvn (x:Nd) (n:Int):Xao QP gp 92 [x.vw n] (vb (Yam R x n)):=by
 refine Wqj ?_
 simp only[go_sem]
 repeat' first|refine Kn rfl ?_|((first|refine Kw ?_|refine Kv ?_);simp only[Xpm,go_sem])|refine Kf ?_|refine⟨_,Xi3 _ _,Kg ?_⟩|refine⟨_,⟨Xi3 _ _,rfl⟩,Kg ?_⟩|refine⟨_,Xxr R hR _ _,Kg ?_⟩|refine⟨_,⟨Xxr R hR _ _,rfl⟩,Kg ?_⟩|refine⟨_,Xkw _ _,Kg ?_⟩|refine⟨_,⟨Xkw _ _,rfl⟩,Kg ?_⟩|refine⟨_,Xju [_,_,_,_],Kg ?_⟩|refine⟨_,⟨Xju [_,_,_,_],rfl⟩,Kg ?_⟩|apply Kp<;>intro _
 unfold Yam isZ
 simp
def Xa8 (R:ByteArray->Bool) (x:Nd) (n:Int):Bool :=
 if x.k=0 then Yil R x else if x.k=1 then Yal x n else if x.k=2 then Yam R x n else false
theorem Yl8 (x:Nd) (n:Int):Xao QP gp 68 [x.vw n] (vb (Xa8 R x n)):=by
 refine Woy ?_
 simp only[go_sem]
 repeat' first|refine Kn rfl ?_|((first|refine Kw ?_|refine Kv ?_);simp only[go_sem])|refine Kf ?_|apply Kp<;>intro _
 ·rename_i h1 h2
  rcases (show x.k=0\/x.k=1\/x.k=2 by omega) with h|h|h
  ·refine⟨0,⟨h,by decide⟩,Kg ?_⟩
   repeat' first|refine Kn rfl ?_|((first|refine Kw ?_|refine Kv ?_);simp only[go_sem])|refine Kf ?_|refine⟨_,Yvl R hR _ _,Kg ?_⟩|refine⟨_,⟨Yvl R hR _ _,rfl⟩,Kg ?_⟩|apply Kp<;>intro _
   simp[Xa8,h]
  ·refine⟨1,⟨h,by decide⟩,Kg ?_⟩
   repeat' first|refine Kn rfl ?_|((first|refine Kw ?_|refine Kv ?_);simp only[go_sem])|refine Kf ?_|refine⟨_,Yvm _ _,Kg ?_⟩|refine⟨_,⟨Yvm _ _,rfl⟩,Kg ?_⟩|apply Kp<;>intro _
   simp[Xa8,h]
  ·refine⟨2,⟨h,by decide⟩,Kg ?_⟩
   repeat' first|refine Kn rfl ?_|((first|refine Kw ?_|refine Kv ?_);simp only[go_sem])|refine Kf ?_|refine⟨_,Yvn R hR _ _,Kg ?_⟩|refine⟨_,⟨Yvn R hR _ _,rfl⟩,Kg ?_⟩|apply Kp<;>intro _
   simp[Xa8,h]
 all_goals (unfold Xa8;rw[if_neg (by omega),if_neg (by omega),if_neg (by omega)])
omit hR in
theorem Wrv (g:Gr):Xao QP gp 67 [g.v] (.one (.d (.fn (.func 89) [.bx [.int .i64 g.root,.sl (nds g.l)]]))):=by
 refine Wot ?_
 simp only[go_sem]
 repeat' first|refine Kn rfl ?_|((first|refine Kw ?_|refine Kv ?_);simp only[go_sem])|refine Kf ?_|apply Kp<;>intro _
def Xgx (R:ByteArray->Bool) (g:Gr):Option (Int × Int) :=
 if g.l.length > 200 then some (0,71) else if ¬ (0<=g.root/\g.root < g.l.length) then some (-1,70)
 else (g.l.findIdx? fun x=>!Xa8 R x g.l.length).map fun i=>((i:Int),70)
def W1o:Option (Int × Int)->D
 | none=>.nilI
 | some (a,e)=>.ifc 118 true [.int .i64 a,.int .i64 e]
abbrev Wxy (e:Option (Int × Int)):A:=.d (W1o e)
abbrev Wz4 (e:Option (Int × Int)):V:=.one (Wxy e)
omit hR in
theorem Yan {l:List Nd} {p:Nd->Bool} (h:∀ y∈l,p y=false):l.findIdx? p=none:=by
 rw[List.findIdx?_eq_none_iff];exact h
omit hR in
theorem Y9d {l:List Nd} {p:Nd->Bool} {i:Nat} {x:Nd} (h:∀ y∈l.take i,p y=false) (hx:l[i]?=some x) (h0:p x=true):l.findIdx? p=some i:=by
 obtain⟨hi,rfl⟩:=Kr.1 hx
 rw[List.findIdx?_eq_some_iff_getElem]
 refine⟨hi,h0,fun j hj=>?_⟩
 have:l[j]∈l.take i:=by
  rw[List.mem_take_iff_getElem]
  exact⟨j,by omega,rfl⟩
 simp[h _ this]
theorem Wrw (g:Gr):Xao QP gp 42 [g.v] (Wz4 (Xgx R g)):=by
 refine Wnc ?_
 simp only[go_sem]
 repeat' first|refine Kn rfl ?_|((first|refine Kw ?_|refine Kv ?_);simp only[go_sem])|refine Kf ?_|refine⟨_,Xkv _ _ _,Kg ?_⟩|refine⟨_,⟨Xkv _ _ _,rfl⟩,Kg ?_⟩|refine⟨_,Wrv _,Kg ?_⟩|refine⟨_,⟨Wrv _,rfl⟩,Kg ?_⟩|apply Kp<;>intro _
 ·rename_i h;unfold Xgx;rw[if_pos (by omega)];rfl
 ·rename_i h1 h2
  have h3:¬ (0<=g.root/\g.root < (g.l.length:Int)):=by intro h3;simp[h3] at h2
  unfold Xgx;rw[if_neg (by omega),if_pos h3];rfl
 ·rename_i h1 h2
  have h3:0<=g.root/\g.root < (g.l.length:Int):=Classical.byContradiction fun h3=>by simp[h3] at h2
  have hck:Xgx R g=(g.l.findIdx? fun x=>!Xa8 R x g.l.length).map fun i=>((i:Int),70):=by
   unfold Xgx;rw[if_neg (by omega),if_neg (by simpa using h3)]
  rw[hck]
  refine Yzw (f2:=89) (caps:=[.one (.d (.bx [.int .i64 g.root,.sl (nds g.l)]))]) (fun pd own'=>((pd=none/\(g.l.findIdx? fun x=>!Xa8 R x g.l.length)=none/\own'.head?=some (.cells [.d .nilI]))\/(pd=some .ret/\∃ i:Nat,(g.l.findIdx? fun x=>!Xa8 R x g.l.length)=some i/\own'.head?=some (.cells [Wxy (some ((i:Int),70))])))) rfl ?_ Wp7 ?_ ?_ ?_
  ·intro y;simp only[go_sem]
  ·rintro b rc hps ⟨hs,hta,htb⟩
   refine Y4q ?_
   simp only[go_sem]
   repeat' first|refine Kn rfl ?_|((first|refine Kw ?_|refine Kv ?_);simp only[go_sem])|refine Kf ?_|apply Kp<;>intro _
   refine Yqc 1 1 rfl rfl fun hl=>?_
   simp only[List.length_map] at hl
   refine Kt (fr 23 [(0,.one (.d (.raw (.func (.yield b) #[] #[])))),(1,.one (.d (.bx [.int .i64 g.root,.sl (nds g.l)]))),(6,.one (.d (.sl (nds g.l)))),(7,vi g.l.length),(8,vi (0:Nat))]) ?_
   refine Km (fun mz sz=>∃ i:Nat,i<=g.l.length/\mz=g.l.length - i/\(∀ y∈g.l.take i,(!Xa8 R y g.l.length)=false)/\sz=⟨fr 23 [(0,.one (.d (.raw (.func (.yield b) #[] #[])))),(1,.one (.d (.bx [.int .i64 g.root,.sl (nds g.l)]))),(6,.one (.d (.sl (nds g.l)))),(7,vi g.l.length),(8,vi i)],[.cells [.d .nilI],.lp b _ rc .ready none]⟩) (g.l.length) ⟨0,Nat.zero_le _,(Nat.sub_zero _).symm,?_,rfl⟩ ?_
   ·simp
   rintro _ _ ⟨i,hi,rfl,hz,rfl⟩
   simp only[go_sem]
   by_cases hil:i < g.l.length
   ·obtain⟨x,hx⟩:=Xaq hil
    repeat' first|refine Kn rfl ?_|((first|refine Kw ?_|refine Kv ?_);simp only[go_sem])|refine Kf ?_|refine⟨_,⟨Kq _,(by first|exact Xae hx|(rw[Int.toNat_natCast];exact Xae hx)),rfl⟩,Kg ?_⟩|apply Kp<;>intro _
    ·have hn:inK .i64 ((i:Int)+1):=Xat hil hl
     have hr:=Yl8 R hR x (g.l.length:Int)
     cases hb:Xa8 R x g.l.length with
     | true =>
      rw[hb] at hr
      refine⟨[.cells [.d .nilI],.lp b _ rc .ready none,.cells x.as,.cells (x.as++[.d (.int .i64 g.l.length)])],true,by simp,⟨1,_,rc,hs,_,_,[.cells [.d .nilI],.dead,.cells x.as,.cells (x.as++[.d (.int .i64 g.l.length)])],none,rfl,by rw[<- Array.length_toList,hps];rfl,hta,htb,?_,rfl,rfl⟩,Kg ?_⟩
      ·rw[hps]
       simp only[go_sem]
       repeat' first|refine Kn rfl ?_|((first|refine Kw ?_|refine Kv ?_);simp only[go_sem])|refine Kf ?_|apply Kp<;>intro _
       refine Xfz ⟨rfl,?_⟩
       repeat' first|refine Kn rfl ?_|((first|refine Kw ?_|refine Kv ?_);simp only[go_sem])|refine Kf ?_|refine⟨_,hr,Kg ?_⟩|refine⟨_,⟨hr,rfl⟩,Kg ?_⟩|apply Kp<;>intro _
       exact Xfz ⟨⟨rfl,rfl⟩,rfl⟩
      ·simp only[go_sem]
       repeat' first|refine Kn rfl ?_|((first|refine Kw ?_|refine Kv ?_);simp only[go_sem])|refine Kf ?_|apply Kp<;>intro _
       refine⟨hn,?_⟩
       refine Kt (fr 23 [(0,.one (.d (.raw (.func (.yield b) #[] #[])))),(1,.one (.d (.bx [.int .i64 g.root,.sl (nds g.l)]))),(6,.one (.d (.sl (nds g.l)))),(7,vi g.l.length),(8,vi (i+1))]) ?_
       refine Ku 2 ?_
       simp only[go_sem]
       refine Kl ⟨g.l.length - (i+1),by omega,i+1,by omega,rfl,?_,rfl⟩
       exact Xi2 hz hx (by simp[hb])
     | false =>
      rw[hb] at hr
      refine⟨[.cells [Wxy (some ((i:Int),70))],.lp b _ rc .done (some .ret),.cells x.as,.cells (x.as++[.d (.int .i64 g.l.length)])],false,by simp,⟨1,_,rc,hs,_,_,[.cells [Wxy (some ((i:Int),70))],.dead,.cells x.as,.cells (x.as++[.d (.int .i64 g.l.length)])],some .ret,rfl,by rw[<- Array.length_toList,hps];rfl,hta,htb,?_,rfl,rfl⟩,Kg ?_⟩
      ·rw[hps]
       simp only[go_sem]
       repeat' first|refine Kn rfl ?_|((first|refine Kw ?_|refine Kv ?_);simp only[go_sem])|refine Kf ?_|apply Kp<;>intro _
       refine Xfz ⟨rfl,?_⟩
       repeat' first|refine Kn rfl ?_|((first|refine Kw ?_|refine Kv ?_);simp only[go_sem])|refine Kf ?_|refine⟨_,hr,Kg ?_⟩|refine⟨_,⟨hr,rfl⟩,Kg ?_⟩|apply Kp<;>intro _
       exact X27 rfl ⟨⟨rfl,rfl⟩,rfl⟩
      ·simp only[go_sem]
       repeat' first|refine Kn rfl ?_|((first|refine Kw ?_|refine Kv ?_);simp only[go_sem])|refine Kf ?_|apply Kp<;>intro _
       exact⟨.done,some .ret,rfl,by simp,.inr ⟨rfl,i,Y9d hz hx (by simp[hb]),rfl⟩⟩
    ·omega
   ·repeat' (first|refine Kn rfl ?_|((first|refine Kw ?_|refine Kv ?_);simp only[go_sem])|refine Kf ?_|apply Kp<;>intro _)
    ·omega
    ·rw[List.take_of_length_le (by omega)] at hz
     exact⟨.ready,none,rfl,by simp,.inl ⟨rfl,Yan hz,rfl⟩⟩
  ·rintro (_|⟨c,own'⟩) (⟨_,h4,h5⟩|⟨h4,_⟩)
   ·cases h5
   ·cases h4
   ·simp only[List.head?_cons,Option.some.injEq] at h5
    subst h5
    rw[h4]
    repeat' first|refine Kn rfl ?_|((first|refine Kw ?_|refine Kv ?_);simp only[go_sem])|refine Kf ?_|apply Kp<;>intro _
    rfl
   ·cases h4
  ·rintro c (_|⟨c',own'⟩) (⟨h4,_⟩|⟨h4,i,h5,h6⟩)
   ·cases h4
   ·cases h6
   ·cases h4
   ·cases h4
    simp only[List.head?_cons,Option.some.injEq] at h6
    subst h6
    rw[h5]
    refine⟨.ret,rfl,?_⟩
    repeat' first|refine Kn rfl ?_|((first|refine Kw ?_|refine Kv ?_);simp only[go_sem])|refine Kf ?_|apply Kp<;>intro _
    first|exact⟨rfl,rfl⟩|rfl
end
end Go.Fw.L07
