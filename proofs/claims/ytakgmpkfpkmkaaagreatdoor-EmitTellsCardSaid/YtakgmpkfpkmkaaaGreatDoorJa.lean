/- Chapter 10,plain: numbers in the order of first appearance; classes that are parted as long as there are more. -/
import Derived.Test.YtakgmpkfpkmkaaaGreatDoorLa
import Derived.Test.YtakgmpkfpkmkaaaGreatDoorVa
import Derived.Test.YtakgmpkfpkmkaaaGreatDoorLb
import Derived.Lib.MapLaws
import Derived.Lib.ItoaLen
import Derived.Test.YtakgmpkfpkmkaaaGreatDoorIa
set_option linter.all false
namespace Go.Fw.L07
open Go Go.Fw
open List renaming getElem?_eq_some_iff->Kr
set_option maxRecDepth 4000
section
variable {α β:Type} [DecidableEq α] [DecidableEq β]
def ddF:List α->List α->List α
 | d,[]=>d
 | d,a::l=>ddF (if a∈d then d else d++[a]) l
def ddp (l:List α):List α:=ddF [] l
theorem Ykf:∀ (l m:List α) (d:List α),ddF d (l++m)=ddF (ddF d l) m
 | [],_,_=>rfl
 | a::l,m,d=>by simp only[List.cons_append,ddF,Ykf l m]
theorem X0w (l:List α) (a:α):ddp (l++[a])=if a∈ddp l then ddp l else ddp l++[a]:=by
 unfold ddp;rw[Ykf];rfl
theorem Ykg:∀ (l d:List α) (x:α),x∈ddF d l↔x∈d\/x∈l
 | [],d,x=>by simp[ddF]
 | a::l,d,x=>by
  simp only[ddF,Ykg l,List.mem_cons]
  split
  ·rename_i h
   constructor
   ·rintro (h1|h1)
    ·exact .inl h1
    ·exact .inr (.inr h1)
   ·rintro (h1|rfl|h1)
    ·exact .inl h1
    ·exact .inl h
    ·exact .inr h1
  ·simp only[List.mem_append,List.mem_singleton,or_assoc]
theorem Xd7 {l:List α} {x:α}:x∈ddp l↔x∈l:=by unfold ddp;rw[Ykg];simp
theorem Xrn:∀ (l d:List α),d.Nodup->(ddF d l).Nodup
 | [],_,h=>h
 | a::l,d,h=>by
  simp only[ddF]
  refine Xrn l _ ?_
  split
  ·exact h
  ·rename_i ha
   rw[List.nodup_append]
   exact⟨h,by simp,fun x hx y hy e=>by simp at hy;subst hy;subst e;exact ha hx⟩
theorem Xro (l:List α):(ddp l).Nodup:=Xrn l [] (by simp)
theorem Wtp (l:List α):(ddp l).length<=l.length:=(Xro l).length_le_of_subset fun x hx=>Xd7.1 hx
def rkp (l:List α):List Int:=l.map fun a=>((ddp l).idxOf a:Int)
theorem Ykh (l:List α):(rkp l).length=l.length:=by simp[rkp]
theorem Yki {d:List α} {a b:α} (ha:a∈d) (hb:b∈d) (h:d.idxOf a=d.idxOf b):a=b:=by
 have h1:=List.getElem_idxOf (List.idxOf_lt_length_iff.2 ha)
 have h2:=List.getElem_idxOf (List.idxOf_lt_length_iff.2 hb)
 rw[<- h1,<- h2]
 congr 1
theorem X0x {l:List α} {i:Nat} {a:α} (h:l[i]?=some a):(rkp l)[i]?=some ((ddp l).idxOf a:Int):=by unfold rkp;rw[List.getElem?_map,h];rfl
theorem Jbr {l:List α} {i j:Nat} {a b:α} (ha:l[i]?=some a) (hb:l[j]?=some b):(rkp l)[i]?=(rkp l)[j]?↔a=b:=by
 rw[X0x ha,X0x hb]
 constructor
 ·intro h
  have h:=Option.some.inj h
  exact Yki (Xd7.2 (List.mem_of_getElem? ha)) (Xd7.2 (List.mem_of_getElem? hb)) (by omega)
 ·rintro rfl;rfl
theorem Xl6 {l:List α} {n:Nat} {a:α} (h:l[n]?=some a):l.take (n+1)=l.take n++[a]:=by rw[List.take_succ,h];rfl
theorem Xid {l:List α} {n:Nat} {a:α}:a∈l.take n↔∃ i,i < n/\l[i]?=some a:=by
 rw[List.mem_iff_getElem?]
 constructor
 ·rintro⟨i,hi⟩
  rw[List.getElem?_take] at hi
  split at hi
  ·exact⟨i,‹_›,hi⟩
  ·cases hi
 ·rintro⟨i,hi,h⟩
  exact⟨i,by rw[List.getElem?_take,if_pos hi];exact h⟩
theorem Wtq {l:List α} {m:List β} (hl:l.length=m.length) (hk:∀ i j:Nat,i < l.length->j < l.length->(l[i]?=l[j]?↔m[i]?=m[j]?)):rkp l=rkp m:=by
 have key:∀ n,n<=l.length->(ddp (l.take n)).length=(ddp (m.take n)).length/\∀ (i:Nat) (a:α) (b:β),i < n->l[i]?=some a->m[i]?=some b->(ddp (l.take n)).idxOf a=(ddp (m.take n)).idxOf b:=by
  intro n
  induction n with
  | zero=>intro _;exact⟨by simp[ddp,ddF],fun i a b hi=>by omega⟩
  | succ n ih =>
   intro hn
   obtain⟨h1,h2⟩:=ih (by omega)
   obtain⟨a,ha⟩:=Xaf (l:=l) (i:=n) (by omega)
   obtain⟨b,hb⟩:=Xaf (l:=m) (i:=n) (by omega)
   have hm:a∈ddp (l.take n)↔b∈ddp (m.take n):=by
    rw[Xd7,Xd7,Xid,Xid]
    constructor
    ·rintro⟨i,hi,h⟩
     exact⟨i,hi,by rw[<- hb];exact (hk i n (by omega) (by omega)).1 (by rw[h,ha])⟩
    ·rintro⟨i,hi,h⟩
     exact⟨i,hi,by rw[<- ha];exact (hk i n (by omega) (by omega)).2 (by rw[h,hb])⟩
   rw[Xl6 ha,Xl6 hb,X0w,X0w]
   by_cases hma:a∈ddp (l.take n)
   ·rw[if_pos hma,if_pos (hm.1 hma)]
    refine⟨h1,fun i a' b' hi ha' hb'=>?_⟩
    by_cases hin:i < n
    ·exact h2 i a' b' hin ha' hb'
    ·obtain rfl:i=n:=by omega
     rw[ha] at ha';rw[hb] at hb';cases ha';cases hb'
     rw[Xd7,Xid] at hma
     obtain⟨j,hj,hja⟩:=hma
     obtain⟨c,hc⟩:=Xaf (l:=m) (i:=j) (by omega)
     have:=h2 j a c hj hja hc
     rw[this]
     have:m[j]?=m[i]?:=(hk j i (by omega) (by omega)).1 (by rw[hja,ha])
     rw[hc,hb] at this
     cases this;rfl
   ·rw[if_neg hma,if_neg (fun h=>hma (hm.2 h))]
    refine⟨by simp[h1],fun i a' b' hi ha' hb'=>?_⟩
    rw[List.idxOf_append,List.idxOf_append]
    by_cases hin:i < n
    ·rw[if_pos (Xd7.2 (Xid.2 ⟨i,hin,ha'⟩)),if_pos (Xd7.2 (Xid.2 ⟨i,hin,hb'⟩))]
     exact h2 i a' b' hin ha' hb'
    ·obtain rfl:i=n:=by omega
     rw[ha] at ha';rw[hb] at hb';cases ha';cases hb'
     rw[if_neg hma,if_neg (fun h=>hma (hm.2 h)),h1]
     simp
 apply List.ext_getElem?
 intro i
 by_cases hi:i < l.length
 ·obtain⟨a,ha⟩:=Xaf hi
  obtain⟨b,hb⟩:=Xaf (l:=m) (i:=i) (by omega)
  rw[X0x ha,X0x hb]
  have:=(key l.length (Nat.le_refl _)).2 i a b hi ha hb
  rw[List.take_length,hl,List.take_length] at this
  rw[this]
 ·rw[List.getElem?_eq_none (by rw[Ykh];omega),List.getElem?_eq_none (by rw[Ykh];omega)]
theorem Yw1 {l:List α} {m:List β} (hl:l.length=m.length) (hf:∀ i j:Nat,i < l.length->j < l.length->l[i]?=l[j]?->m[i]?=m[j]?) (hc:(ddp l).length<=(ddp m).length) :
  ∀ i j:Nat,i < l.length->j < l.length->m[i]?=m[j]?->l[i]?=l[j]?:=by
 intro i j hi hj hm
 obtain⟨a,ha⟩:=Xaf hi
 obtain⟨b,hb⟩:=Xaf hj
 rw[ha,hb]
 obtain⟨y,hy⟩:=Xaf (l:=m) (i:=i) (by omega)
 -- each name's first place;names there
 have hrep:∀ z∈ddp m,∃ x:α,∃ k:Nat,l[k]?=some x/\m[k]?=some z:=fun z hz=>by
  obtain⟨k,hk⟩:=List.mem_iff_getElem?.1 (Xd7.1 hz)
  obtain⟨x,hx⟩:=Xaf (l:=l) (i:=k) (by rw[hl];exact (Kr.1 hk).1)
  exact⟨x,k,hx,hk⟩
 have hd:∃ f:β->α,∀ z∈ddp m,∃ k:Nat,l[k]?=some (f z)/\m[k]?=some z:=by
  classical
  refine⟨fun z=>if h:z∈ddp m then Classical.choose (hrep z h) else a,fun z hz=>?_⟩
  simp only[dif_pos hz]
  exact Classical.choose_spec (hrep z hz)
 obtain⟨f,hfz⟩:=hd
 have hinj:∀ z∈ddp m,∀ z'∈ddp m,f z=f z'->z=z':=fun z hz z' hz' e=>by
  obtain⟨k,h1,h2⟩:=hfz z hz
  obtain⟨k',h3,h4⟩:=hfz z' hz'
  have:=hf k k' (Kr.1 h1).1 (Kr.1 h3).1 (by rw[h1,h3,e])
  rw[h2,h4] at this
  exact Option.some.inj this
 have hnd:((ddp m).map f).Nodup:=by
  rw[List.Nodup,List.pairwise_map]
  have:=Xro m
  rw[List.Nodup] at this
  exact List.Pairwise.imp_of_mem (fun {x y} hx hy hne e=>hne (hinj x hx y hy e)) this
 have hsub:(ddp m).map f ⊆ ddp l:=fun x hx=>by
  obtain⟨z,hz,rfl⟩:=List.mem_map.1 hx
  obtain⟨k,h1,_⟩:=hfz z hz
  exact Xd7.2 (List.mem_of_getElem? h1)
 -- all names are there
 have hall:∀ x∈ddp l,x∈(ddp m).map f:=fun x hx=>by
  by_cases hxm:x∈(ddp m).map f
  ·exact hxm
  ·exfalso
   have h1:(x::(ddp m).map f).Nodup:=List.nodup_cons.2 ⟨hxm,hnd⟩
   have h2:=h1.length_le_of_subset (l₂:=ddp l) (fun y hy=>by
    rcases List.mem_cons.1 hy with rfl|hy
    ·exact hx
    ·exact hsub hy)
   simp at h2
   omega
 have get:∀ (k:Nat) (x:α),l[k]?=some x->m[k]?=some y->x=f y:=fun k x hx hk=>by
  obtain⟨z,hz,hzx⟩:=List.mem_map.1 (hall x (Xd7.2 (List.mem_of_getElem? hx)))
  obtain⟨k',h1,h2⟩:=hfz z hz
  have:=hf k k' (Kr.1 hx).1 (Kr.1 h1).1 (by rw[hx,h1,hzx])
  rw[hk,h2] at this
  rw[<- hzx,Option.some.inj this]
 rw[get i a ha hy,get j b hb (by rw[<- hm];exact hy)]
end
section
variable {σ:Type} [DecidableEq σ] (f:List Int->List σ)
def rnd (c:List Int):List Int:=rkp (f c)
def cnt (c:List Int):Nat:=(ddp (f c)).length
def Xts:Nat->Nat->Nat->List Int->List Int
 | 0,_,_,c=>c
 | k+1,n,m,c=>if n < m then Xts k m (cnt f c) (rnd f c) else c
variable {f} {n:Nat}
def Yw2 (n:Nat) (c d:List Int):Prop:=∀ i j:Nat,i < n->j < n->c[i]?=c[j]?->d[i]?=d[j]?
structure Parts (f:List Int->List σ) (n:Nat):Prop where
 len:∀ c,(f c).length=n
 mono:∀ c d,Yw2 n c d->∀ i j:Nat,i < n->j < n->(f c)[i]?=(f c)[j]?->(f d)[i]?=(f d)[j]?
theorem Parts.ker (h:Parts f n) (c:List Int) {i j:Nat} (hi:i < n) (hj:j < n):(rnd f c)[i]?=(rnd f c)[j]?↔(f c)[i]?=(f c)[j]?:=by
 obtain⟨a,ha⟩:=Xaf (l:=f c) (i:=i) (by rw[h.len];exact hi)
 obtain⟨b,hb⟩:=Xaf (l:=f c) (i:=j) (by rw[h.len];exact hj)
 unfold rnd
 rw[Jbr ha hb,ha,hb]
 exact⟨fun e=>by rw[e],fun e=>Option.some.inj e⟩
theorem Parts.up (h:Parts f n) {c d:List Int} (hk:Yw2 n c d):Yw2 n (rnd f c) (rnd f d):=fun i j hi hj e=>(h.ker d hi hj).2 (h.mono c d hk i j hi hj ((h.ker c hi hj).1 e))
theorem Parts.cnt_le (h:Parts f n) (c:List Int):cnt f c<=n:=by have:=Wtp (f c);rw[h.len] at this;exact this
theorem Parts.same (h:Parts f n) {c:List Int} (hk:Yw2 n (rnd f (rnd f c)) (rnd f c)) (hc:cnt f (rnd f c)<=cnt f c):rnd f (rnd f c)=rnd f c:=by
 have hf:∀ i j:Nat,i < n->j < n->(f (rnd f c))[i]?=(f (rnd f c))[j]?->(f c)[i]?=(f c)[j]?:=fun i j hi hj e=>(h.ker c hi hj).1 (hk i j hi hj ((h.ker _ hi hj).2 e))
 have hl:(f (rnd f c)).length=(f c).length:=by rw[h.len,h.len]
 have hs:=Yw1 hl (fun i j hi hj=>by rw[h.len] at hi hj;exact hf i j hi hj) hc
 exact Wtq hl fun i j hi hj=>⟨by rw[h.len] at hi hj;exact hf i j hi hj,hs i j hi hj⟩
theorem Parts.fuel (h:Parts f n):∀ (k k' nn m:Nat) (c:List Int),m<=n->n+1<=k+nn->n+1<=k'+nn->Xts f k nn m c=Xts f k' nn m c
 | 0,0,_,_,_,_,_,_=>rfl
 | 0,k'+1,nn,m,c,h1,h2,h3=>by simp only[Xts];rw[if_neg (by omega)]
 | k+1,0,nn,m,c,h1,h2,h3=>by simp only[Xts];rw[if_neg (by omega)]
 | k+1,k'+1,nn,m,c,h1,h2,h3=>by
  simp only[Xts]
  split
  ·exact Parts.fuel h k k' m _ _ (h.cnt_le c) (by omega) (by omega)
  ·rfl
end
def Jkc (l:List UInt8):Nat:=l.foldl (fun a b=>a*10+(b.toNat - 48)) 0
def Jht (l:List Int):List UInt8:=l.flatMap fun n=>Lib.itoa n++[44]
def okR (r:Int):Prop:=0<=r/\r<=1114111/\¬ (55296<=r/\r<=57343)
def Xeb (l:List Int):List UInt8:=l.flatMap Lib.encodeRune
def sgF (s:ByteArray):Nat->Nat->List Int
 | 0,_=>[]
 | f+1,p=>if p < s.size then ((Utf8.decode s p).1:Int)::sgF s f (p+(Utf8.decode s p).2) else []
def sgS (s:ByteArray):List Int:=sgF s s.size 0
theorem Jbs {s:ByteArray} {f p:Nat} (h:¬ p < s.size):sgF s f p=[]:=by
 cases f with
 | zero=>rfl
 | succ f=>simp only[sgF,if_neg h]
theorem Xjp {s:ByteArray} {p:Nat} (h:p < s.size):s.data.toList.drop p≠[]:=by
 intro e
 have:=congrArg List.length e
 simp at this
 have:s.data.size=s.size:=rfl
 omega
theorem Jbt {s:ByteArray} {p:Nat} (hp:p < s.size) (hv:¬ ((Utf8.decode s p).1=65533/\(Utf8.decode s p).2=1)):okR ((Utf8.decode s p).1:Int):=by
 have h0:=Lib.decodeL_drop s p
 have hne:=Xjp hp
 have h1:=Lib.decodeL_N (s.data.toList.drop p)
 have hl:1<=(s.data.toList.drop p).length:=List.length_pos_iff.2 hne
 have h2:=Xtl hl ((s.data.toList.drop p).getD 0 0).toNat_lt ((s.data.toList.drop p).getD 1 0).toNat_lt ((s.data.toList.drop p).getD 2 0).toNat_lt ((s.data.toList.drop p).getD 3 0).toNat_lt
 rw[<- h1,h0,if_neg hv] at h2
 have hw:=Lib.decode_width_pos s p hp
 unfold Ynu at h2
 split at h2
 ·rw[<- h2] at hw;simp at hw
 ·split at h2
  ·rename_i hs
   rw[Bool.and_eq_true] at hs
   have:=of_decide_eq_true hs.1
   rw[<- h2]
   unfold okR
   dsimp only
   omega
  ·rw[<- h2] at hw;simp at hw
theorem Y7c {s:ByteArray}:∀ {f p:Nat},Xbh s f p=true->∀ r∈sgF s f p,okR r
 | 0,_,_,r,hr=>by cases hr
 | f+1,p,h,r,hr=>by
  simp only[Xbh,sgF] at h hr
  split at hr
  ·rename_i hp
   rw[if_pos hp] at h
   split at h
   ·cases h
   ·rename_i hv
    rcases List.mem_cons.1 hr with rfl|hr
    ·exact Jbt hp hv
    ·exact Y7c h r hr
  ·cases hr
def Xpu (n:Int):Int:=if n < 10 then 48+n else 87+n
def pcR (r:Int):List Int :=
 if r=10 then [92,110] else if r=9 then [92,116] else if r=13 then [92,114]
 else if r=34\/r=92 then [92,r] else if 32<=r/\r≠127 then [r] else [92,120,Xpu (r / 16),Xpu (r % 16)]
theorem Jhu {r:Int} (h:okR r):∀ x∈pcR r,okR x:=by
 unfold okR at h
 have k:∀ x:Int,0<=x->x<=127->okR x:=fun x h1 h2=>by unfold okR;omega
 unfold pcR
 intro x hx
 split at hx
 ·simp only[List.mem_cons,List.not_mem_nil,or_false] at hx;exact k x (by omega) (by omega)
 ·split at hx
  ·simp only[List.mem_cons,List.not_mem_nil,or_false] at hx;exact k x (by omega) (by omega)
  ·split at hx
   ·simp only[List.mem_cons,List.not_mem_nil,or_false] at hx;exact k x (by omega) (by omega)
   ·split at hx
    ·simp only[List.mem_cons,List.not_mem_nil,or_false] at hx;exact k x (by omega) (by omega)
    ·split at hx
     ·simp only[List.mem_singleton] at hx;subst hx;exact h
     ·simp only[List.mem_cons,List.not_mem_nil,or_false] at hx
      unfold Xpu at hx
      refine k x ?_ ?_
      ·split at hx <;> split at hx <;> omega
      ·split at hx <;> split at hx <;> omega
def X2p (s:ByteArray):List UInt8:=34::(Xeb ((sgS s).flatMap pcR)++[34])
def X2q (b:Bool):List UInt8:=if b then [116,114,117,101] else [102,97,108,115,101]
def scB (x:Sc):List UInt8 :=
 if x.k=0 then [110,117,108,108] else if x.k=1 then X2q (decide (x.n=1)) else if x.k=2 then Lib.itoa x.n else X2p x.s
theorem Xpg {R:ByteArray->Bool} {x:Sc} (h:prR R x=true):(x.k=0/\x=⟨0,0,⟨#[]⟩⟩)\/(x.k=1/\x.s=⟨#[]⟩/\(x.n=0\/x.n=1))\/(x.k=2/\x.s=⟨#[]⟩/\-Xfw<=x.n/\x.n<=Xfw)\/(x.k=3/\x.n=0/\R x.s=true):=by
 unfold prR at h
 split at h
 ·exact .inl ⟨‹_›,of_decide_eq_true h⟩
 ·split at h
  ·simp only[Bool.and_eq_true,Bool.or_eq_true,decide_eq_true_eq] at h
   exact .inr (.inl ⟨‹_›,h⟩)
  ·split at h
   ·simp only[Bool.and_eq_true,decide_eq_true_eq] at h
    exact .inr (.inr (.inl ⟨‹_›,h⟩))
   ·split at h
    ·simp only[Bool.and_eq_true,decide_eq_true_eq] at h
     exact .inr (.inr (.inr ⟨‹_›,h⟩))
    ·cases h
def Jhv (l:List Sc):List UInt8:=l.flatMap fun x=>scB x++[44]
structure Fine (l:List Nd):Prop where
 node:∀ x∈l,Xa6 Xas x l.length=true
 small:∀ x∈l,x.keys.length<=12/\x.kids.length<=12
theorem Good.fine {g:Gr} (h:Good g):Fine g.l:=⟨(Xjo h.c).2.2,h.s⟩
abbrev kdL (l:List Nd) (i:Int):List Int:=Xan (Xbr l i)
def inL (l:List Nd) (i:Int):Prop:=0<=i/\i < l.length
instance (l:List Nd) (i:Int):Decidable (inL l i):=inferInstanceAs (Decidable (_/\_))
theorem Jbu {l:List Nd} {i:Int} (h:inL l i):l[i.toNat]?=some (Xbr l i):=by
 unfold inL at h
 unfold Xbr
 rw[if_pos h]
 have:i.toNat < l.length:=by omega
 rw[List.getElem?_eq_getElem this];rfl
theorem Fine.at {l:List Nd} (h:Fine l) {i:Int} (hi:inL l i):KidsOK (Xbr l i) l.length:=Xo4 (h.node _ (Xo3 hi))
theorem Fine.kid {l:List Nd} (h:Fine l) (i:Int):∀ j∈kdL l i,inL l j:=by
 by_cases hi:inL l i
 ·exact (h.at hi).inn
 ·intro j hj
  rw[kdL,Xfp hi] at hj
  simp[Xan,Xae,Nd.zero] at hj
theorem Fine.klen {l:List Nd} (h:Fine l) (i:Int):(kdL l i).length=(Xbr l i).kids.length:=by
 by_cases hi:inL l i
 ·exact (h.at hi).len
 ·rw[kdL,Xfp hi];rfl
structure Bis (l m:List Nd) (R:Int->Int->Prop):Prop where
 inn:∀ a b,R a b->inL l a/\inL m b
 fit:∀ a b,R a b->X3e (Xbr l a) (Xbr m b)=true
 kid:∀ a b,R a b->∀ (i:Nat) (p q:Int),(kdL l a)[i]?=some p->(kdL m b)[i]?=some q->R p q
def Sim (l m:List Nd) (a b:Int):Prop:=∃ R,Bis l m R/\R a b
section
variable {l m n:List Nd} {a b c:Int}
theorem Xtt:Bis l m (Sim l m):=⟨fun _ _ ⟨_,h,r⟩=>h.inn _ _ r,fun _ _ ⟨_,h,r⟩=>h.fit _ _ r,fun _ _ ⟨R,h,r⟩ i p q hp hq=>⟨R,h,h.kid _ _ r i p q hp hq⟩⟩
theorem Sim.inn (h:Sim l m a b):inL l a/\inL m b:=Xtt.inn _ _ h
theorem Sim.fit (h:Sim l m a b):X3e (Xbr l a) (Xbr m b)=true:=Xtt.fit _ _ h
theorem Sim.kid (h:Sim l m a b) {i:Nat} {p q:Int} (hp:(kdL l a)[i]?=some p) (hq:(kdL m b)[i]?=some q):Sim l m p q:=Xtt.kid _ _ h i p q hp hq
theorem Sim.klen (hl:Fine l) (hm:Fine m) (h:Sim l m a b):(kdL l a).length=(kdL m b).length:=by
 rw[hl.klen,hm.klen];exact (Xcs.1 h.fit).2.2.2
theorem Ykj {x y:Nd} (h:X3e x y=true):X3e y x=true:=by
 obtain⟨h1,h2,h3,h4⟩:=Xcs.1 h
 exact Xcs.2 ⟨h1.symm,h2.symm,h3.symm,h4.symm⟩
theorem Xno {x y z:Nd} (h:X3e x y=true) (k:X3e y z=true):X3e x z=true:=by
 obtain⟨h1,h2,h3,h4⟩:=Xcs.1 h
 obtain⟨k1,k2,k3,k4⟩:=Xcs.1 k
 exact Xcs.2 ⟨h1.trans k1,h2.trans k2,h3.trans k3,h4.trans k4⟩
theorem Ykk (x:Nd):X3e x x=true:=Xcs.2 ⟨rfl,rfl,rfl,rfl⟩
theorem Yw3 (hl:Fine l) (ha:inL l a):Sim l l a a :=
 ⟨fun x y=>x=y/\inL l x,⟨fun _ _ ⟨e,h⟩=>⟨h,e ▸ h⟩,fun _ _ ⟨e,_⟩=>by subst e;exact Ykk _,fun x y ⟨e,_⟩ i p q hp hq=>by
  subst e;rw[hp] at hq;cases hq;exact⟨rfl,hl.kid _ _ (List.mem_of_getElem? hp)⟩⟩,rfl,ha⟩
theorem Sim.symm (h:Sim l m a b):Sim m l b a:=by
 obtain⟨R,hR,r⟩:=h
 exact⟨fun x y=>R y x,⟨fun _ _ r=>(hR.inn _ _ r).symm,fun _ _ r=>Ykj (hR.fit _ _ r),fun _ _ r i p q hp hq=>hR.kid _ _ r i q p hq hp⟩,r⟩
theorem Sim.trans (hl:Fine l) (hm:Fine m) (h:Sim l m a b) (k:Sim m n b c):Sim l n a c:=by
 refine⟨fun x z=>∃ y,Sim l m x y/\Sim m n y z,⟨fun x z ⟨y,h1,h2⟩=>⟨h1.inn.1,h2.inn.2⟩,fun x z ⟨y,h1,h2⟩=>Xno h1.fit h2.fit,fun x z ⟨y,h1,h2⟩ i p q hp hq=>?_⟩,b,h,k⟩
 obtain⟨w,hw⟩:=Xaf (l:=kdL m y) (i:=i) (by rw[<- h1.klen hl hm];exact (Kr.1 hp).1)
 exact⟨w,h1.kid hp hw,h2.kid hw hq⟩
end
structure Say where
 k:Int
 x:Sc
 keys:List Sc
 kids:List (Option Int)
 deriving DecidableEq
def Jbv (x:Nd) (c:List Int):Say:=⟨x.k,x.x,Xaq x,(Xan x).map fun j=>c[j.toNat]?⟩
def Y7d (l:List Nd) (c:List Int):List Say:=l.map fun x=>Jbv x c
abbrev Wtr (n:Nat):List Int:=List.replicate n 0
def Ww4 (l:List Nd):List Int:=Xts (Y7d l) (l.length+1) 0 (cnt (Y7d l) (Wtr l.length)) (rnd (Y7d l) (Wtr l.length))
theorem Xnp {α β γ:Type} {f:α->γ} {g:β->γ}:∀ {A:List α} {B:List β},A.map f=B.map g↔A.length=B.length/\∀ (i:Nat) (p:α) (q:β),A[i]?=some p->B[i]?=some q->f p=g q
 | [],[]=>by simp
 | [],_::_=>by simp
 | _::_,[]=>by simp
 | a::A,b::B=>by
  simp only[List.map_cons,List.cons.injEq,List.length_cons,Nat.add_right_cancel_iff]
  rw[Xnp]
  constructor
  ·rintro⟨h,hl,hh⟩
   refine⟨hl,fun i p q hp hq=>?_⟩
   cases i with
   | zero=>simp at hp hq;subst hp;subst hq;exact h
   | succ i=>exact hh i p q (by simpa using hp) (by simpa using hq)
  ·rintro⟨hl,hh⟩
   exact⟨hh 0 a b rfl rfl,hl,fun i p q hp hq=>hh (i+1) p q (by simpa using hp) (by simpa using hq)⟩
theorem Ykl {x y:Nd} {c:List Int}:Jbv x c=Jbv y c↔x.k=y.k/\x.x=y.x/\Xaq x=Xaq y/\(Xan x).length=(Xan y).length/\∀ (i:Nat) (p q:Int),(Xan x)[i]?=some p->(Xan y)[i]?=some q->c[p.toNat]?=c[q.toNat]?:=by
 unfold Jbv
 rw[Say.mk.injEq,Xnp]
section
variable {l:List Nd}
theorem Xph {c:List Int} {i:Int} (h:inL l i):(Y7d l c)[i.toNat]?=some (Jbv (Xbr l i) c):=by unfold Y7d;rw[List.getElem?_map,Jbu h];rfl
theorem Yw4 (c:List Int):(Y7d l c).length=l.length:=by simp[Y7d]
theorem Xpi {i:Nat} (h:i < l.length):inL l i:=⟨by omega,by omega⟩
theorem Fine.parts (h:Fine l):Parts (Y7d l) l.length where
 len c:=Yw4 c
 mono c d hk i j hi hj e:=by
  have h1:=Xph (c:=c) (Xpi hi)
  have h2:=Xph (c:=c) (Xpi hj)
  have h3:=Xph (c:=d) (Xpi hi)
  have h4:=Xph (c:=d) (Xpi hj)
  rw[Int.toNat_natCast] at h1 h2 h3 h4
  rw[h1,h2] at e
  rw[h3,h4]
  obtain⟨e1,e2,e3,e4,e5⟩:=Ykl.1 (Option.some.inj e)
  rw[Ykl.2 ⟨e1,e2,e3,e4,fun n p q hp hq=>?_⟩]
  have hp':=h.kid _ _ (List.mem_of_getElem? hp)
  have hq':=h.kid _ _ (List.mem_of_getElem? hq)
  unfold inL at hp' hq'
  exact hk _ _ (by omega) (by omega) (e5 n p q hp hq)
end
def X0y (n:Int) (x:Nd):Nd:=⟨x.k,x.x,x.keys,x.kids.map fun i=>i+n⟩
def Ykm (l m:List Nd):List Nd:=l++m.map (X0y l.length)
theorem Xgz {l:List Int} {n:Int}:Xcq l n=true↔∀ i∈l,0<=i/\i < n:=by simp[Xcq]
theorem X2r {R:ByteArray->Bool} {x:Nd} {n n':Int} (h:Xa6 R x n=true) (hn:n<=n'):Xa6 R x n'=true:=by
 have hk:Xcq x.kids n=true->Xcq x.kids n'=true:=fun h=>Xgz.2 fun i hi=>by have:=Xgz.1 h i hi;omega
 unfold Xa6 Yfk Ynt at *
 split
 ·rwa [if_pos ‹_›] at h
 ·rw[if_neg ‹_›] at h
  split
  ·rw[if_pos ‹_›] at h
   simp only[Bool.and_eq_true] at h ⊢
   exact⟨h.1,h.2.1,hk h.2.2⟩
  ·rw[if_neg ‹_›] at h
   split
   ·rw[if_pos ‹_›] at h
    simp only[Bool.and_eq_true] at h ⊢
    exact⟨h.1,h.2.1,h.2.2.1,hk h.2.2.2⟩
   ·rwa [if_neg ‹_›] at h
theorem Xtu {R:ByteArray->Bool} {x:Nd} {n d:Int} (h:Xa6 R x n=true) (hd:0<=d):Xa6 R (X0y d x) (n+d)=true:=by
 have hk:Xcq x.kids n=true->Xcq (x.kids.map fun i=>i+d) (n+d)=true:=fun h=>Xgz.2 fun i hi=>by
  obtain⟨j,hj,rfl⟩:=List.mem_map.1 hi
  have:=Xgz.1 h j hj;omega
 unfold Xa6 Yfk Ynt Yns at *
 unfold X0y
 simp only[List.length_map,List.map_eq_nil_iff]
 split
 ·rwa [if_pos ‹_›] at h
 ·rw[if_neg ‹_›] at h
  split
  ·rw[if_pos ‹_›] at h
   simp only[Bool.and_eq_true] at h ⊢
   exact⟨h.1,h.2.1,hk h.2.2⟩
  ·rw[if_neg ‹_›] at h
   split
   ·rw[if_pos ‹_›] at h
    simp only[Bool.and_eq_true] at h ⊢
    exact⟨h.1,h.2.1,h.2.2.1,hk h.2.2.2⟩
   ·rwa [if_neg ‹_›] at h
section
variable {l m:List Nd} {a b:Int}
theorem Yw5:(Ykm l m).length=l.length+m.length:=by simp[Ykm]
theorem Fine.join (hl:Fine l) (hm:Fine m):Fine (Ykm l m) where
 node x hx:=by
  rw[Yw5]
  rcases List.mem_append.1 hx with hx|hx
  ·exact X2r (hl.node x hx) (by omega)
  ·obtain⟨y,hy,rfl⟩:=List.mem_map.1 hx
   have:=Xtu (hm.node y hy) (d:=l.length) (by omega)
   rwa [show ((l.length+m.length:Nat):Int)=(m.length:Int)+(l.length:Int) from by omega]
 small x hx:=by
  rcases List.mem_append.1 hx with hx|hx
  ·exact hl.small x hx
  ·obtain⟨y,hy,rfl⟩:=List.mem_map.1 hx
   have:=hm.small y hy
   unfold X0y
   simpa using this
end
def Jkd (g h:Gr):Bool:=decide ((Ww4 (Ykm g.l h.l))[g.root.toNat]?=(Ww4 (Ykm g.l h.l))[(h.root+g.l.length).toNat]?)
theorem Good.in {g:Gr} (h:Good g):inL g.l g.root:=h.root
theorem Iso.sim {g h:Gr} (hg:Good g) (hh:Good h) {R:Int->Int->Prop} (H:Iso g h R) {a b:Int} (r:R a b) (ha:inL g.l a) (hb:inL h.l b):Sim g.l h.l a b :=
 ⟨fun a b=>R a b/\inL g.l a/\inL h.l b,⟨fun _ _ r=>r.2,fun a b r=>H.fit a b r.1,fun a b r i p q hp hq=>⟨H.kid a b r.1 (p,q) (Wtn hp hq),hg.fine.kid _ _ (List.mem_of_getElem? hp),hh.fine.kid _ _ (List.mem_of_getElem? hq)⟩⟩,r,ha,hb⟩
structure Near (l m:List Nd) (fr to:Int):Prop where
 len:m.length=l.length
 fit:∀ a,X3e (Xbr l a) (Xbr m a)=true
 kid:∀ a (i:Nat) p q,(kdL l a)[i]?=some p->(kdL m a)[i]?=some q->q=p\/(p=fr/\q=to)
theorem Near.sim {l m:List Nd} {fr to:Int} (hl:Fine l) (hm:Fine m) (h:Near l m fr to) (hs:Sim l l fr to) {a:Int} (ha:inL l a):Sim l m a a:=by
 refine⟨Sim l l,⟨fun a b r=>⟨r.inn.1,by have:=r.inn.2;unfold inL at *;rw[h.len];exact this⟩,fun a b r=>Xno r.fit (h.fit b),fun a b r i p q hp hq=>?_⟩,Yw3 hl ha⟩
 obtain⟨y,hy⟩:=Xaf (l:=kdL l b) (i:=i) (by rw[<- r.klen hl hl];exact (Kr.1 hp).1)
 have hpy:=r.kid hp hy
 rcases h.kid b i y q hy hq with rfl|⟨rfl,rfl⟩
 ·exact hpy
 ·exact hpy.trans hl hl hs
def Jjr (x:Nd) (k:Nat) (to:Int):Nd:=⟨x.k,x.x,x.keys,x.kids.set k to⟩
def Jjs:List Int->Nat->Prop
 | [],_=>True
 | c::r,k=>0<=c/\c<=k/\Jjs r (if c < k then k else k+1)
def Jjt:List Int->Nat->Nat
 | [],k=>k
 | c::r,k=>Jjt r (if c < k then k else k+1)
def Jju (f:Int->Int) (x:Nd):Nd:=⟨x.k,x.x,Xaq x,(Xan x).map f⟩
def Jhw:List Int->Nat->Nat->List Int
 | [],_,_=>[]
 | c::r,k,i=>if c < k then Jhw r k (i+1) else (i:Int)::Jhw r (k+1) (i+1)
noncomputable def Jjv (l:List Nd):List Int:=Jhw (Ww4 l) 0 0
noncomputable def Jeh (l:List Nd) (i:Int):Int:=(Ww4 l)[i.toNat]?.getD 0
noncomputable def Xrp (g:Gr):Gr:=⟨Jeh g.l g.root,(Jjv g.l).map fun i=>Jju (Jeh g.l) (Xbr g.l i)⟩
section
variable {l:List Nd} {g h:Gr}
def Jke (l:List Nd):Prop:=∀ a b,Sim l l a b->a=b
noncomputable def Jjw (g:Gr):Gr:=Xa0 (Xrp g)
noncomputable def Jkf (g:Gr) (i:Int):Int:=if Jeh g.l i∈Xbe (Xrp g) then (Xbe (Xrp g)).idxOf (Jeh g.l i) else -1
noncomputable def Jkg (g:Gr):List Int:=(Ww4 g.l).map fun c=>if c∈Xbe (Xrp g) then ((Xbe (Xrp g)).idxOf c:Int) else -1
end
end Go.Fw.L07
