/- Chapter 10,plain: numbers in the order of first appearance; classes that are parted as long as there are more. -/
import Derived.Test.YtejnfjophhnaeaaGreatDoorLa
import Derived.Test.YtejnfjophhnaeaaGreatDoorVa
import Derived.Test.YtejnfjophhnaeaaGreatDoorLb
import Derived.Lib.MapLaws
import Derived.Lib.ItoaLen
import Derived.Test.YtejnfjophhnaeaaGreatDoorIa
set_option linter.all false
namespace Go.Fw.L07
open Go Go.Fw
open List renaming getElem?_eq_some_iff->Kr
set_option maxRecDepth 4000
section
variable {α β:Type} [DecidableEq α] [DecidableEq β]
def ddF:List α->List α->List α
 | d,[]=>d
 | d,a::l=>ddF (if a∈d then d else d++[a]) l
def ddp (l:List α):List α:=ddF [] l
theorem Xtx:∀ (l m:List α) (d:List α),ddF d (l++m)=ddF (ddF d l) m
 | [],_,_=>rfl
 | a::l,m,d=>by simp only[List.cons_append,ddF,Xtx l m]
theorem Xp0 (l:List α) (a:α):ddp (l++[a])=if a∈ddp l then ddp l else ddp l++[a]:=by
 unfold ddp;rw[Xtx];rfl
theorem Yfk:∀ (l d:List α) (x:α),x∈ddF d l↔x∈d\/x∈l
 | [],d,x=>by simp[ddF]
 | a::l,d,x=>by
  simp only[ddF,Yfk l,List.mem_cons]
  split
  ·rename_i h
   constructor
   ·rintro (h1|h1)
    ·exact .inl h1
    ·exact .inr (.inr h1)
   ·rintro (h1|rfl|h1)
    ·exact .inl h1
    ·exact .inl h
    ·exact .inr h1
  ·simp only[List.mem_append,List.mem_singleton,or_assoc]
theorem Xbw {l:List α} {x:α}:x∈ddp l↔x∈l:=by unfold ddp;rw[Yfk];simp
theorem Xr1:∀ (l d:List α),d.Nodup->(ddF d l).Nodup
 | [],_,h=>h
 | a::l,d,h=>by
  simp only[ddF]
  refine Xr1 l _ ?_
  split
  ·exact h
  ·rename_i ha
   rw[List.nodup_append]
   exact⟨h,by simp,fun x hx y hy e=>by simp at hy;subst hy;subst e;exact ha hx⟩
theorem Xm6 (l:List α):(ddp l).Nodup:=Xr1 l [] (by simp)
theorem Yfl:∀ (l d:List α),∃ e,ddF d l=d++e
 | [],d=>⟨[],by simp[ddF]⟩
 | a::l,d=>by
  simp only[ddF]
  obtain⟨e,he⟩:=Yfl l (if a∈d then d else d++[a])
  rw[he]
  split
  ·exact⟨e,rfl⟩
  ·exact⟨a::e,by simp⟩
theorem Wh9 (l m:List α):∃ e,ddp (l++m)=ddp l++e:=by unfold ddp;rw[Xtx];exact Yfl m _
theorem Yfm (l:List α):(ddp l).length<=l.length:=(Xm6 l).length_le_of_subset fun x hx=>Xbw.1 hx
def rkp (l:List α):List Int:=l.map fun a=>((ddp l).idxOf a:Int)
theorem Xj8 (l:List α):(rkp l).length=l.length:=by simp[rkp]
theorem Yfn {d:List α} {a b:α} (ha:a∈d) (hb:b∈d) (h:d.idxOf a=d.idxOf b):a=b:=by
 have h1:=List.getElem_idxOf (List.idxOf_lt_length_iff.2 ha)
 have h2:=List.getElem_idxOf (List.idxOf_lt_length_iff.2 hb)
 rw[<- h1,<- h2]
 congr 1
theorem Xkv {l:List α} {i:Nat} {a:α} (h:l[i]?=some a):(rkp l)[i]?=some ((ddp l).idxOf a:Int):=by unfold rkp;rw[List.getElem?_map,h];rfl
theorem Wyc {l:List α} {i j:Nat} {a b:α} (ha:l[i]?=some a) (hb:l[j]?=some b):(rkp l)[i]?=(rkp l)[j]?↔a=b:=by
 rw[Xkv ha,Xkv hb]
 constructor
 ·intro h
  have h:=Option.some.inj h
  exact Yfn (Xbw.2 (List.mem_of_getElem? ha)) (Xbw.2 (List.mem_of_getElem? hb)) (by omega)
 ·rintro rfl;rfl
theorem Xzf {l:List α} {i n:Nat} {a:α} (h:l[i]?=some a) (hn:i < n):(ddp (l.take n)).idxOf a=(ddp l).idxOf a:=by
 obtain⟨e,he⟩:=Wh9 (l.take n) (l.drop n)
 rw[List.take_append_drop] at he
 rw[he,List.idxOf_append,if_pos]
 rw[Xbw]
 exact List.mem_of_getElem? (i:=i) (by rw[List.getElem?_take,if_pos hn];exact h)
theorem Xh4 {l:List α} {n:Nat} {a:α} (h:l[n]?=some a):l.take (n+1)=l.take n++[a]:=by rw[List.take_succ,h];rfl
theorem Xhf {l:List α} {n:Nat} {a:α}:a∈l.take n↔∃ i,i < n/\l[i]?=some a:=by
 rw[List.mem_iff_getElem?]
 constructor
 ·rintro⟨i,hi⟩
  rw[List.getElem?_take] at hi
  split at hi
  ·exact⟨i,‹_›,hi⟩
  ·cases hi
 ·rintro⟨i,hi,h⟩
  exact⟨i,by rw[List.getElem?_take,if_pos hi];exact h⟩
theorem Xzg {l:List α} {i:Nat} {a:α} (h:l[i]?=some a):if a∈l.take i then (ddp l).idxOf a < (ddp (l.take i)).length/\ddp (l.take (i+1))=ddp (l.take i) else (ddp l).idxOf a=(ddp (l.take i)).length/\ddp (l.take (i+1))=ddp (l.take i)++[a]:=by
 have h1:=Xzf h (Nat.lt_succ_self i)
 have h2:ddp (l.take (i+1))=if a∈ddp (l.take i) then ddp (l.take i) else ddp (l.take i)++[a]:=by rw[Xh4 h,Xp0]
 split
 ·rename_i hm
  rw[if_pos (Xbw.2 hm)] at h2
  exact⟨by rw[<- h1,h2];exact List.idxOf_lt_length_iff.2 (Xbw.2 hm),h2⟩
 ·rename_i hm
  rw[if_neg (fun hx=>hm (Xbw.1 hx))] at h2
  refine⟨?_,h2⟩
  rw[<- h1,h2,List.idxOf_append,if_neg (fun hx=>hm (Xbw.1 hx))]
  simp
theorem Xty {l:List α} {m:List β} (hl:l.length=m.length) (hk:∀ i j:Nat,i < l.length->j < l.length->(l[i]?=l[j]?↔m[i]?=m[j]?)):rkp l=rkp m:=by
 have key:∀ n,n<=l.length->(ddp (l.take n)).length=(ddp (m.take n)).length/\∀ (i:Nat) (a:α) (b:β),i < n->l[i]?=some a->m[i]?=some b->(ddp (l.take n)).idxOf a=(ddp (m.take n)).idxOf b:=by
  intro n
  induction n with
  | zero=>intro _;exact⟨by simp[ddp,ddF],fun i a b hi=>by omega⟩
  | succ n ih =>
   intro hn
   obtain⟨h1,h2⟩:=ih (by omega)
   obtain⟨a,ha⟩:=Xai (l:=l) (i:=n) (by omega)
   obtain⟨b,hb⟩:=Xai (l:=m) (i:=n) (by omega)
   have hm:a∈ddp (l.take n)↔b∈ddp (m.take n):=by
    rw[Xbw,Xbw,Xhf,Xhf]
    constructor
    ·rintro⟨i,hi,h⟩
     exact⟨i,hi,by rw[<- hb];exact (hk i n (by omega) (by omega)).1 (by rw[h,ha])⟩
    ·rintro⟨i,hi,h⟩
     exact⟨i,hi,by rw[<- ha];exact (hk i n (by omega) (by omega)).2 (by rw[h,hb])⟩
   rw[Xh4 ha,Xh4 hb,Xp0,Xp0]
   by_cases hma:a∈ddp (l.take n)
   ·rw[if_pos hma,if_pos (hm.1 hma)]
    refine⟨h1,fun i a' b' hi ha' hb'=>?_⟩
    by_cases hin:i < n
    ·exact h2 i a' b' hin ha' hb'
    ·obtain rfl:i=n:=by omega
     rw[ha] at ha';rw[hb] at hb';cases ha';cases hb'
     rw[Xbw,Xhf] at hma
     obtain⟨j,hj,hja⟩:=hma
     obtain⟨c,hc⟩:=Xai (l:=m) (i:=j) (by omega)
     have:=h2 j a c hj hja hc
     rw[this]
     have:m[j]?=m[i]?:=(hk j i (by omega) (by omega)).1 (by rw[hja,ha])
     rw[hc,hb] at this
     cases this;rfl
   ·rw[if_neg hma,if_neg (fun h=>hma (hm.2 h))]
    refine⟨by simp[h1],fun i a' b' hi ha' hb'=>?_⟩
    rw[List.idxOf_append,List.idxOf_append]
    by_cases hin:i < n
    ·rw[if_pos (Xbw.2 (Xhf.2 ⟨i,hin,ha'⟩)),if_pos (Xbw.2 (Xhf.2 ⟨i,hin,hb'⟩))]
     exact h2 i a' b' hin ha' hb'
    ·obtain rfl:i=n:=by omega
     rw[ha] at ha';rw[hb] at hb';cases ha';cases hb'
     rw[if_neg hma,if_neg (fun h=>hma (hm.2 h)),h1]
     simp
 apply List.ext_getElem?
 intro i
 by_cases hi:i < l.length
 ·obtain⟨a,ha⟩:=Xai hi
  obtain⟨b,hb⟩:=Xai (l:=m) (i:=i) (by omega)
  rw[Xkv ha,Xkv hb]
  have:=(key l.length (Nat.le_refl _)).2 i a b hi ha hb
  rw[List.take_length,hl,List.take_length] at this
  rw[this]
 ·rw[List.getElem?_eq_none (by rw[Xj8];omega),List.getElem?_eq_none (by rw[Xj8];omega)]
theorem Xzh {l:List α} {m:List β} (hl:l.length=m.length) (hf:∀ i j:Nat,i < l.length->j < l.length->l[i]?=l[j]?->m[i]?=m[j]?) (hc:(ddp l).length<=(ddp m).length) :
  ∀ i j:Nat,i < l.length->j < l.length->m[i]?=m[j]?->l[i]?=l[j]?:=by
 intro i j hi hj hm
 obtain⟨a,ha⟩:=Xai hi
 obtain⟨b,hb⟩:=Xai hj
 rw[ha,hb]
 obtain⟨y,hy⟩:=Xai (l:=m) (i:=i) (by omega)
 -- each name's first place;names there
 have hrep:∀ z∈ddp m,∃ x:α,∃ k:Nat,l[k]?=some x/\m[k]?=some z:=fun z hz=>by
  obtain⟨k,hk⟩:=List.mem_iff_getElem?.1 (Xbw.1 hz)
  obtain⟨x,hx⟩:=Xai (l:=l) (i:=k) (by rw[hl];exact (Kr.1 hk).1)
  exact⟨x,k,hx,hk⟩
 have hd:∃ f:β->α,∀ z∈ddp m,∃ k:Nat,l[k]?=some (f z)/\m[k]?=some z:=by
  classical
  refine⟨fun z=>if h:z∈ddp m then Classical.choose (hrep z h) else a,fun z hz=>?_⟩
  simp only[dif_pos hz]
  exact Classical.choose_spec (hrep z hz)
 obtain⟨f,hfz⟩:=hd
 have hinj:∀ z∈ddp m,∀ z'∈ddp m,f z=f z'->z=z':=fun z hz z' hz' e=>by
  obtain⟨k,h1,h2⟩:=hfz z hz
  obtain⟨k',h3,h4⟩:=hfz z' hz'
  have:=hf k k' (Kr.1 h1).1 (Kr.1 h3).1 (by rw[h1,h3,e])
  rw[h2,h4] at this
  exact Option.some.inj this
 have hnd:((ddp m).map f).Nodup:=by
  rw[List.Nodup,List.pairwise_map]
  have:=Xm6 m
  rw[List.Nodup] at this
  exact List.Pairwise.imp_of_mem (fun {x y} hx hy hne e=>hne (hinj x hx y hy e)) this
 have hsub:(ddp m).map f ⊆ ddp l:=fun x hx=>by
  obtain⟨z,hz,rfl⟩:=List.mem_map.1 hx
  obtain⟨k,h1,_⟩:=hfz z hz
  exact Xbw.2 (List.mem_of_getElem? h1)
 -- all names are there
 have hall:∀ x∈ddp l,x∈(ddp m).map f:=fun x hx=>by
  by_cases hxm:x∈(ddp m).map f
  ·exact hxm
  ·exfalso
   have h1:(x::(ddp m).map f).Nodup:=List.nodup_cons.2 ⟨hxm,hnd⟩
   have h2:=h1.length_le_of_subset (l₂:=ddp l) (fun y hy=>by
    rcases List.mem_cons.1 hy with rfl|hy
    ·exact hx
    ·exact hsub hy)
   simp at h2
   omega
 have get:∀ (k:Nat) (x:α),l[k]?=some x->m[k]?=some y->x=f y:=fun k x hx hk=>by
  obtain⟨z,hz,hzx⟩:=List.mem_map.1 (hall x (Xbw.2 (List.mem_of_getElem? hx)))
  obtain⟨k',h1,h2⟩:=hfz z hz
  have:=hf k k' (Kr.1 hx).1 (Kr.1 h1).1 (by rw[hx,h1,hzx])
  rw[hk,h2] at this
  rw[<- hzx,Option.some.inj this]
 rw[get i a ha hy,get j b hb (by rw[<- hm];exact hy)]
theorem Xzi {l:List α} {m:List β} (hl:l.length=m.length) (hf:∀ i j:Nat,i < l.length->j < l.length->l[i]?=l[j]?->m[i]?=m[j]?):(ddp m).length<=(ddp l).length:=by
 by_cases h:(ddp m).length<=(ddp l).length
 ·exact h
 ·have hk:=Xzh hl hf (by omega)
  have e:rkp l=rkp m:=Xty hl fun i j hi hj=>⟨hf i j hi hj,hk i j hi hj⟩
  have hsub:∀ z∈ddp m,∃ k:Nat,m[k]?=some z:=fun z hz=>List.mem_iff_getElem?.1 (Xbw.1 hz)
  -- the last name's number
  have hpos:0 < (ddp m).length:=by omega
  obtain⟨z,hz⟩:=Xai (l:=ddp m) (i:=(ddp m).length - 1) (by omega)
  obtain⟨k,hkz⟩:=hsub z (List.mem_of_getElem? hz)
  obtain⟨x,hx⟩:=Xai (l:=l) (i:=k) (by rw[hl];exact (Kr.1 hkz).1)
  have h1:=Xkv hx
  have h2:=Xkv hkz
  rw[e,h2] at h1
  have h3:=Option.some.inj h1
  have h4:(ddp l).idxOf x < (ddp l).length:=List.idxOf_lt_length_iff.2 (Xbw.2 (List.mem_of_getElem? hx))
  have h5:(ddp m).idxOf z=(ddp m).length - 1:=by
   obtain⟨hlt,he⟩:=Kr.1 hz
   rw[<- he]
   exact (Xm6 m).idxOf_getElem _ hlt
  omega
end
section
variable {σ:Type} [DecidableEq σ] (f:List Int->List σ)
def rnd (c:List Int):List Int:=rkp (f c)
def cnt (c:List Int):Nat:=(ddp (f c)).length
def Xhp:Nat->Nat->Nat->List Int->List Int
 | 0,_,_,c=>c
 | k+1,n,m,c=>if n < m then Xhp k m (cnt f c) (rnd f c) else c
variable {f} {n:Nat}
def Yfo (n:Nat) (c d:List Int):Prop:=∀ i j:Nat,i < n->j < n->c[i]?=c[j]?->d[i]?=d[j]?
structure Parts (f:List Int->List σ) (n:Nat):Prop where
 len:∀ c,(f c).length=n
 mono:∀ c d,Yfo n c d->∀ i j:Nat,i < n->j < n->(f c)[i]?=(f c)[j]?->(f d)[i]?=(f d)[j]?
theorem Parts.rlen (h:Parts f n) (c:List Int):(rnd f c).length=n:=by unfold rnd;rw[Xj8,h.len]
theorem Parts.ker (h:Parts f n) (c:List Int) {i j:Nat} (hi:i < n) (hj:j < n):(rnd f c)[i]?=(rnd f c)[j]?↔(f c)[i]?=(f c)[j]?:=by
 obtain⟨a,ha⟩:=Xai (l:=f c) (i:=i) (by rw[h.len];exact hi)
 obtain⟨b,hb⟩:=Xai (l:=f c) (i:=j) (by rw[h.len];exact hj)
 unfold rnd
 rw[Wyc ha hb,ha,hb]
 exact⟨fun e=>by rw[e],fun e=>Option.some.inj e⟩
theorem Parts.up (h:Parts f n) {c d:List Int} (hk:Yfo n c d):Yfo n (rnd f c) (rnd f d):=fun i j hi hj e=>(h.ker d hi hj).2 (h.mono c d hk i j hi hj ((h.ker c hi hj).1 e))
theorem Parts.cnt_le (h:Parts f n) (c:List Int):cnt f c<=n:=by have:=Yfm (f c);rw[h.len] at this;exact this
theorem Parts.same (h:Parts f n) {c:List Int} (hk:Yfo n (rnd f (rnd f c)) (rnd f c)) (hc:cnt f (rnd f c)<=cnt f c):rnd f (rnd f c)=rnd f c:=by
 have hf:∀ i j:Nat,i < n->j < n->(f (rnd f c))[i]?=(f (rnd f c))[j]?->(f c)[i]?=(f c)[j]?:=fun i j hi hj e=>(h.ker c hi hj).1 (hk i j hi hj ((h.ker _ hi hj).2 e))
 have hl:(f (rnd f c)).length=(f c).length:=by rw[h.len,h.len]
 have hs:=Xzh hl (fun i j hi hj=>by rw[h.len] at hi hj;exact hf i j hi hj) hc
 exact Xty hl fun i j hi hj=>⟨by rw[h.len] at hi hj;exact hf i j hi hj,hs i j hi hj⟩
theorem Parts.end_ (h:Parts f n):∀ (k nn m:Nat) (c c':List Int),m=cnt f c'->c=rnd f c'->Yfo n c c'->n+1<=k+nn->nn<=n->(nn=0\/∃ c'',c'=rnd f c''/\nn=cnt f c'')->rnd f (Xhp f k nn m c)=Xhp f k nn m c
 | 0,nn,m,c,c',_,_,_,h4,h5,_=>by omega
 | k+1,nn,m,c,c',h1,h2,h3,h4,h5,h6=>by
  simp only[Xhp]
  split
  ·rename_i hlt
   have hm:=h.cnt_le c'
   exact Parts.end_ h k m (cnt f c) (rnd f c) c rfl rfl (by rw[h2];exact h.up (by rw[<- h2];exact h3)) (by omega) (by omega) (.inr ⟨c',h2,h1⟩)
  ·rename_i hge
   rcases h6 with h6|⟨c'',h6,h7⟩
   ·have h0:cnt f c'=0:=by omega
    have hn:n=0:=by
     rcases Nat.eq_zero_or_pos n with e|e
     ·exact e
     ·exfalso
      obtain⟨a,ha⟩:=Xai (l:=f c') (i:=0) (by rw[h.len];exact e)
      have:=List.length_pos_of_mem (Xbw.2 (List.mem_of_getElem? ha))
      unfold cnt at h0
      omega
    have e1:(rnd f c).length=0:=by rw[h.rlen,hn]
    have e2:c.length=0:=by rw[h2,h.rlen,hn]
    rw[List.eq_nil_of_length_eq_zero e1,List.eq_nil_of_length_eq_zero e2]
   ·have:=h.same (c:=c'') (by rw[<- h6,<- h2];exact h3) (by rw[<- h6,<- h1,<- h7];omega)
    rw[<- h6,<- h2] at this
    rw[this]
    exact h2.symm.trans this
theorem Xm7 (I:List Int->Prop) (hI:∀ c,I c->I (rnd f c)):∀ (k nn m:Nat) (c:List Int),I c->I (Xhp f k nn m c)
 | 0,_,_,_,h=>h
 | k+1,nn,m,c,h=>by
  simp only[Xhp]
  split
  ·exact Xm7 I hI k m _ _ (hI c h)
  ·exact h
theorem Parts.fuel (h:Parts f n):∀ (k k' nn m:Nat) (c:List Int),m<=n->n+1<=k+nn->n+1<=k'+nn->Xhp f k nn m c=Xhp f k' nn m c
 | 0,0,_,_,_,_,_,_=>rfl
 | 0,k'+1,nn,m,c,h1,h2,h3=>by simp only[Xhp];rw[if_neg (by omega)]
 | k+1,0,nn,m,c,h1,h2,h3=>by simp only[Xhp];rw[if_neg (by omega)]
 | k+1,k'+1,nn,m,c,h1,h2,h3=>by
  simp only[Xhp]
  split
  ·exact Parts.fuel h k k' m _ _ (h.cnt_le c) (by omega) (by omega)
  ·rfl
end
def Wyd (l:List UInt8):Nat:=l.foldl (fun a b=>a*10+(b.toNat - 48)) 0
theorem Yq5 {n:Nat} (h:n < 256):(UInt8.ofNat n).toNat=n:=by simp;omega
theorem Xlg (u:Nat):Wyd (Lib.decDigits u)=u:=by
 induction u using Nat.strongRecOn with
 | _ u ih =>
  rw[Lib.decDigits]
  split
  ·unfold Wyd
   simp only[List.foldl_cons,List.foldl_nil]
   rw[Yq5 (by omega)];omega
  ·have:=ih (u / 10) (by omega)
   unfold Wyd at this ⊢
   rw[List.foldl_append,this]
   simp only[List.foldl_cons,List.foldl_nil]
   rw[Yq5 (by omega)];omega
theorem Xp1 (u:Nat):∀ b∈Lib.decDigits u,48<=b.toNat/\b.toNat<=57:=by
 induction u using Nat.strongRecOn with
 | _ u ih =>
  intro b hb
  rw[Lib.decDigits] at hb
  split at hb
  ·simp only[List.mem_singleton] at hb
   subst hb
   rw[Yq5 (by omega)];omega
  ·rcases List.mem_append.1 hb with hb|hb
   ·exact ih (u / 10) (by omega) b hb
   ·simp only[List.mem_singleton] at hb
    subst hb
    rw[Yq5 (by omega)];omega
theorem Wia (u:Nat):Lib.decDigits u≠[]:=by
 rw[Lib.decDigits];split <;> simp
theorem Xm8 (n:Int):∀ b∈Lib.itoa n,b=45\/(48<=b.toNat/\b.toNat<=57):=by
 intro b hb
 unfold Lib.itoa at hb
 split at hb
 ·rcases List.mem_cons.1 hb with rfl|hb
  ·exact .inl rfl
  ·exact .inr (Xp1 _ b hb)
 ·exact .inr (Xp1 _ b hb)
theorem Wib (n:Int):Lib.itoa n≠[]:=by
 unfold Lib.itoa;split
 ·simp
 ·exact Wia _
theorem Xzj {a b:Int} (h:Lib.itoa a=Lib.itoa b):a=b:=by
 have no:∀ (u:Nat) (t:List UInt8),Lib.decDigits u≠45::t:=fun u t e=>by
  have:=Xp1 u 45 (by rw[e];simp)
  revert this;decide
 unfold Lib.itoa at h
 split at h <;> split at h
 ·have:=congrArg Wyd (List.cons.inj h).2
  rw[Xlg,Xlg] at this;omega
 ·exact absurd h.symm (no _ _)
 ·exact absurd h (no _ _)
 ·have:=congrArg Wyd h
  rw[Xlg,Xlg] at this;omega
theorem Xh5:∀ {t t' u v:List UInt8},44 ∉ t->44 ∉ t'->t++44::u=t'++44::v->t=t'/\u=v
 | [],[],u,v,_,_,h=>⟨rfl,(List.cons.inj h).2⟩
 | [],b::t',u,v,_,h',h=>absurd (List.cons.inj h).1 (fun e=>h' (by rw[<- e];simp))
 | a::t,[],u,v,h',_,h=>absurd (List.cons.inj h).1 (fun e=>h' (by rw[e];simp))
 | a::t,b::t',u,v,h1,h2,h=>by
  obtain⟨e1,e2⟩:=List.cons.inj h
  obtain⟨e3,e4⟩:=Xh5 (fun k=>h1 (List.mem_cons_of_mem _ k)) (fun k=>h2 (List.mem_cons_of_mem _ k)) e2
  exact⟨by rw[e1,e3],e4⟩
theorem Xj9 (n:Int):44 ∉ Lib.itoa n:=fun h=>by
 have:=Xm8 n 44 h
 revert this;decide
theorem Xp2 {α:Type} {e:α->List UInt8} {P:α->Prop} (hne:∀ x,e x≠[]) (h:∀ x y u v,P x->P y->e x++u=e y++v->x=y/\u=v) :
  ∀ {A B:List α},(∀ x∈A,P x)->(∀ x∈B,P x)->A.flatMap e=B.flatMap e->A=B
 | [],[],_,_,_=>rfl
 | [],b::B,_,_,hh=>by
  exfalso
  rw[List.flatMap_cons] at hh
  exact hne b (List.append_eq_nil_iff.1 hh.symm).1
 | a::A,[],_,_,hh=>by
  exfalso
  rw[List.flatMap_cons] at hh
  exact hne a (List.append_eq_nil_iff.1 hh).1
 | a::A,b::B,ha,hb,hh=>by
  rw[List.flatMap_cons,List.flatMap_cons] at hh
  obtain⟨e1,e2⟩:=h a b _ _ (ha a (by simp)) (hb b (by simp)) hh
  rw[e1,Xp2 hne h (fun x hx=>ha x (List.mem_cons_of_mem _ hx)) (fun x hx=>hb x (List.mem_cons_of_mem _ hx)) e2]
def Xhq (l:List Int):List UInt8:=l.flatMap fun n=>Lib.itoa n++[44]
theorem Yfp {A B:List Int} (h:Xhq A=Xhq B):A=B:=by
 refine Xp2 (P:=fun _=>True) (fun x=>by simp) (fun x y u v _ _ h=>?_) (fun _ _=>trivial) (fun _ _=>trivial) h
 simp only[List.append_assoc,List.singleton_append] at h
 obtain⟨e1,e2⟩:=Xh5 (Xj9 x) (Xj9 y) h
 exact⟨Xzj e1,e2⟩
def okR (r:Int):Prop:=0<=r/\r<=1114111/\¬ (55296<=r/\r<=57343)
theorem Xg5 {a b:Int} (ha:0<=a/\a < 256) (hb:0<=b/\b < 256) (h:a.toNat.toUInt8=b.toNat.toUInt8):a=b:=by
 have:=congrArg UInt8.toNat h
 simp only[Nat.toUInt8_eq,UInt8.toNat_ofNat'] at this
 omega
theorem Xtz {r r':Int} (h:okR r) (h':okR r') {x y:List UInt8} (e:Lib.encodeRune r++x=Lib.encodeRune r'++y):r=r'/\x=y:=by
 unfold okR at h h'
 have sz:∀ r:Int,0<=r/\r<=1114111/\¬ (55296<=r/\r<=57343) ->
   (r<=127/\Lib.encodeRuneZ r=[r])\/(128<=r/\r<=2047/\Lib.encodeRuneZ r=[192+r / 64,128+r % 64]) \/
   (2048<=r/\r<=65535/\Lib.encodeRuneZ r=[224+r / 4096,128+r / 64 % 64,128+r % 64]) \/
   (65536<=r/\Lib.encodeRuneZ r=[240+r / 262144,128+r / 4096 % 64,128+r / 64 % 64,128+r % 64]):=fun r h=>by
  by_cases h1:r<=127
  ·exact .inl ⟨h1,Lib.encodeRuneZ_one (by omega) h1⟩
  ·by_cases h2:r<=2047
   ·exact .inr (.inl ⟨by omega,h2,Lib.encodeRuneZ_two (by omega) h2⟩)
   ·by_cases h3:r<=65535
    ·exact .inr (.inr (.inl ⟨by omega,h3,Lib.encodeRuneZ_three (by omega)⟩))
    ·exact .inr (.inr (.inr ⟨by omega,Lib.encodeRuneZ_four (by omega) (by omega)⟩))
 unfold Lib.encodeRune at e
 rcases sz r h with ⟨h1,e1⟩|⟨h1,h2,e1⟩|⟨h1,h2,e1⟩|⟨h1,e1⟩ <;> rcases sz r' h' with ⟨k1,e2⟩|⟨k1,k2,e2⟩|⟨k1,k2,e2⟩|⟨k1,e2⟩ <;> rw[e1,e2] at e <;>
  simp only[List.map_cons,List.map_nil,List.cons_append,List.nil_append,List.cons.injEq] at e
 all_goals first
  | (exfalso;have:=Xg5 (by omega) (by omega) e.1;omega)
  | (obtain⟨a1,a2,a3,a4,a5⟩:=e
     have b1:=Xg5 (by omega) (by omega) a1
     have b2:=Xg5 (by omega) (by omega) a2
     have b3:=Xg5 (by omega) (by omega) a3
     have b4:=Xg5 (by omega) (by omega) a4
     exact⟨by omega,a5⟩)
  | (obtain⟨a1,a2,a3,a4⟩:=e
     have b1:=Xg5 (by omega) (by omega) a1
     have b2:=Xg5 (by omega) (by omega) a2
     have b3:=Xg5 (by omega) (by omega) a3
     exact⟨by omega,a4⟩)
  | (obtain⟨a1,a2,a3⟩:=e
     have b1:=Xg5 (by omega) (by omega) a1
     have b2:=Xg5 (by omega) (by omega) a2
     exact⟨by omega,a3⟩)
  | (obtain⟨a1,a2⟩:=e
     have b1:=Xg5 (by omega) (by omega) a1
     exact⟨by omega,a2⟩)
def Xfb (l:List Int):List UInt8:=l.flatMap Lib.encodeRune
theorem Xzk:∀ {A B:List Int} {x y:List UInt8},(∀ r∈A,okR r)->(∀ r∈B,okR r)->Xfb A++x=Xfb B++y->(∃ t,B=A++t/\x=Xfb t++y)\/∃ t,A=B++t/\y=Xfb t++x
 | [],B,x,y,_,_,h=>.inl ⟨B,rfl,by simpa [Xfb] using h⟩
 | a::A,[],x,y,_,_,h=>.inr ⟨a::A,rfl,by simpa [Xfb] using h.symm⟩
 | a::A,b::B,x,y,ha,hb,h=>by
  simp only[Xfb,List.flatMap_cons,List.append_assoc] at h
  obtain⟨e1,e2⟩:=Xtz (ha a (by simp)) (hb b (by simp)) h
  subst e1
  rcases Xzk (fun r hr=>ha r (List.mem_cons_of_mem _ hr)) (fun r hr=>hb r (List.mem_cons_of_mem _ hr)) e2 with ⟨t,h1,h2⟩|⟨t,h1,h2⟩
  ·exact .inl ⟨t,by rw[h1];rfl,h2⟩
  ·exact .inr ⟨t,by rw[h1];rfl,h2⟩
def sgF (s:ByteArray):Nat->Nat->List Int
 | 0,_=>[]
 | f+1,p=>if p < s.size then ((Utf8.decode s p).1:Int)::sgF s f (p+(Utf8.decode s p).2) else []
def sgS (s:ByteArray):List Int:=sgF s s.size 0
theorem Wye {s:ByteArray} {f p:Nat} (h:¬ p < s.size):sgF s f p=[]:=by
 cases f with
 | zero=>rfl
 | succ f=>simp only[sgF,if_neg h]
theorem Xg6 {s:ByteArray} {p:Nat} (h:p < s.size):s.data.toList.drop p≠[]:=by
 intro e
 have:=congrArg List.length e
 simp at this
 have:s.data.size=s.size:=rfl
 omega
theorem Wyf {s:ByteArray} {p:Nat} (hp:p < s.size) (hv:¬ ((Utf8.decode s p).1=65533/\(Utf8.decode s p).2=1)):okR ((Utf8.decode s p).1:Int):=by
 have h0:=Lib.decodeL_drop s p
 have hne:=Xg6 hp
 have h1:=Lib.decodeL_N (s.data.toList.drop p)
 have hl:1<=(s.data.toList.drop p).length:=List.length_pos_iff.2 hne
 have h2:=Ydn hl ((s.data.toList.drop p).getD 0 0).toNat_lt ((s.data.toList.drop p).getD 1 0).toNat_lt ((s.data.toList.drop p).getD 2 0).toNat_lt ((s.data.toList.drop p).getD 3 0).toNat_lt
 rw[<- h1,h0,if_neg hv] at h2
 have hw:=Lib.decode_width_pos s p hp
 unfold Yjy at h2
 split at h2
 ·rw[<- h2] at hw;simp at hw
 ·split at h2
  ·rename_i hs
   rw[Bool.and_eq_true] at hs
   have:=of_decide_eq_true hs.1
   rw[<- h2]
   unfold okR
   dsimp only
   omega
  ·rw[<- h2] at hw;simp at hw
theorem Yfq {s:ByteArray}:∀ {f p:Nat},Xbm s f p=true->∀ r∈sgF s f p,okR r
 | 0,_,_,r,hr=>by cases hr
 | f+1,p,h,r,hr=>by
  simp only[Xbm,sgF] at h hr
  split at hr
  ·rename_i hp
   rw[if_pos hp] at h
   split at h
   ·cases h
   ·rename_i hv
    rcases List.mem_cons.1 hr with rfl|hr
    ·exact Wyf hp hv
    ·exact Yfq h r hr
  ·cases hr
theorem Xm9 {s:ByteArray}:∀ {f p:Nat},Xbm s f p=true->s.size - p<=f->Xfb (sgF s f p)=s.data.toList.drop p
 | 0,p,_,h=>by
  have:s.data.toList.drop p=[]:=List.drop_of_length_le (by
   have:s.data.toList.length=s.size:=by simp
   omega)
  rw[this];rfl
 | f+1,p,h,hf=>by
  simp only[Xbm,sgF] at h ⊢
  split
  ·rename_i hp
   rw[if_pos hp] at h
   split at h
   ·cases h
   ·rename_i hv
    have hw:=Lib.decode_width_pos s p hp
    have ih:=Xm9 h (by omega)
    have h0:=Lib.decodeL_drop s p
    have he:=Lib.encode_decode (s.data.toList.drop p) (Xg6 hp) (by rw[h0];exact hv)
    rw[h0] at he
    simp only[Xfb,List.flatMap_cons] at ih ⊢
    rw[ih,he,<- List.drop_drop,List.take_append_drop]
  ·rename_i hp
   have:s.data.toList.drop p=[]:=List.drop_of_length_le (by
    have:s.data.toList.length=s.size:=by simp
    omega)
   rw[this];rfl
theorem Wic {s t:ByteArray} (hs:Xan s=true) (ht:Xan t=true) (h:sgS s=sgS t):s=t:=by
 have h1:=Xm9 (p:=0) hs (by omega)
 have h2:=Xm9 (p:=0) ht (by omega)
 unfold sgS at h
 rw[h,h2] at h1
 simp only[List.drop_zero] at h1
 cases s;cases t
 simp only[ByteArray.mk.injEq]
 exact (Array.toList_inj.1 h1).symm
def X00 (n:Int):Int:=if n < 10 then 48+n else 87+n
def pcR (r:Int):List Int :=
 if r=10 then [92,110] else if r=9 then [92,116] else if r=13 then [92,114]
 else if r=34\/r=92 then [92,r] else if 32<=r/\r≠127 then [r] else [92,120,X00 (r / 16),X00 (r % 16)]
theorem Yfr {r:Int} (h:okR r):∀ x∈pcR r,okR x:=by
 unfold okR at h
 have k:∀ x:Int,0<=x->x<=127->okR x:=fun x h1 h2=>by unfold okR;omega
 unfold pcR
 intro x hx
 split at hx
 ·simp only[List.mem_cons,List.not_mem_nil,or_false] at hx;exact k x (by omega) (by omega)
 ·split at hx
  ·simp only[List.mem_cons,List.not_mem_nil,or_false] at hx;exact k x (by omega) (by omega)
  ·split at hx
   ·simp only[List.mem_cons,List.not_mem_nil,or_false] at hx;exact k x (by omega) (by omega)
   ·split at hx
    ·simp only[List.mem_cons,List.not_mem_nil,or_false] at hx;exact k x (by omega) (by omega)
    ·split at hx
     ·simp only[List.mem_singleton] at hx;subst hx;exact h
     ·simp only[List.mem_cons,List.not_mem_nil,or_false] at hx
      unfold X00 at hx
      refine k x ?_ ?_
      ·split at hx <;> split at hx <;> omega
      ·split at hx <;> split at hx <;> omega
theorem Yyu {r r':Int} {t:List Int} (h0:0<=r) (h1:0<=r') (h:pcR r'=pcR r++t):r=r'/\t=[]:=by
 unfold pcR X00 at h
 (repeat' split at h) <;> simp only[List.cons_append,List.nil_append,List.cons.injEq,List.nil_eq,reduceCtorEq,and_false,false_and] at h <;> first|(exfalso;omega)|exact⟨by omega,by simp_all⟩
theorem Yfs {r:Int}:∃ a t,pcR r=a::t/\a≠34:=by
 unfold pcR
 (repeat' split) <;> exact⟨_,_,rfl,by omega⟩
theorem Yft:∀ {A B:List Int} {x y:List UInt8},(∀ r∈A,okR r)->(∀ r∈B,okR r)->Xfb (A.flatMap pcR)++34::x=Xfb (B.flatMap pcR)++34::y->A=B/\x=y
 | [],[],x,y,_,_,h=>⟨rfl,(List.cons.inj h).2⟩
 | [],b::B,x,y,_,hb,h=>by
  exfalso
  obtain⟨a,t,e1,e2⟩:=Yfs (r:=b)
  have ok:okR a:=Yfr (hb b (by simp)) a (by rw[e1];simp)
  rw[List.flatMap_cons,e1] at h
  have h34:Lib.encodeRune 34=[34]:=by decide
  have:=Xtz (r:=34) (r':=a) (x:=x) (y:=Xfb (t++B.flatMap pcR)++34::y) (by unfold okR;omega) ok (by
   rw[h34];simpa [Xfb] using h)
  exact e2 this.1.symm
 | a::A,[],x,y,ha,_,h=>by
  exfalso
  obtain⟨b,t,e1,e2⟩:=Yfs (r:=a)
  have ok:okR b:=Yfr (ha a (by simp)) b (by rw[e1];simp)
  rw[List.flatMap_cons,e1] at h
  have h34:Lib.encodeRune 34=[34]:=by decide
  have:=Xtz (r:=34) (r':=b) (x:=y) (y:=Xfb (t++A.flatMap pcR)++34::x) (by unfold okR;omega) ok (by
   rw[h34];simpa [Xfb] using h.symm)
  exact e2 this.1.symm
 | a::A,b::B,x,y,ha,hb,h=>by
  have oa:=ha a (by simp)
  have ob:=hb b (by simp)
  simp only[List.flatMap_cons,Xfb,List.flatMap_append,List.append_assoc] at h
  have key:a=b:=by
   rcases Xzk (A:=pcR a) (B:=pcR b) (Yfr oa) (Yfr ob) h with ⟨t,h1,_⟩|⟨t,h1,_⟩
   ·exact (Yyu oa.1 ob.1 h1).1
   ·exact (Yyu ob.1 oa.1 h1).1.symm
  subst key
  obtain⟨e1,e2⟩:=Yft (fun r hr=>ha r (List.mem_cons_of_mem _ hr)) (fun r hr=>hb r (List.mem_cons_of_mem _ hr)) (List.append_cancel_left h)
  exact⟨by rw[e1],e2⟩
def X1m (s:ByteArray):List UInt8:=34::(Xfb ((sgS s).flatMap pcR)++[34])
theorem Yq6 {s t:ByteArray} {x y:List UInt8} (hs:Xan s=true) (ht:Xan t=true) (h:X1m s++x=X1m t++y):s=t/\x=y:=by
 unfold X1m at h
 simp only[List.cons_append,List.cons.injEq,true_and,List.append_assoc,List.singleton_append,List.nil_append] at h
 obtain⟨e1,e2⟩:=Yft (Yfq hs) (Yfq ht) h
 exact⟨Wic hs ht e1,e2⟩
def Xka (b:Bool):List UInt8:=if b then [116,114,117,101] else [102,97,108,115,101]
def scB (x:Sc):List UInt8 :=
 if x.k=0 then [110,117,108,108] else if x.k=1 then Xka (decide (x.n=1)) else if x.k=2 then Lib.itoa x.n else X1m x.s
theorem Xgd {R:ByteArray->Bool} {x:Sc} (h:prR R x=true):(x.k=0/\x=⟨0,0,⟨#[]⟩⟩)\/(x.k=1/\x.s=⟨#[]⟩/\(x.n=0\/x.n=1))\/(x.k=2/\x.s=⟨#[]⟩/\-Xi0<=x.n/\x.n<=Xi0)\/(x.k=3/\x.n=0/\R x.s=true):=by
 unfold prR at h
 split at h
 ·exact .inl ⟨‹_›,of_decide_eq_true h⟩
 ·split at h
  ·simp only[Bool.and_eq_true,Bool.or_eq_true,decide_eq_true_eq] at h
   exact .inr (.inl ⟨‹_›,h⟩)
  ·split at h
   ·simp only[Bool.and_eq_true,decide_eq_true_eq] at h
    exact .inr (.inr (.inl ⟨‹_›,h⟩))
   ·split at h
    ·simp only[Bool.and_eq_true,decide_eq_true_eq] at h
     exact .inr (.inr (.inr ⟨‹_›,h⟩))
    ·cases h
theorem Xlh {x:Sc} (h:prR Xan x=true) (hk:x.k≠3):44 ∉ scB x/\∃ b t,scB x=b::t/\b≠34:=by
 unfold scB Xka
 rcases Xgd h with ⟨h1,h2⟩|⟨h1,h2,h3⟩|⟨h1,h2,h3⟩|⟨h1,_⟩
 ·rw[if_pos h1];exact⟨by decide,_,_,rfl,by decide⟩
 ·rw[if_neg (by omega),if_pos h1]
  split
  ·exact⟨by decide,_,_,rfl,by decide⟩
  ·exact⟨by decide,_,_,rfl,by decide⟩
 ·rw[if_neg (by omega),if_neg (by omega),if_pos h1]
  refine⟨Xj9 _,?_⟩
  cases e:Lib.itoa x.n with
  | nil=>exact absurd e (Wib _)
  | cons b t =>
   refine⟨b,t,rfl,fun hb=>?_⟩
   have:=Xm8 x.n b (by rw[e];simp)
   rw[hb] at this
   revert this;decide
 ·exact absurd h1 hk
theorem Yfu {x y:Sc} (h1:x.k=y.k) (h2:x.n=y.n) (h3:x.s=y.s):x=y:=by
 cases x;cases y;simp only at h1 h2 h3;subst h1;subst h2;subst h3;rfl
theorem Wid {x y:Sc} (hx:prR Xan x=true) (hy:prR Xan y=true) (kx:x.k≠3) (ky:y.k≠3) (h:scB x=scB y):x=y:=by
 have no:∀ (n:Int) (b:UInt8) (t:List UInt8),57 < b.toNat->Lib.itoa n≠b::t:=fun n b t hb e=>by
  have:=Xm8 n b (by rw[e];simp)
  rcases this with rfl|this
  ·revert hb;decide
  ·omega
 have q0:∀ z:Sc,z.k=0->scB z=[110,117,108,108]:=fun z hz=>by unfold scB;rw[if_pos hz]
 have q1:∀ z:Sc,z.k=1->scB z=Xka (decide (z.n=1)):=fun z hz=>by unfold scB;rw[if_neg (by omega),if_pos hz]
 have q2:∀ z:Sc,z.k=2->scB z=Lib.itoa z.n:=fun z hz=>by unfold scB;rw[if_neg (by omega),if_neg (by omega),if_pos hz]
 have hb:∀ b:Bool,Xka b=[116,114,117,101]\/Xka b=[102,97,108,115,101]:=fun b=>by cases b <;> simp[Xka]
 have b0:∀ b:Bool,Xka b≠[110,117,108,108]:=fun b=>by cases b <;> decide
 have bn:∀ (b:Bool) (n:Int),Lib.itoa n≠Xka b:=fun b n=>by
  rcases hb b with e|e <;> rw[e]
  ·exact no _ _ _ (by decide)
  ·exact no _ _ _ (by decide)
 rcases Xgd hx with ⟨h1,h2⟩|⟨h1,h2,h3⟩|⟨h1,h2,h3⟩|⟨h1,_⟩ <;> rcases Xgd hy with ⟨k1,k2⟩|⟨k1,k2,k3⟩|⟨k1,k2,k3⟩|⟨k1,_⟩
 all_goals try contradiction
 ·exact h2.trans k2.symm
 ·rw[q0 x h1,q1 y k1] at h;exact absurd h.symm (b0 _)
 ·rw[q0 x h1,q2 y k1] at h;exact absurd h.symm (no _ _ _ (by decide))
 ·rw[q1 x h1,q0 y k1] at h;exact absurd h (b0 _)
 ·rw[q1 x h1,q1 y k1] at h
  have hn:x.n=y.n:=by
   rcases h3 with h3|h3 <;> rcases k3 with k3|k3 <;> rw[h3,k3] at h ⊢
   ·exact absurd h (by decide)
   ·exact absurd h (by decide)
  exact Yfu (h1.trans k1.symm) hn (h2.trans k2.symm)
 ·rw[q1 x h1,q2 y k1] at h;exact absurd h.symm (bn _ _)
 ·rw[q2 x h1,q0 y k1] at h;exact absurd h (no _ _ _ (by decide))
 ·rw[q2 x h1,q1 y k1] at h;exact absurd h (bn _ _)
 ·rw[q2 x h1,q2 y k1] at h;exact Yfu (h1.trans k1.symm) (Xzj h) (h2.trans k2.symm)
theorem Wie {x y:Sc} {u v:List UInt8} (hx:prR Xan x=true) (hy:prR Xan y=true) (h:(scB x++[44])++u=(scB y++[44])++v):x=y/\u=v:=by
 simp only[List.append_assoc,List.singleton_append] at h
 have q3:∀ z:Sc,z.k=3->scB z=X1m z.s:=fun z hz=>by unfold scB;rw[if_neg (by omega),if_neg (by omega),if_neg (by omega)]
 by_cases kx:x.k=3 <;> by_cases ky:y.k=3
 ·rw[q3 x kx,q3 y ky] at h
  rcases Xgd hx with ⟨h1,_⟩|⟨h1,_⟩|⟨h1,_⟩|⟨_,h1,h2⟩ <;> rcases Xgd hy with ⟨k1,_⟩|⟨k1,_⟩|⟨k1,_⟩|⟨_,k1,k2⟩ <;> try omega
  obtain⟨e1,e2⟩:=Yq6 h2 k2 h
  exact⟨Yfu (kx.trans ky.symm) (h1.trans k1.symm) e1,(List.cons.inj e2).2⟩
 ·obtain⟨_,b,t,e1,e2⟩:=Xlh hy ky
  rw[q3 x kx,e1] at h
  exact absurd (List.cons.inj h).1.symm e2
 ·obtain⟨_,b,t,e1,e2⟩:=Xlh hx kx
  rw[q3 y ky,e1] at h
  exact absurd (List.cons.inj h).1 e2
 ·obtain⟨e1,e2⟩:=Xh5 (Xlh hx kx).1 (Xlh hy ky).1 h
  exact⟨Wid hx hy kx ky e1,e2⟩
def Xhr (l:List Sc):List UInt8:=l.flatMap fun x=>scB x++[44]
theorem Yfv {A B:List Sc} (ha:∀ x∈A,prR Xan x=true) (hb:∀ x∈B,prR Xan x=true) (h:Xhr A=Xhr B):A=B :=
 Xp2 (P:=fun x=>prR Xan x=true) (fun x=>by simp) (fun x y u v hx hy h=>Wie hx hy h) ha hb h
structure Fine (l:List Nd):Prop where
 node:∀ x∈l,Xbg Xan x l.length=true
 small:∀ x∈l,x.keys.length<=12/\x.kids.length<=12
theorem Good.fine {g:Gr} (h:Good g):Fine g.l:=⟨(Xro h.c).2.2,h.s⟩
abbrev kdL (l:List Nd) (i:Int):List Int:=Xaf (Xau l i)
def inL (l:List Nd) (i:Int):Prop:=0<=i/\i < l.length
instance (l:List Nd) (i:Int):Decidable (inL l i):=inferInstanceAs (Decidable (_/\_))
theorem Yfw {l:List Nd} {i:Int} (h:inL l i):l[i.toNat]?=some (Xau l i):=by
 unfold inL at h
 unfold Xau
 rw[if_pos h]
 have:i.toNat < l.length:=by omega
 rw[List.getElem?_eq_getElem this];rfl
theorem Xr2 {l:List Nd} {n:Nat} {x:Nd} (h:l[n]?=some x):inL l n/\Xau l n=x:=by
 have hn:=(Kr.1 h).1
 have hi:inL l n:=⟨by omega,by omega⟩
 refine⟨hi,?_⟩
 have:=Yfw hi
 rw[Int.toNat_natCast,h] at this
 exact (Option.some.inj this).symm
theorem Fine.at {l:List Nd} (h:Fine l) {i:Int} (hi:inL l i):KidsOK (Xau l i) l.length:=Xmt (h.node _ (Xmr hi))
theorem Fine.kid {l:List Nd} (h:Fine l) (i:Int):∀ j∈kdL l i,inL l j:=by
 by_cases hi:inL l i
 ·exact (h.at hi).inn
 ·intro j hj
  rw[kdL,Xga hi] at hj
  simp[Xaf,Xad,Nd.zero] at hj
theorem Fine.klen {l:List Nd} (h:Fine l) (i:Int):(kdL l i).length=(Xau l i).kids.length:=by
 by_cases hi:inL l i
 ·exact (h.at hi).len
 ·rw[kdL,Xga hi];rfl
structure Bis (l m:List Nd) (R:Int->Int->Prop):Prop where
 inn:∀ a b,R a b->inL l a/\inL m b
 fit:∀ a b,R a b->Xok (Xau l a) (Xau m b)=true
 kid:∀ a b,R a b->∀ (i:Nat) (p q:Int),(kdL l a)[i]?=some p->(kdL m b)[i]?=some q->R p q
def Sim (l m:List Nd) (a b:Int):Prop:=∃ R,Bis l m R/\R a b
section
variable {l m n:List Nd} {a b c:Int}
theorem Xt0:Bis l m (Sim l m):=⟨fun _ _ ⟨_,h,r⟩=>h.inn _ _ r,fun _ _ ⟨_,h,r⟩=>h.fit _ _ r,fun _ _ ⟨R,h,r⟩ i p q hp hq=>⟨R,h,h.kid _ _ r i p q hp hq⟩⟩
theorem Sim.inn (h:Sim l m a b):inL l a/\inL m b:=Xt0.inn _ _ h
theorem Sim.fit (h:Sim l m a b):Xok (Xau l a) (Xau m b)=true:=Xt0.fit _ _ h
theorem Sim.kid (h:Sim l m a b) {i:Nat} {p q:Int} (hp:(kdL l a)[i]?=some p) (hq:(kdL m b)[i]?=some q):Sim l m p q:=Xt0.kid _ _ h i p q hp hq
theorem Sim.klen (hl:Fine l) (hm:Fine m) (h:Sim l m a b):(kdL l a).length=(kdL m b).length:=by
 rw[hl.klen,hm.klen];exact (Xb1.1 h.fit).2.2.2
theorem Yfx {x y:Nd} (h:Xok x y=true):Xok y x=true:=by
 obtain⟨h1,h2,h3,h4⟩:=Xb1.1 h
 exact Xb1.2 ⟨h1.symm,h2.symm,h3.symm,h4.symm⟩
theorem Xkb {x y z:Nd} (h:Xok x y=true) (k:Xok y z=true):Xok x z=true:=by
 obtain⟨h1,h2,h3,h4⟩:=Xb1.1 h
 obtain⟨k1,k2,k3,k4⟩:=Xb1.1 k
 exact Xb1.2 ⟨h1.trans k1,h2.trans k2,h3.trans k3,h4.trans k4⟩
theorem Yfy (x:Nd):Xok x x=true:=Xb1.2 ⟨rfl,rfl,rfl,rfl⟩
theorem Yq7 (hl:Fine l) (ha:inL l a):Sim l l a a :=
 ⟨fun x y=>x=y/\inL l x,⟨fun _ _ ⟨e,h⟩=>⟨h,e ▸ h⟩,fun _ _ ⟨e,_⟩=>by subst e;exact Yfy _,fun x y ⟨e,_⟩ i p q hp hq=>by
  subst e;rw[hp] at hq;cases hq;exact⟨rfl,hl.kid _ _ (List.mem_of_getElem? hp)⟩⟩,rfl,ha⟩
theorem Sim.symm (h:Sim l m a b):Sim m l b a:=by
 obtain⟨R,hR,r⟩:=h
 exact⟨fun x y=>R y x,⟨fun _ _ r=>(hR.inn _ _ r).symm,fun _ _ r=>Yfx (hR.fit _ _ r),fun _ _ r i p q hp hq=>hR.kid _ _ r i q p hq hp⟩,r⟩
theorem Sim.trans (hl:Fine l) (hm:Fine m) (h:Sim l m a b) (k:Sim m n b c):Sim l n a c:=by
 refine⟨fun x z=>∃ y,Sim l m x y/\Sim m n y z,⟨fun x z ⟨y,h1,h2⟩=>⟨h1.inn.1,h2.inn.2⟩,fun x z ⟨y,h1,h2⟩=>Xkb h1.fit h2.fit,fun x z ⟨y,h1,h2⟩ i p q hp hq=>?_⟩,b,h,k⟩
 obtain⟨w,hw⟩:=Xai (l:=kdL m y) (i:=i) (by rw[<- h1.klen hl hm];exact (Kr.1 hp).1)
 exact⟨w,h1.kid hp hw,h2.kid hw hq⟩
end
structure Say where
 k:Int
 x:Sc
 keys:List Sc
 kids:List (Option Int)
 deriving DecidableEq
def X1n (x:Nd) (c:List Int):Say:=⟨x.k,x.x,Xaj x,(Xaf x).map fun j=>c[j.toNat]?⟩
def Xgm (l:List Nd) (c:List Int):List Say:=l.map fun x=>X1n x c
abbrev Xfc (n:Nat):List Int:=List.replicate n 0
def Xaz (l:List Nd):List Int:=Xhp (Xgm l) (l.length+1) 0 (cnt (Xgm l) (Xfc l.length)) (rnd (Xgm l) (Xfc l.length))
theorem Xkc {α β γ:Type} {f:α->γ} {g:β->γ}:∀ {A:List α} {B:List β},A.map f=B.map g↔A.length=B.length/\∀ (i:Nat) (p:α) (q:β),A[i]?=some p->B[i]?=some q->f p=g q
 | [],[]=>by simp
 | [],_::_=>by simp
 | _::_,[]=>by simp
 | a::A,b::B=>by
  simp only[List.map_cons,List.cons.injEq,List.length_cons,Nat.add_right_cancel_iff]
  rw[Xkc]
  constructor
  ·rintro⟨h,hl,hh⟩
   refine⟨hl,fun i p q hp hq=>?_⟩
   cases i with
   | zero=>simp at hp hq;subst hp;subst hq;exact h
   | succ i=>exact hh i p q (by simpa using hp) (by simpa using hq)
  ·rintro⟨hl,hh⟩
   exact⟨hh 0 a b rfl rfl,hl,fun i p q hp hq=>hh (i+1) p q (by simpa using hp) (by simpa using hq)⟩
theorem Xna {x y:Nd} {c:List Int}:X1n x c=X1n y c↔x.k=y.k/\x.x=y.x/\Xaj x=Xaj y/\(Xaf x).length=(Xaf y).length/\∀ (i:Nat) (p q:Int),(Xaf x)[i]?=some p->(Xaf y)[i]?=some q->c[p.toNat]?=c[q.toNat]?:=by
 unfold X1n
 rw[Say.mk.injEq,Xkc]
section
variable {l:List Nd}
theorem Xg7 {c:List Int} {i:Int} (h:inL l i):(Xgm l c)[i.toNat]?=some (X1n (Xau l i) c):=by unfold Xgm;rw[List.getElem?_map,Yfw h];rfl
theorem Xp3 (c:List Int):(Xgm l c).length=l.length:=by simp[Xgm]
theorem Xnb {i:Nat} (h:i < l.length):inL l i:=⟨by omega,by omega⟩
theorem Fine.parts (h:Fine l):Parts (Xgm l) l.length where
 len c:=Xp3 c
 mono c d hk i j hi hj e:=by
  have h1:=Xg7 (c:=c) (Xnb hi)
  have h2:=Xg7 (c:=c) (Xnb hj)
  have h3:=Xg7 (c:=d) (Xnb hi)
  have h4:=Xg7 (c:=d) (Xnb hj)
  rw[Int.toNat_natCast] at h1 h2 h3 h4
  rw[h1,h2] at e
  rw[h3,h4]
  obtain⟨e1,e2,e3,e4,e5⟩:=Xna.1 (Option.some.inj e)
  rw[Xna.2 ⟨e1,e2,e3,e4,fun n p q hp hq=>?_⟩]
  have hp':=h.kid _ _ (List.mem_of_getElem? hp)
  have hq':=h.kid _ _ (List.mem_of_getElem? hq)
  unfold inL at hp' hq'
  exact hk _ _ (by omega) (by omega) (e5 n p q hp hq)
theorem Xd1 (h:Fine l):(Xaz l).length=l.length:=by
 unfold Xaz
 exact Xm7 (fun c=>c.length=l.length) (fun c _=>h.parts.rlen c) _ _ _ _ (h.parts.rlen _)
theorem Xzl (h:Fine l):rnd (Xgm l) (Xaz l)=Xaz l:=by
 unfold Xaz
 refine h.parts.end_ _ _ _ _ (Xfc l.length) rfl rfl (fun i j hi hj _=>?_) (Nat.le_refl _) (Nat.zero_le _) (.inl rfl)
 simp[Xfc,List.getElem?_replicate,hi,hj]
theorem Yfz (h:Fine l) {a b:Int} (ha:inL l a) (hb:inL l b):(Xaz l)[a.toNat]?=(Xaz l)[b.toNat]?↔X1n (Xau l a) (Xaz l)=X1n (Xau l b) (Xaz l):=by
 have h1:=ha
 have h2:=hb
 unfold inL at h1 h2
 have:=h.parts.ker (Xaz l) (i:=a.toNat) (j:=b.toNat) (by omega) (by omega)
 rw[Xzl h,Xg7 ha,Xg7 hb] at this
 rw[this,Option.some.injEq]
theorem Wif (h:Fine l):Bis l l fun a b=>inL l a/\inL l b/\(Xaz l)[a.toNat]?=(Xaz l)[b.toNat]? where
 inn a b r:=⟨r.1,r.2.1⟩
 fit a b r:=by
  obtain⟨e1,e2,e3,e4,_⟩:=Xna.1 ((Yfz h r.1 r.2.1).1 r.2.2)
  exact Xb1.2 ⟨e1,e2,e3,by rw[<- h.klen,<- h.klen];exact e4⟩
 kid a b r i p q hp hq:=by
  obtain⟨_,_,_,_,e5⟩:=Xna.1 ((Yfz h r.1 r.2.1).1 r.2.2)
  exact⟨h.kid _ _ (List.mem_of_getElem? hp),h.kid _ _ (List.mem_of_getElem? hq),e5 i p q hp hq⟩
theorem X01 (h:Fine l) {R:Int->Int->Prop} (hR:Bis l l R) {a b:Int} (r:R a b):(Xaz l)[a.toNat]?=(Xaz l)[b.toNat]?:=by
 have step:∀ c:List Int,(∀ a b,R a b->c[a.toNat]?=c[b.toNat]?)->∀ a b,R a b->(rnd (Xgm l) c)[a.toNat]?=(rnd (Xgm l) c)[b.toNat]?:=fun c hc a b r=>by
  obtain⟨ha,hb⟩:=hR.inn a b r
  have h1:=ha
  have h2:=hb
  unfold inL at h1 h2
  rw[h.parts.ker c (by omega) (by omega),Xg7 ha,Xg7 hb,Option.some.injEq]
  obtain⟨f1,f2,f3,f4⟩:=Xb1.1 (hR.fit a b r)
  exact Xna.2 ⟨f1,f2,f3,by rw[<- h.klen,<- h.klen] at f4;exact f4,fun i p q hp hq=>hc _ _ (hR.kid a b r i p q hp hq)⟩
 have:=Xm7 (f:=Xgm l) (fun c=>∀ a b,R a b->c[a.toNat]?=c[b.toNat]?) step (l.length+1) 0 (cnt (Xgm l) (Xfc l.length)) (rnd (Xgm l) (Xfc l.length)) (step _ fun a b r=>by
  obtain⟨ha,hb⟩:=hR.inn a b r
  unfold inL at ha hb
  have e1:a.toNat < l.length:=by omega
  have e2:b.toNat < l.length:=by omega
  simp[Xfc,List.getElem?_replicate,e1,e2])
 exact this a b r
theorem Xp4 (h:Fine l) {a b:Int} (ha:inL l a) (hb:inL l b):(Xaz l)[a.toNat]?=(Xaz l)[b.toNat]?↔Sim l l a b :=
 ⟨fun e=>⟨_,Wif h,ha,hb,e⟩,fun ⟨_,hR,r⟩=>X01 h hR r⟩
theorem Wyg (h:Fine l) {a:Int} (ha:inL l a):∃ c,(Xaz l)[a.toNat]?=some c:=by
 unfold inL at ha
 exact Xai (by rw[Xd1 h];omega)
theorem Wig (h:Fine l):Xaz l=rkp (Xgm l (Xaz l)):=(Xzl h).symm
end
def Wyh (n:Int) (x:Nd):Nd:=⟨x.k,x.x,x.keys,x.kids.map fun i=>i+n⟩
def Wyi (l m:List Nd):List Nd:=l++m.map (Wyh l.length)
section
variable {l m:List Nd} {a b:Int}
end
def W78 (g h:Gr):Bool:=decide ((Xaz (Wyi g.l h.l))[g.root.toNat]?=(Xaz (Wyi g.l h.l))[(h.root+g.l.length).toNat]?)
theorem Good.in {g:Gr} (h:Good g):inL g.l g.root:=h.root
theorem Iso.sim {g h:Gr} (hg:Good g) (hh:Good h) {R:Int->Int->Prop} (H:Iso g h R) {a b:Int} (r:R a b) (ha:inL g.l a) (hb:inL h.l b):Sim g.l h.l a b :=
 ⟨fun a b=>R a b/\inL g.l a/\inL h.l b,⟨fun _ _ r=>r.2,fun a b r=>H.fit a b r.1,fun a b r i p q hp hq=>⟨H.kid a b r.1 (p,q) (Yqy hp hq),hg.fine.kid _ _ (List.mem_of_getElem? hp),hh.fine.kid _ _ (List.mem_of_getElem? hq)⟩⟩,r,ha,hb⟩
structure Near (l m:List Nd) (fr to:Int):Prop where
 len:m.length=l.length
 fit:∀ a,Xok (Xau l a) (Xau m a)=true
 kid:∀ a (i:Nat) p q,(kdL l a)[i]?=some p->(kdL m a)[i]?=some q->q=p\/(p=fr/\q=to)
theorem Near.sim {l m:List Nd} {fr to:Int} (hl:Fine l) (hm:Fine m) (h:Near l m fr to) (hs:Sim l l fr to) {a:Int} (ha:inL l a):Sim l m a a:=by
 refine⟨Sim l l,⟨fun a b r=>⟨r.inn.1,by have:=r.inn.2;unfold inL at *;rw[h.len];exact this⟩,fun a b r=>Xkb r.fit (h.fit b),fun a b r i p q hp hq=>?_⟩,Yq7 hl ha⟩
 obtain⟨y,hy⟩:=Xai (l:=kdL l b) (i:=i) (by rw[<- r.klen hl hl];exact (Kr.1 hp).1)
 have hpy:=r.kid hp hy
 rcases h.kid b i y q hy hq with rfl|⟨rfl,rfl⟩
 ·exact hpy
 ·exact hpy.trans hl hl hs
def W7z (x:Nd) (k:Nat) (to:Int):Nd:=⟨x.k,x.x,x.keys,x.kids.set k to⟩
def X1o:List Int->Nat->Prop
 | [],_=>True
 | c::r,k=>0<=c/\c<=k/\X1o r (if c < k then k else k+1)
theorem Wih {α:Type} {l:List α} {i:Nat} {a:α} (h:l[i]?=some a):l.drop i=a::l.drop (i+1):=by
 obtain⟨hi,rfl⟩:=Kr.1 h
 exact List.drop_eq_getElem_cons hi
theorem Yf0 {α:Type} [DecidableEq α] (l:List α):∀ (m i:Nat),i+m=l.length->X1o ((rkp l).drop i) (ddp (l.take i)).length
 | 0,i,h=>by rw[List.drop_eq_nil_of_le (by rw[Xj8];omega)];trivial
 | m+1,i,h=>by
  obtain⟨a,ha⟩:=Xai (l:=l) (i:=i) (by omega)
  rw[Wih (Xkv ha)]
  have hn:=Xzg ha
  have ih:=Yf0 l m (i+1) (by omega)
  split at hn
  ·refine⟨by omega,by omega,?_⟩
   rw[if_pos (by omega),<- hn.2];exact ih
  ·refine⟨by omega,by omega,?_⟩
   rw[if_neg (by omega)]
   rw[hn.2,List.length_append] at ih
   exact ih
theorem Xkd {l:List Nd} (h:Fine l):X1o (Xaz l) 0:=by
 have:=Yf0 (Xgm l (Xaz l)) (Xgm l (Xaz l)).length 0 (by omega)
 rwa [<- Wig h] at this
def Xeq:List Int->Nat->Nat
 | [],k=>k
 | c::r,k=>Xeq r (if c < k then k else k+1)
theorem Xnc:∀ {l:List Int} {k i:Nat} {c:Int},X1o l k->l[i]?=some c->0<=c/\c<=Xeq (l.take i) k/\Xeq (l.take (i+1)) k=if c < Xeq (l.take i) k then Xeq (l.take i) k else Xeq (l.take i) k+1
 | x::r,k,0,c,h,e=>by
  obtain rfl:x=c:=by simpa using e
  exact⟨h.1,h.2.1,by simp[Xeq]⟩
 | x::r,k,i+1,c,h,e=>by
  have:=Xnc (i:=i) h.2.2 (by simpa using e)
  simpa [Xeq] using this
theorem Xt1:∀ (l:List Int) (k:Nat),Xeq l k<=k+l.length
 | [],k=>Nat.le_refl _
 | c::r,k=>by
  have:=Xt1 r (if c < k then k else k+1)
  simp only[Xeq,List.length_cons]
  split at this
  ·rename_i h;rw[if_pos h];omega
  ·rename_i h;rw[if_neg h];omega
def Xgo (f:Int->Int) (x:Nd):Nd:=⟨x.k,x.x,Xaj x,(Xaf x).map f⟩
theorem Xr3 {x:Nd} {n:Int} (h:Xbg Xan x n=true) (f:Int->Int):Xaf (Xgo f x)=(Xaf x).map f/\Xaj (Xgo f x)=Xaj x:=by
 by_cases hk:x.k=2
 ·obtain⟨h1,h2,_⟩:=Xft h hk
  have hp:=Xbu hk h1
  have hlt:(srt (Xcu x)).Pairwise lt1:=Xxm (by rw[Xgb h1];exact h2)
  have hkeys:Xaj x=(srt (Xcu x)).map Pr.key:=by unfold Xaj;rw[hp]
  have hkids:Xaf x=(srt (Xcu x)).map Pr.kid:=by unfold Xaf;rw[if_neg (by omega),hp]
  have hz:Xcu (Xgo f x)=(srt (Xcu x)).map fun p=>⟨p.key,f p.kid⟩:=by
   have:=Ye4 (l:=srt (Xcu x)) (f:=f)
   rw[Ye5] at this ⊢
   simp only[Xgo]
   rw[hkeys,hkids]
   exact this
  have hlt2:((srt (Xcu x)).map fun p=>(⟨p.key,f p.kid⟩:Pr)).Pairwise lt1:=by
   rw[List.pairwise_map]
   exact hlt.imp fun {a b} hab=>hab
  have hp2:Xad (Xgo f x)=(srt (Xcu x)).map fun p=>⟨p.key,f p.kid⟩:=by
   have hlen:(Xgo f x).keys.length=(Xgo f x).kids.length:=by simp only[Xgo];rw[hkeys,hkids];simp
   rw[Xbu (x:=Xgo f x) hk hlen,hz,Yyh hlt2]
  constructor
  ·unfold Xaf
   rw[if_neg (show ¬ (Xgo f x).k=1 by simp only[Xgo];omega),if_neg (show ¬ x.k=1 by omega),hp2,hp]
   simp
  ·unfold Xaj
   rw[hp2,hp]
   simp
 ·have hp:=Xcd hk
  have hp2:Xad (Xgo f x)=[]:=Xcd (x:=Xgo f x) hk
  constructor
  ·unfold Xaf
   rw[hp2,hp]
   show (if x.k=1 then (Xaf x).map _ else _)=_
   unfold Xaf
   rw[hp]
   split
   ·rfl
   ·rfl
  ·unfold Xaj;rw[hp2,hp]
theorem X02 {x:Nd} {n m:Int} {f:Int->Int} (h:Xbg Xan x n=true) (hw:∀ j∈Xaf x,0<=f j/\f j < m):Xbg Xan (Xgo f x) m=true:=by
 have hin:Xfj ((Xaf x).map f) m=true:=Xry fun i hi=>by
  obtain⟨j,hj,rfl⟩:=List.mem_map.1 hi
  exact hw j hj
 obtain⟨_,k2,k3,k4,_,_⟩:=Xmt h
 rcases Xj4 h with hk|hk|hk
 ·have h1:=Xoj h hk
  have h2:=Xms h hk
  unfold Xbg
  rw[if_pos (show (Xgo f x).k=0 from hk)]
  have e1:Xaj x=[]:=k4 (by omega)
  have e2:Xaf x=[]:=by rw[<- List.length_eq_zero_iff,k2,h2.2];rfl
  simp[Yn0,Xgo,h1,e1,e2]
 ·have h1:=Xoi h hk
  unfold Xbg
  rw[if_neg (show ¬ (Xgo f x).k=0 by simp only[Xgo];omega),if_pos (show (Xgo f x).k=1 from hk)]
  have e1:Xaj x=[]:=k4 (by omega)
  simp only[Yn1,Xgo,h1,e1,hin]
  rfl
 ·obtain⟨h0,h1⟩:=Xh3 h hk
  obtain⟨m1,m2,_⟩:=Xft h hk
  unfold Xbg
  rw[if_neg (show ¬ (Xgo f x).k=0 by simp only[Xgo];omega),if_neg (show ¬ (Xgo f x).k=1 by simp only[Xgo];omega),if_pos (show (Xgo f x).k=2 from hk)]
  have hpk:(Xaj x).Perm x.keys:=by
   unfold Xaj
   rw[Xbu hk m1]
   have:=(Xe1 (Xcu x)).map Pr.key
   rwa [Xgb m1] at this
  have e1:(Xaj x).all (prR Xan)=true:=by
   rw[List.all_eq_true] at h0 ⊢
   exact fun a ha=>h0 a (hpk.mem_iff.1 ha)
  have e2:(Xaj x).Nodup:=hpk.nodup_iff.2 m2
  have e3:(Xaj x).length=(Xaf x).length:=k3 hk
  simp only[Yn2,Xpi,Xgo,h1,hin,e1,e3,List.length_map]
  simp[e2]
theorem X03 {x:Nd} (f:Int->Int) (h:x.keys.length<=12/\x.kids.length<=12):(Xgo f x).keys.length<=12/\(Xgo f x).kids.length<=12:=by
 have:=Xdf x
 refine⟨?_,?_⟩
 ·simp only[Xgo,Xaj,List.length_map];omega
 ·simp only[Xgo,List.length_map];exact Xdk x 12 h
def Xr4:List Int->Nat->Nat->List Int
 | [],_,_=>[]
 | c::r,k,i=>if c < k then Xr4 r k (i+1) else (i:Int)::Xr4 r (k+1) (i+1)
theorem Xt2:∀ {r:List Int} {k i j:Nat} {a:Int},X1o r k->(Xr4 r k i)[j]?=some a->∃ m:Nat,a=((i+m:Nat):Int)/\r[m]?=some ((k+j:Nat):Int)
 | [],_,_,_,_,_,e=>by simp[Xr4] at e
 | c::r,k,i,j,a,h,e=>by
  obtain⟨h1,h2,h3⟩:=h
  simp only[Xr4] at e
  split at e
  ·rename_i hc
   rw[if_pos hc] at h3
   obtain⟨m,e1,e2⟩:=Xt2 h3 e
   exact⟨m+1,by rw[e1];omega,by simpa using e2⟩
  ·rename_i hc
   rw[if_neg hc] at h3
   cases j with
   | zero=>exact⟨0,by simpa using e.symm,by simp;omega⟩
   | succ j =>
    obtain⟨m,e1,e2⟩:=Xt2 h3 (by simpa using e)
    exact⟨m+1,by rw[e1];omega,by rw[List.getElem?_cons_succ,e2];congr 1;omega⟩
theorem Xt3:∀ {r:List Int} {k i:Nat},X1o r k->∀ c∈r,0<=c/\c < ((k+(Xr4 r k i).length:Nat):Int)
 | [],_,_,_,_,hc=>by cases hc
 | x::r,k,i,h,c,hc=>by
  obtain⟨h1,h2,h3⟩:=h
  simp only[Xr4]
  split
  ·rename_i hx
   rw[if_pos hx] at h3
   rcases List.mem_cons.1 hc with rfl|hc
   ·exact⟨h1,by omega⟩
   ·exact Xt3 h3 c hc
  ·rename_i hx
   rw[if_neg hx] at h3
   rw[List.length_cons]
   rcases List.mem_cons.1 hc with rfl|hc
   ·exact⟨h1,by omega⟩
   ·have:=Xt3 (i:=i+1) h3 c hc
    exact⟨this.1,by omega⟩
theorem Xi8:∀ (r:List Int) (k i:Nat),(Xr4 r k i).length<=r.length
 | [],_,_=>Nat.le_refl _
 | c::r,k,i=>by
  simp only[Xr4]
  split
  ·have:=Xi8 r k (i+1);rw[List.length_cons];omega
  ·have:=Xi8 r (k+1) (i+1);rw[List.length_cons,List.length_cons];omega
noncomputable def Xzm (l:List Nd):List Int:=Xr4 (Xaz l) 0 0
noncomputable def Xfa (l:List Nd) (i:Int):Int:=(Xaz l)[i.toNat]?.getD 0
noncomputable def Xat (g:Gr):Gr:=⟨Xfa g.l g.root,(Xzm g.l).map fun i=>Xgo (Xfa g.l) (Xau g.l i)⟩
section
variable {l:List Nd} {g h:Gr}
theorem Xg8 (h:Fine l) {i:Int} (hi:inL l i):(Xaz l)[i.toNat]?=some (Xfa l i):=by
 obtain⟨c,hc⟩:=Wyg h hi
 unfold Xfa
 rw[hc];rfl
theorem Xp5 (h:Fine l) {i j:Int} (hi:inL l i) (hj:inL l j):Xfa l i=Xfa l j↔Sim l l i j:=by
 rw[<- Xp4 h hi hj,Xg8 h hi,Xg8 h hj,Option.some.injEq]
theorem Xke (h:Fine l) {i:Int} (hi:inL l i):0<=Xfa l i/\Xfa l i < (Xzm l).length:=by
 have:=Xt3 (i:=0) (Xkd h) _ (List.mem_of_getElem? (Xg8 h hi))
 rwa [Nat.zero_add] at this
theorem Xzn (h:Fine l) {j:Nat} {a:Int} (e:(Xzm l)[j]?=some a):inL l a/\Xfa l a=j:=by
 obtain⟨m,e1,e2⟩:=Xt2 (Xkd h) e
 rw[Nat.zero_add] at e1 e2
 have hm:=(Kr.1 e2).1
 rw[Xd1 h] at hm
 have ha:inL l a:=⟨by omega,by omega⟩
 refine⟨ha,?_⟩
 have:=Xg8 h ha
 rw[e1,Int.toNat_natCast,e2] at this
 rw[e1];exact (Option.some.inj this).symm
theorem Wyj (h:Fine l) {i:Int} (hi:inL l i):∃ a,(Xzm l)[(Xfa l i).toNat]?=some a/\inL l a/\Sim l l i a:=by
 have hlt:=Xke h hi
 obtain⟨a,ha⟩:=Xai (l:=Xzm l) (i:=(Xfa l i).toNat) (by omega)
 obtain⟨h1,h2⟩:=Xzn h ha
 exact⟨a,ha,h1,(Xp5 h hi h1).1 (by rw[h2];omega)⟩
theorem Xc9 (g:Gr):(Xat g).l.length=(Xzm g.l).length:=by simp[Xat]
theorem Yq8 {j:Nat} {a:Int} (e:(Xzm g.l)[j]?=some a):Xau (Xat g).l j=Xgo (Xfa g.l) (Xau g.l a):=by
 have hj:=(Kr.1 e).1
 unfold Xau
 rw[if_pos (by rw[Xc9];omega),Int.toNat_natCast]
 simp only[Xat,List.getElem?_map,e,Option.map_some,Option.getD_some]
 rfl
theorem Xom (h:Good g) {i:Int} (hi:inL g.l i):∃ a,inL g.l a/\Sim g.l g.l i a/\Xau (Xat g).l (Xfa g.l i)=Xgo (Xfa g.l) (Xau g.l a):=by
 obtain⟨a,h1,h2,h3⟩:=Wyj h.fine hi
 have hlt:=Xke h.fine hi
 refine⟨a,h2,h3,?_⟩
 have:=Yq8 h1
 rwa [show (((Xfa g.l i).toNat:Nat):Int)=Xfa g.l i by omega] at this
theorem Good.whole (h:Good g):Good (Xat g) where
 c:=by
  refine Yaj ?_ ?_ ?_
  ·rw[Xc9]
   have:=Xi8 (Xaz g.l) 0 0
   rw[Xd1 h.fine] at this
   exact Nat.le_trans this h.len
  ·rw[Xc9];exact Xke h.fine h.root
  ·intro x hx
   rw[Xc9]
   simp only[Xat,List.mem_map] at hx
   obtain⟨i,hi,rfl⟩:=hx
   obtain⟨j,hj⟩:=List.getElem?_of_mem hi
   exact X02 (h.node (Xzn h.fine hj).1) fun k hk=>Xke h.fine (h.kid i k hk)
 s:=by
  intro x hx
  simp only[Xat,List.mem_map] at hx
  obtain⟨i,hi,rfl⟩:=hx
  exact X03 _ (h.s.at i)
theorem Yq9 (h:Good g) {i:Int} (hi:inL g.l i):inL (Xat g).l (Xfa g.l i):=by
 have:=Xke h.fine hi
 unfold inL
 rw[Xc9];exact this
theorem Xon (h:Good g) {b:Int} (hb:inL (Xat g).l b):∃ i,inL g.l i/\Xfa g.l i=b:=by
 unfold inL at hb
 rw[Xc9] at hb
 obtain⟨a,ha⟩:=Xai (l:=Xzm g.l) (i:=b.toNat) (by omega)
 obtain⟨h1,h2⟩:=Xzn h.fine ha
 exact⟨a,h1,by omega⟩
theorem Yra (h:Good g) {i:Int} (hi:inL g.l i):kdL (Xat g).l (Xfa g.l i)=(kdL g.l i).map (Xfa g.l):=by
 obtain⟨a,h1,h2,h3⟩:=Xom h hi
 have e1:=(Xr3 (h.node h1) (Xfa g.l)).1
 rw[show kdL (Xat g).l (Xfa g.l i)=Xaf (Xau (Xat g).l (Xfa g.l i)) from rfl,h3,e1]
 refine (Xkc (A:=Xaf (Xau g.l a)) (B:=kdL g.l i)).2 ⟨(h2.klen h.fine h.fine).symm,fun k p q hp hq=>?_⟩
 have:=h2.kid hq hp
 exact ((Xp5 h.fine this.inn.1 this.inn.2).2 this).symm
theorem Xnd (h:Good g) {i:Int} (hi:inL g.l i):Sim g.l (Xat g).l i (Xfa g.l i):=by
 refine⟨fun a b=>inL g.l a/\b=Xfa g.l a,⟨fun a b r=>⟨r.1,by rw[r.2];exact Yq9 h r.1⟩,fun a b r=>?_,fun a b r k p q hp hq=>?_⟩,hi,rfl⟩
 ·obtain⟨ha,rfl⟩:=r
  obtain⟨c,h1,h2,h3⟩:=Xom h ha
  rw[h3]
  refine Xkb h2.fit (Xb1.2 ⟨rfl,rfl,(Xr3 (h.node h1) _).2.symm,?_⟩)
  show _=(List.map _ _).length
  rw[List.length_map];exact (h.fine.klen c).symm
 ·obtain⟨ha,rfl⟩:=r
  rw[Yra h ha,List.getElem?_map,hp] at hq
  exact⟨h.fine.kid _ _ (List.mem_of_getElem? hp),(Option.some.inj hq).symm⟩
def Yyv (l:List Nd):Prop:=∀ a b,Sim l l a b->a=b
theorem X04 (h:Good g):Yyv (Xat g).l:=fun a b r=>by
 obtain⟨i,hi,rfl⟩:=Xon h r.inn.1
 obtain⟨j,hj,rfl⟩:=Xon h r.inn.2
 exact (Xp5 h.fine hi hj).2 (((Xnd h hi).trans h.fine h.whole.fine r).trans h.fine h.whole.fine (Xnd h hj).symm)
noncomputable def Xc0 (g:Gr):Gr:=Xbh (Xat g)
theorem Good.quot (h:Good g):Good (Xc0 g):=h.whole.tidy
theorem Wii (h:Good g) {a:Int} (ha:a∈Xav g):inL (Xbh g).l ((Xav g).idxOf a):=by
 have:=Xrx ha
 exact⟨by omega,by rw[Xeo];omega⟩
theorem Xr5 (h:Good g) {b:Int} (hb:inL (Xbh g).l b):∃ a,a∈Xav g/\((Xav g).idxOf a:Int)=b:=by
 unfold inL at hb
 rw[Xeo] at hb
 obtain⟨a,ha⟩:=Xai (l:=Xav g) (i:=b.toNat) (by omega)
 exact⟨a,List.mem_of_getElem? ha,by rw[Xoh h.wnodup ha];omega⟩
theorem Xp6 (h:Good g) {a:Int} (ha:a∈Xav g):Sim g.l (Xbh g).l a ((Xav g).idxOf a) :=
 (Yq0 h).sim h h.tidy ⟨ha,rfl⟩ (h.wIn a ha) (Wii h ha)
theorem Yf1 (h:Good g) (hd:Yyv g.l):Yyv (Xbh g).l:=fun a b r=>by
 obtain⟨i,hi,rfl⟩:=Xr5 h r.inn.1
 obtain⟨j,hj,rfl⟩:=Xr5 h r.inn.2
 rw[hd _ _ (((Xp6 h hi).trans h.fine h.tidy.fine r).trans h.fine h.tidy.fine (Xp6 h hj).symm)]
theorem Xi9 (h:Good g):Yyv (Xc0 g).l:=Yf1 h.whole (X04 h)
theorem X05 (h:Good g):Sim g.l (Xat g).l g.root (Xat g).root:=Xnd h h.root
theorem Yf2 (h:Good g):Sim g.l (Xbh g).l g.root (Xbh g).root:=by
 have:=Xp6 h h.wroot
 obtain⟨r,hr⟩:=h.whead
 rw[hr] at this
 simpa [Xbh] using this
theorem Xfy (h:Good g):Sim g.l (Xc0 g).l g.root (Xc0 g).root:=(X05 h).trans h.fine h.whole.fine (Yf2 h.whole)
theorem Xja (h:Good g):Xbh (Xc0 g)=Xc0 g:=Ye9 h.whole
theorem Xoo (hg:Good g) (hh:Good h) (dg:Yyv g.l) (dh:Yyv h.l) (r:Sim g.l h.l g.root h.root):Xku g h=true :=
 Yqz hg hh (R:=fun a b=>Sim g.l h.l a b) {
  root:=r
  fit:=fun _ _ r=>r.fit
  kid:=fun a b r q hq=>by
   obtain⟨i,h1,h2⟩:=Yqx hq
   exact r.kid h1 h2
  one:=fun a b c r s=>dh _ _ (r.symm.trans hh.fine hg.fine s)
  inj:=fun a b c r s=>dg _ _ (r.trans hg.fine hh.fine s.symm) }
theorem Yf3 (hg:Good g) (hh:Good h):Sim g.l h.l g.root h.root↔Xc0 g=Xc0 h:=by
 constructor
 ·intro r
  have r':Sim (Xc0 g).l (Xc0 h).l (Xc0 g).root (Xc0 h).root:=((Xfy hg).symm.trans hg.quot.fine hg.fine r).trans hg.quot.fine hh.fine (Xfy hh)
  have:=Xol hg.quot hh.quot (Xoo hg.quot hh.quot (Xi9 hg) (Xi9 hh) r')
  rwa [Xja hg,Xja hh] at this
 ·intro e
  have h1:=Xfy hg
  rw[e] at h1
  exact h1.trans hg.fine hh.quot.fine (Xfy hh).symm
theorem Yf4 (h:Good g):Xc0 (Xc0 g)=Xc0 g:=((Yf3 h h.quot).1 (Xfy h)).symm
theorem Yrb (h:Good g):(Xc0 g).l.length<=g.l.length:=by
 rw[Xc0,Xeo]
 refine Nat.le_trans h.whole.wlen ?_
 rw[Xc9]
 have:=Xi8 (Xaz g.l) 0 0
 rwa [Xd1 h.fine] at this
noncomputable def W79 (g:Gr) (i:Int):Int:=if Xfa g.l i∈Xav (Xat g) then (Xav (Xat g)).idxOf (Xfa g.l i) else -1
noncomputable def Wnq (g:Gr):List Int:=(Xaz g.l).map fun c=>if c∈Xav (Xat g) then ((Xav (Xat g)).idxOf c:Int) else -1
theorem Yrc (h:Fine l):Yyv l↔∀ i:Nat,i < l.length->(Xaz l)[i]?=some (i:Int):=by
 constructor
 ·intro hd
  have ho:=Xkd h
  have hn:∀ i:Nat,i<=l.length->Xeq ((Xaz l).take i) 0=i/\∀ j:Nat,j < i->(Xaz l)[j]?=some (j:Int):=by
   intro i
   induction i with
   | zero=>intro _;exact⟨rfl,fun j hj=>by omega⟩
   | succ i ih =>
    intro hi
    obtain⟨h1,h2⟩:=ih (by omega)
    obtain⟨c,hc⟩:=Xai (l:=Xaz l) (i:=i) (by rw[Xd1 h];omega)
    obtain⟨h3,h4,h5⟩:=Xnc ho hc
    rw[h1] at h4 h5
    by_cases hlt:c < i
    ·exfalso
     have e:=h2 c.toNat (by omega)
     rw[show ((c.toNat:Nat):Int)=c by omega] at e
     have hci:inL l c:=⟨h3,by omega⟩
     have:=hd c i ((Xp4 h hci (Xnb (by omega))).1 (by rw[e,Int.toNat_natCast,hc]))
     omega
    ·rw[if_neg hlt] at h5
     refine⟨h5,fun j hj=>?_⟩
     by_cases e:j=i
     ·subst e;rw[hc];congr 1;omega
     ·exact h2 j (by omega)
  exact (hn l.length (Nat.le_refl _)).2
 ·intro hi a b r
  obtain⟨ha,hb⟩:=r.inn
  have e:=(Xp4 h ha hb).2 r
  unfold inL at ha hb
  rw[hi _ (by omega),hi _ (by omega),Option.some.injEq] at e
  omega
theorem Yrd (h:Good g):Xc0 g=g↔Yyv g.l/\Xbh g=g:=by
 constructor
 ·intro e
  have h1:=Xi9 h
  have h2:=Xja h
  rw[e] at h1 h2
  exact⟨h1,h2⟩
 ·rintro⟨h1,h2⟩
  have:=Xol h h.quot (Xoo h h.quot h1 (Xi9 h) (Xfy h))
  rw[Xja h,h2] at this
  exact this.symm
end
end Go.Fw.L07
