/- Chapter 10,plain: numbers in the order of first appearance; classes that are parted as long as there are more. -/
import Derived.Test.YtakgmpkfpkmkaaaGreatDoorLa
import Derived.Test.YtakgmpkfpkmkaaaGreatDoorVa
import Derived.Test.YtakgmpkfpkmkaaaGreatDoorLb
import Derived.Lib.MapLaws
import Derived.Lib.ItoaLen
import Derived.Test.YtakgmpkfpkmkaaaGreatDoorIa
set_option linter.all false
namespace Go.Fw.L07
open Go Go.Fw
open List renaming getElem?_eq_some_iff->Kr
set_option maxRecDepth 4000
section
variable {α β:Type} [DecidableEq α] [DecidableEq β]
def ddF:List α->List α->List α
 | d,[]=>d
 | d,a::l=>ddF (if a∈d then d else d++[a]) l
def ddp (l:List α):List α:=ddF [] l
theorem Xt8:∀ (l m:List α) (d:List α),ddF d (l++m)=ddF (ddF d l) m
 | [],_,_=>rfl
 | a::l,m,d=>by simp only[List.cons_append,ddF,Xt8 l m]
theorem Xpt (l:List α) (a:α):ddp (l++[a])=if a∈ddp l then ddp l else ddp l++[a]:=by
 unfold ddp;rw[Xt8];rfl
theorem Yd4:∀ (l d:List α) (x:α),x∈ddF d l↔x∈d\/x∈l
 | [],d,x=>by simp[ddF]
 | a::l,d,x=>by
  simp only[ddF,Yd4 l,List.mem_cons]
  split
  ·rename_i h
   constructor
   ·rintro (h1|h1)
    ·exact .inl h1
    ·exact .inr (.inr h1)
   ·rintro (h1|rfl|h1)
    ·exact .inl h1
    ·exact .inl h
    ·exact .inr h1
  ·simp only[List.mem_append,List.mem_singleton,or_assoc]
theorem Xbr {l:List α} {x:α}:x∈ddp l↔x∈l:=by unfold ddp;rw[Yd4];simp
theorem Xr0:∀ (l d:List α),d.Nodup->(ddF d l).Nodup
 | [],_,h=>h
 | a::l,d,h=>by
  simp only[ddF]
  refine Xr0 l _ ?_
  split
  ·exact h
  ·rename_i ha
   rw[List.nodup_append]
   exact⟨h,by simp,fun x hx y hy e=>by simp at hy;subst hy;subst e;exact ha hx⟩
theorem Xmo (l:List α):(ddp l).Nodup:=Xr0 l [] (by simp)
theorem Yd5:∀ (l d:List α),∃ e,ddF d l=d++e
 | [],d=>⟨[],by simp[ddF]⟩
 | a::l,d=>by
  simp only[ddF]
  obtain⟨e,he⟩:=Yd5 l (if a∈d then d else d++[a])
  rw[he]
  split
  ·exact⟨e,rfl⟩
  ·exact⟨a::e,by simp⟩
theorem Wcw (l m:List α):∃ e,ddp (l++m)=ddp l++e:=by unfold ddp;rw[Xt8];exact Yd5 m _
theorem Yd6 (l:List α):(ddp l).length<=l.length:=(Xmo l).length_le_of_subset fun x hx=>Xbr.1 hx
def rkp (l:List α):List Int:=l.map fun a=>((ddp l).idxOf a:Int)
theorem Xjt (l:List α):(rkp l).length=l.length:=by simp[rkp]
theorem Yd7 {d:List α} {a b:α} (ha:a∈d) (hb:b∈d) (h:d.idxOf a=d.idxOf b):a=b:=by
 have h1:=List.getElem_idxOf (List.idxOf_lt_length_iff.2 ha)
 have h2:=List.getElem_idxOf (List.idxOf_lt_length_iff.2 hb)
 rw[<- h1,<- h2]
 congr 1
theorem Xkj {l:List α} {i:Nat} {a:α} (h:l[i]?=some a):(rkp l)[i]?=some ((ddp l).idxOf a:Int):=by unfold rkp;rw[List.getElem?_map,h];rfl
theorem Wsl {l:List α} {i j:Nat} {a b:α} (ha:l[i]?=some a) (hb:l[j]?=some b):(rkp l)[i]?=(rkp l)[j]?↔a=b:=by
 rw[Xkj ha,Xkj hb]
 constructor
 ·intro h
  have h:=Option.some.inj h
  exact Yd7 (Xbr.2 (List.mem_of_getElem? ha)) (Xbr.2 (List.mem_of_getElem? hb)) (by omega)
 ·rintro rfl;rfl
theorem Xym {l:List α} {i n:Nat} {a:α} (h:l[i]?=some a) (hn:i < n):(ddp (l.take n)).idxOf a=(ddp l).idxOf a:=by
 obtain⟨e,he⟩:=Wcw (l.take n) (l.drop n)
 rw[List.take_append_drop] at he
 rw[he,List.idxOf_append,if_pos]
 rw[Xbr]
 exact List.mem_of_getElem? (i:=i) (by rw[List.getElem?_take,if_pos hn];exact h)
theorem Xhj {l:List α} {n:Nat} {a:α} (h:l[n]?=some a):l.take (n+1)=l.take n++[a]:=by rw[List.take_succ,h];rfl
theorem Xgm {l:List α} {n:Nat} {a:α}:a∈l.take n↔∃ i,i < n/\l[i]?=some a:=by
 rw[List.mem_iff_getElem?]
 constructor
 ·rintro⟨i,hi⟩
  rw[List.getElem?_take] at hi
  split at hi
  ·exact⟨i,‹_›,hi⟩
  ·cases hi
 ·rintro⟨i,hi,h⟩
  exact⟨i,by rw[List.getElem?_take,if_pos hi];exact h⟩
theorem Xyn {l:List α} {i:Nat} {a:α} (h:l[i]?=some a):if a∈l.take i then (ddp l).idxOf a < (ddp (l.take i)).length/\ddp (l.take (i+1))=ddp (l.take i) else (ddp l).idxOf a=(ddp (l.take i)).length/\ddp (l.take (i+1))=ddp (l.take i)++[a]:=by
 have h1:=Xym h (Nat.lt_succ_self i)
 have h2:ddp (l.take (i+1))=if a∈ddp (l.take i) then ddp (l.take i) else ddp (l.take i)++[a]:=by rw[Xhj h,Xpt]
 split
 ·rename_i hm
  rw[if_pos (Xbr.2 hm)] at h2
  exact⟨by rw[<- h1,h2];exact List.idxOf_lt_length_iff.2 (Xbr.2 hm),h2⟩
 ·rename_i hm
  rw[if_neg (fun hx=>hm (Xbr.1 hx))] at h2
  refine⟨?_,h2⟩
  rw[<- h1,h2,List.idxOf_append,if_neg (fun hx=>hm (Xbr.1 hx))]
  simp
theorem Xt9 {l:List α} {m:List β} (hl:l.length=m.length) (hk:∀ i j:Nat,i < l.length->j < l.length->(l[i]?=l[j]?↔m[i]?=m[j]?)):rkp l=rkp m:=by
 have key:∀ n,n<=l.length->(ddp (l.take n)).length=(ddp (m.take n)).length/\∀ (i:Nat) (a:α) (b:β),i < n->l[i]?=some a->m[i]?=some b->(ddp (l.take n)).idxOf a=(ddp (m.take n)).idxOf b:=by
  intro n
  induction n with
  | zero=>intro _;exact⟨by simp[ddp,ddF],fun i a b hi=>by omega⟩
  | succ n ih =>
   intro hn
   obtain⟨h1,h2⟩:=ih (by omega)
   obtain⟨a,ha⟩:=Xal (l:=l) (i:=n) (by omega)
   obtain⟨b,hb⟩:=Xal (l:=m) (i:=n) (by omega)
   have hm:a∈ddp (l.take n)↔b∈ddp (m.take n):=by
    rw[Xbr,Xbr,Xgm,Xgm]
    constructor
    ·rintro⟨i,hi,h⟩
     exact⟨i,hi,by rw[<- hb];exact (hk i n (by omega) (by omega)).1 (by rw[h,ha])⟩
    ·rintro⟨i,hi,h⟩
     exact⟨i,hi,by rw[<- ha];exact (hk i n (by omega) (by omega)).2 (by rw[h,hb])⟩
   rw[Xhj ha,Xhj hb,Xpt,Xpt]
   by_cases hma:a∈ddp (l.take n)
   ·rw[if_pos hma,if_pos (hm.1 hma)]
    refine⟨h1,fun i a' b' hi ha' hb'=>?_⟩
    by_cases hin:i < n
    ·exact h2 i a' b' hin ha' hb'
    ·obtain rfl:i=n:=by omega
     rw[ha] at ha';rw[hb] at hb';cases ha';cases hb'
     rw[Xbr,Xgm] at hma
     obtain⟨j,hj,hja⟩:=hma
     obtain⟨c,hc⟩:=Xal (l:=m) (i:=j) (by omega)
     have:=h2 j a c hj hja hc
     rw[this]
     have:m[j]?=m[i]?:=(hk j i (by omega) (by omega)).1 (by rw[hja,ha])
     rw[hc,hb] at this
     cases this;rfl
   ·rw[if_neg hma,if_neg (fun h=>hma (hm.2 h))]
    refine⟨by simp[h1],fun i a' b' hi ha' hb'=>?_⟩
    rw[List.idxOf_append,List.idxOf_append]
    by_cases hin:i < n
    ·rw[if_pos (Xbr.2 (Xgm.2 ⟨i,hin,ha'⟩)),if_pos (Xbr.2 (Xgm.2 ⟨i,hin,hb'⟩))]
     exact h2 i a' b' hin ha' hb'
    ·obtain rfl:i=n:=by omega
     rw[ha] at ha';rw[hb] at hb';cases ha';cases hb'
     rw[if_neg hma,if_neg (fun h=>hma (hm.2 h)),h1]
     simp
 apply List.ext_getElem?
 intro i
 by_cases hi:i < l.length
 ·obtain⟨a,ha⟩:=Xal hi
  obtain⟨b,hb⟩:=Xal (l:=m) (i:=i) (by omega)
  rw[Xkj ha,Xkj hb]
  have:=(key l.length (Nat.le_refl _)).2 i a b hi ha hb
  rw[List.take_length,hl,List.take_length] at this
  rw[this]
 ·rw[List.getElem?_eq_none (by rw[Xjt];omega),List.getElem?_eq_none (by rw[Xjt];omega)]
theorem Xyo {l:List α} {m:List β} (hl:l.length=m.length) (hf:∀ i j:Nat,i < l.length->j < l.length->l[i]?=l[j]?->m[i]?=m[j]?) (hc:(ddp l).length<=(ddp m).length) :
  ∀ i j:Nat,i < l.length->j < l.length->m[i]?=m[j]?->l[i]?=l[j]?:=by
 intro i j hi hj hm
 obtain⟨a,ha⟩:=Xal hi
 obtain⟨b,hb⟩:=Xal hj
 rw[ha,hb]
 obtain⟨y,hy⟩:=Xal (l:=m) (i:=i) (by omega)
 -- each name's first place;names there
 have hrep:∀ z∈ddp m,∃ x:α,∃ k:Nat,l[k]?=some x/\m[k]?=some z:=fun z hz=>by
  obtain⟨k,hk⟩:=List.mem_iff_getElem?.1 (Xbr.1 hz)
  obtain⟨x,hx⟩:=Xal (l:=l) (i:=k) (by rw[hl];exact (Kr.1 hk).1)
  exact⟨x,k,hx,hk⟩
 have hd:∃ f:β->α,∀ z∈ddp m,∃ k:Nat,l[k]?=some (f z)/\m[k]?=some z:=by
  classical
  refine⟨fun z=>if h:z∈ddp m then Classical.choose (hrep z h) else a,fun z hz=>?_⟩
  simp only[dif_pos hz]
  exact Classical.choose_spec (hrep z hz)
 obtain⟨f,hfz⟩:=hd
 have hinj:∀ z∈ddp m,∀ z'∈ddp m,f z=f z'->z=z':=fun z hz z' hz' e=>by
  obtain⟨k,h1,h2⟩:=hfz z hz
  obtain⟨k',h3,h4⟩:=hfz z' hz'
  have:=hf k k' (Kr.1 h1).1 (Kr.1 h3).1 (by rw[h1,h3,e])
  rw[h2,h4] at this
  exact Option.some.inj this
 have hnd:((ddp m).map f).Nodup:=by
  rw[List.Nodup,List.pairwise_map]
  have:=Xmo m
  rw[List.Nodup] at this
  exact List.Pairwise.imp_of_mem (fun {x y} hx hy hne e=>hne (hinj x hx y hy e)) this
 have hsub:(ddp m).map f ⊆ ddp l:=fun x hx=>by
  obtain⟨z,hz,rfl⟩:=List.mem_map.1 hx
  obtain⟨k,h1,_⟩:=hfz z hz
  exact Xbr.2 (List.mem_of_getElem? h1)
 -- all names are there
 have hall:∀ x∈ddp l,x∈(ddp m).map f:=fun x hx=>by
  by_cases hxm:x∈(ddp m).map f
  ·exact hxm
  ·exfalso
   have h1:(x::(ddp m).map f).Nodup:=List.nodup_cons.2 ⟨hxm,hnd⟩
   have h2:=h1.length_le_of_subset (l₂:=ddp l) (fun y hy=>by
    rcases List.mem_cons.1 hy with rfl|hy
    ·exact hx
    ·exact hsub hy)
   simp at h2
   omega
 have get:∀ (k:Nat) (x:α),l[k]?=some x->m[k]?=some y->x=f y:=fun k x hx hk=>by
  obtain⟨z,hz,hzx⟩:=List.mem_map.1 (hall x (Xbr.2 (List.mem_of_getElem? hx)))
  obtain⟨k',h1,h2⟩:=hfz z hz
  have:=hf k k' (Kr.1 hx).1 (Kr.1 h1).1 (by rw[hx,h1,hzx])
  rw[hk,h2] at this
  rw[<- hzx,Option.some.inj this]
 rw[get i a ha hy,get j b hb (by rw[<- hm];exact hy)]
theorem Xyp {l:List α} {m:List β} (hl:l.length=m.length) (hf:∀ i j:Nat,i < l.length->j < l.length->l[i]?=l[j]?->m[i]?=m[j]?):(ddp m).length<=(ddp l).length:=by
 by_cases h:(ddp m).length<=(ddp l).length
 ·exact h
 ·have hk:=Xyo hl hf (by omega)
  have e:rkp l=rkp m:=Xt9 hl fun i j hi hj=>⟨hf i j hi hj,hk i j hi hj⟩
  have hsub:∀ z∈ddp m,∃ k:Nat,m[k]?=some z:=fun z hz=>List.mem_iff_getElem?.1 (Xbr.1 hz)
  -- the last name's number
  have hpos:0 < (ddp m).length:=by omega
  obtain⟨z,hz⟩:=Xal (l:=ddp m) (i:=(ddp m).length - 1) (by omega)
  obtain⟨k,hkz⟩:=hsub z (List.mem_of_getElem? hz)
  obtain⟨x,hx⟩:=Xal (l:=l) (i:=k) (by rw[hl];exact (Kr.1 hkz).1)
  have h1:=Xkj hx
  have h2:=Xkj hkz
  rw[e,h2] at h1
  have h3:=Option.some.inj h1
  have h4:(ddp l).idxOf x < (ddp l).length:=List.idxOf_lt_length_iff.2 (Xbr.2 (List.mem_of_getElem? hx))
  have h5:(ddp m).idxOf z=(ddp m).length - 1:=by
   obtain⟨hlt,he⟩:=Kr.1 hz
   rw[<- he]
   exact (Xmo m).idxOf_getElem _ hlt
  omega
end
section
variable {σ:Type} [DecidableEq σ] (f:List Int->List σ)
def rnd (c:List Int):List Int:=rkp (f c)
def cnt (c:List Int):Nat:=(ddp (f c)).length
def Xgy:Nat->Nat->Nat->List Int->List Int
 | 0,_,_,c=>c
 | k+1,n,m,c=>if n < m then Xgy k m (cnt f c) (rnd f c) else c
variable {f} {n:Nat}
def Yd8 (n:Nat) (c d:List Int):Prop:=∀ i j:Nat,i < n->j < n->c[i]?=c[j]?->d[i]?=d[j]?
structure Parts (f:List Int->List σ) (n:Nat):Prop where
 len:∀ c,(f c).length=n
 mono:∀ c d,Yd8 n c d->∀ i j:Nat,i < n->j < n->(f c)[i]?=(f c)[j]?->(f d)[i]?=(f d)[j]?
theorem Parts.rlen (h:Parts f n) (c:List Int):(rnd f c).length=n:=by unfold rnd;rw[Xjt,h.len]
theorem Parts.ker (h:Parts f n) (c:List Int) {i j:Nat} (hi:i < n) (hj:j < n):(rnd f c)[i]?=(rnd f c)[j]?↔(f c)[i]?=(f c)[j]?:=by
 obtain⟨a,ha⟩:=Xal (l:=f c) (i:=i) (by rw[h.len];exact hi)
 obtain⟨b,hb⟩:=Xal (l:=f c) (i:=j) (by rw[h.len];exact hj)
 unfold rnd
 rw[Wsl ha hb,ha,hb]
 exact⟨fun e=>by rw[e],fun e=>Option.some.inj e⟩
theorem Parts.up (h:Parts f n) {c d:List Int} (hk:Yd8 n c d):Yd8 n (rnd f c) (rnd f d):=fun i j hi hj e=>(h.ker d hi hj).2 (h.mono c d hk i j hi hj ((h.ker c hi hj).1 e))
theorem Parts.cnt_le (h:Parts f n) (c:List Int):cnt f c<=n:=by have:=Yd6 (f c);rw[h.len] at this;exact this
theorem Parts.same (h:Parts f n) {c:List Int} (hk:Yd8 n (rnd f (rnd f c)) (rnd f c)) (hc:cnt f (rnd f c)<=cnt f c):rnd f (rnd f c)=rnd f c:=by
 have hf:∀ i j:Nat,i < n->j < n->(f (rnd f c))[i]?=(f (rnd f c))[j]?->(f c)[i]?=(f c)[j]?:=fun i j hi hj e=>(h.ker c hi hj).1 (hk i j hi hj ((h.ker _ hi hj).2 e))
 have hl:(f (rnd f c)).length=(f c).length:=by rw[h.len,h.len]
 have hs:=Xyo hl (fun i j hi hj=>by rw[h.len] at hi hj;exact hf i j hi hj) hc
 exact Xt9 hl fun i j hi hj=>⟨by rw[h.len] at hi hj;exact hf i j hi hj,hs i j hi hj⟩
theorem Parts.end_ (h:Parts f n):∀ (k nn m:Nat) (c c':List Int),m=cnt f c'->c=rnd f c'->Yd8 n c c'->n+1<=k+nn->nn<=n->(nn=0\/∃ c'',c'=rnd f c''/\nn=cnt f c'')->rnd f (Xgy f k nn m c)=Xgy f k nn m c
 | 0,nn,m,c,c',_,_,_,h4,h5,_=>by omega
 | k+1,nn,m,c,c',h1,h2,h3,h4,h5,h6=>by
  simp only[Xgy]
  split
  ·rename_i hlt
   have hm:=h.cnt_le c'
   exact Parts.end_ h k m (cnt f c) (rnd f c) c rfl rfl (by rw[h2];exact h.up (by rw[<- h2];exact h3)) (by omega) (by omega) (.inr ⟨c',h2,h1⟩)
  ·rename_i hge
   rcases h6 with h6|⟨c'',h6,h7⟩
   ·have h0:cnt f c'=0:=by omega
    have hn:n=0:=by
     rcases Nat.eq_zero_or_pos n with e|e
     ·exact e
     ·exfalso
      obtain⟨a,ha⟩:=Xal (l:=f c') (i:=0) (by rw[h.len];exact e)
      have:=List.length_pos_of_mem (Xbr.2 (List.mem_of_getElem? ha))
      unfold cnt at h0
      omega
    have e1:(rnd f c).length=0:=by rw[h.rlen,hn]
    have e2:c.length=0:=by rw[h2,h.rlen,hn]
    rw[List.eq_nil_of_length_eq_zero e1,List.eq_nil_of_length_eq_zero e2]
   ·have:=h.same (c:=c'') (by rw[<- h6,<- h2];exact h3) (by rw[<- h6,<- h1,<- h7];omega)
    rw[<- h6,<- h2] at this
    rw[this]
    exact h2.symm.trans this
theorem Xmp (I:List Int->Prop) (hI:∀ c,I c->I (rnd f c)):∀ (k nn m:Nat) (c:List Int),I c->I (Xgy f k nn m c)
 | 0,_,_,_,h=>h
 | k+1,nn,m,c,h=>by
  simp only[Xgy]
  split
  ·exact Xmp I hI k m _ _ (hI c h)
  ·exact h
theorem Parts.fuel (h:Parts f n):∀ (k k' nn m:Nat) (c:List Int),m<=n->n+1<=k+nn->n+1<=k'+nn->Xgy f k nn m c=Xgy f k' nn m c
 | 0,0,_,_,_,_,_,_=>rfl
 | 0,k'+1,nn,m,c,h1,h2,h3=>by simp only[Xgy];rw[if_neg (by omega)]
 | k+1,0,nn,m,c,h1,h2,h3=>by simp only[Xgy];rw[if_neg (by omega)]
 | k+1,k'+1,nn,m,c,h1,h2,h3=>by
  simp only[Xgy]
  split
  ·exact Parts.fuel h k k' m _ _ (h.cnt_le c) (by omega) (by omega)
  ·rfl
end
def Wsm (l:List UInt8):Nat:=l.foldl (fun a b=>a*10+(b.toNat - 48)) 0
theorem Yn8 {n:Nat} (h:n < 256):(UInt8.ofNat n).toNat=n:=by simp;omega
theorem Xk1 (u:Nat):Wsm (Lib.decDigits u)=u:=by
 induction u using Nat.strongRecOn with
 | _ u ih =>
  rw[Lib.decDigits]
  split
  ·unfold Wsm
   simp only[List.foldl_cons,List.foldl_nil]
   rw[Yn8 (by omega)];omega
  ·have:=ih (u / 10) (by omega)
   unfold Wsm at this ⊢
   rw[List.foldl_append,this]
   simp only[List.foldl_cons,List.foldl_nil]
   rw[Yn8 (by omega)];omega
theorem Xk2 (u:Nat):∀ b∈Lib.decDigits u,48<=b.toNat/\b.toNat<=57:=by
 induction u using Nat.strongRecOn with
 | _ u ih =>
  intro b hb
  rw[Lib.decDigits] at hb
  split at hb
  ·simp only[List.mem_singleton] at hb
   subst hb
   rw[Yn8 (by omega)];omega
  ·rcases List.mem_append.1 hb with hb|hb
   ·exact ih (u / 10) (by omega) b hb
   ·simp only[List.mem_singleton] at hb
    subst hb
    rw[Yn8 (by omega)];omega
theorem Yd9 (u:Nat):Lib.decDigits u≠[]:=by
 rw[Lib.decDigits];split <;> simp
theorem Xf5 (n:Int):∀ b∈Lib.itoa n,b=45\/(48<=b.toNat/\b.toNat<=57):=by
 intro b hb
 unfold Lib.itoa at hb
 split at hb
 ·rcases List.mem_cons.1 hb with rfl|hb
  ·exact .inl rfl
  ·exact .inr (Xk2 _ b hb)
 ·exact .inr (Xk2 _ b hb)
theorem Yea (n:Int):Lib.itoa n≠[]:=by
 unfold Lib.itoa;split
 ·simp
 ·exact Yd9 _
theorem Xpu {a b:Int} (h:Lib.itoa a=Lib.itoa b):a=b:=by
 have no:∀ (u:Nat) (t:List UInt8),Lib.decDigits u≠45::t:=fun u t e=>by
  have:=Xk2 u 45 (by rw[e];simp)
  revert this;decide
 unfold Lib.itoa at h
 split at h <;> split at h
 ·have:=congrArg Wsm (List.cons.inj h).2
  rw[Xk1,Xk1] at this;omega
 ·exact absurd h.symm (no _ _)
 ·exact absurd h (no _ _)
 ·have:=congrArg Wsm h
  rw[Xk1,Xk1] at this;omega
theorem Xhk:∀ {t t' u v:List UInt8},44 ∉ t->44 ∉ t'->t++44::u=t'++44::v->t=t'/\u=v
 | [],[],u,v,_,_,h=>⟨rfl,(List.cons.inj h).2⟩
 | [],b::t',u,v,_,h',h=>absurd (List.cons.inj h).1 (fun e=>h' (by rw[<- e];simp))
 | a::t,[],u,v,h',_,h=>absurd (List.cons.inj h).1 (fun e=>h' (by rw[e];simp))
 | a::t,b::t',u,v,h1,h2,h=>by
  obtain⟨e1,e2⟩:=List.cons.inj h
  obtain⟨e3,e4⟩:=Xhk (fun k=>h1 (List.mem_cons_of_mem _ k)) (fun k=>h2 (List.mem_cons_of_mem _ k)) e2
  exact⟨by rw[e1,e3],e4⟩
theorem Xju (n:Int):44 ∉ Lib.itoa n:=fun h=>by
 have:=Xf5 n 44 h
 revert this;decide
theorem Xpv {α:Type} {e:α->List UInt8} {P:α->Prop} (hne:∀ x,e x≠[]) (h:∀ x y u v,P x->P y->e x++u=e y++v->x=y/\u=v) :
  ∀ {A B:List α},(∀ x∈A,P x)->(∀ x∈B,P x)->A.flatMap e=B.flatMap e->A=B
 | [],[],_,_,_=>rfl
 | [],b::B,_,_,hh=>by
  exfalso
  rw[List.flatMap_cons] at hh
  exact hne b (List.append_eq_nil_iff.1 hh.symm).1
 | a::A,[],_,_,hh=>by
  exfalso
  rw[List.flatMap_cons] at hh
  exact hne a (List.append_eq_nil_iff.1 hh).1
 | a::A,b::B,ha,hb,hh=>by
  rw[List.flatMap_cons,List.flatMap_cons] at hh
  obtain⟨e1,e2⟩:=h a b _ _ (ha a (by simp)) (hb b (by simp)) hh
  rw[e1,Xpv hne h (fun x hx=>ha x (List.mem_cons_of_mem _ hx)) (fun x hx=>hb x (List.mem_cons_of_mem _ hx)) e2]
def Xgz (l:List Int):List UInt8:=l.flatMap fun n=>Lib.itoa n++[44]
theorem Yeb {A B:List Int} (h:Xgz A=Xgz B):A=B:=by
 refine Xpv (P:=fun _=>True) (fun x=>by simp) (fun x y u v _ _ h=>?_) (fun _ _=>trivial) (fun _ _=>trivial) h
 simp only[List.append_assoc,List.singleton_append] at h
 obtain⟨e1,e2⟩:=Xhk (Xju x) (Xju y) h
 exact⟨Xpu e1,e2⟩
def okR (r:Int):Prop:=0<=r/\r<=1114111/\¬ (55296<=r/\r<=57343)
theorem Xfm {a b:Int} (ha:0<=a/\a < 256) (hb:0<=b/\b < 256) (h:a.toNat.toUInt8=b.toNat.toUInt8):a=b:=by
 have:=congrArg UInt8.toNat h
 simp only[Nat.toUInt8_eq,UInt8.toNat_ofNat'] at this
 omega
theorem Xua {r r':Int} (h:okR r) (h':okR r') {x y:List UInt8} (e:Lib.encodeRune r++x=Lib.encodeRune r'++y):r=r'/\x=y:=by
 unfold okR at h h'
 have sz:∀ r:Int,0<=r/\r<=1114111/\¬ (55296<=r/\r<=57343) ->
   (r<=127/\Lib.encodeRuneZ r=[r])\/(128<=r/\r<=2047/\Lib.encodeRuneZ r=[192+r / 64,128+r % 64]) \/
   (2048<=r/\r<=65535/\Lib.encodeRuneZ r=[224+r / 4096,128+r / 64 % 64,128+r % 64]) \/
   (65536<=r/\Lib.encodeRuneZ r=[240+r / 262144,128+r / 4096 % 64,128+r / 64 % 64,128+r % 64]):=fun r h=>by
  by_cases h1:r<=127
  ·exact .inl ⟨h1,Lib.encodeRuneZ_one (by omega) h1⟩
  ·by_cases h2:r<=2047
   ·exact .inr (.inl ⟨by omega,h2,Lib.encodeRuneZ_two (by omega) h2⟩)
   ·by_cases h3:r<=65535
    ·exact .inr (.inr (.inl ⟨by omega,h3,Lib.encodeRuneZ_three (by omega)⟩))
    ·exact .inr (.inr (.inr ⟨by omega,Lib.encodeRuneZ_four (by omega) (by omega)⟩))
 unfold Lib.encodeRune at e
 rcases sz r h with ⟨h1,e1⟩|⟨h1,h2,e1⟩|⟨h1,h2,e1⟩|⟨h1,e1⟩ <;> rcases sz r' h' with ⟨k1,e2⟩|⟨k1,k2,e2⟩|⟨k1,k2,e2⟩|⟨k1,e2⟩ <;> rw[e1,e2] at e <;>
  simp only[List.map_cons,List.map_nil,List.cons_append,List.nil_append,List.cons.injEq] at e
 all_goals first
  | (exfalso;have:=Xfm (by omega) (by omega) e.1;omega)
  | (obtain⟨a1,a2,a3,a4,a5⟩:=e
     have b1:=Xfm (by omega) (by omega) a1
     have b2:=Xfm (by omega) (by omega) a2
     have b3:=Xfm (by omega) (by omega) a3
     have b4:=Xfm (by omega) (by omega) a4
     exact⟨by omega,a5⟩)
  | (obtain⟨a1,a2,a3,a4⟩:=e
     have b1:=Xfm (by omega) (by omega) a1
     have b2:=Xfm (by omega) (by omega) a2
     have b3:=Xfm (by omega) (by omega) a3
     exact⟨by omega,a4⟩)
  | (obtain⟨a1,a2,a3⟩:=e
     have b1:=Xfm (by omega) (by omega) a1
     have b2:=Xfm (by omega) (by omega) a2
     exact⟨by omega,a3⟩)
  | (obtain⟨a1,a2⟩:=e
     have b1:=Xfm (by omega) (by omega) a1
     exact⟨by omega,a2⟩)
def Xd5 (l:List Int):List UInt8:=l.flatMap Lib.encodeRune
theorem Xyq:∀ {A B:List Int} {x y:List UInt8},(∀ r∈A,okR r)->(∀ r∈B,okR r)->Xd5 A++x=Xd5 B++y->(∃ t,B=A++t/\x=Xd5 t++y)\/∃ t,A=B++t/\y=Xd5 t++x
 | [],B,x,y,_,_,h=>.inl ⟨B,rfl,by simpa [Xd5] using h⟩
 | a::A,[],x,y,_,_,h=>.inr ⟨a::A,rfl,by simpa [Xd5] using h.symm⟩
 | a::A,b::B,x,y,ha,hb,h=>by
  simp only[Xd5,List.flatMap_cons,List.append_assoc] at h
  obtain⟨e1,e2⟩:=Xua (ha a (by simp)) (hb b (by simp)) h
  subst e1
  rcases Xyq (fun r hr=>ha r (List.mem_cons_of_mem _ hr)) (fun r hr=>hb r (List.mem_cons_of_mem _ hr)) e2 with ⟨t,h1,h2⟩|⟨t,h1,h2⟩
  ·exact .inl ⟨t,by rw[h1];rfl,h2⟩
  ·exact .inr ⟨t,by rw[h1];rfl,h2⟩
def sgF (s:ByteArray):Nat->Nat->List Int
 | 0,_=>[]
 | f+1,p=>if p < s.size then ((Utf8.decode s p).1:Int)::sgF s f (p+(Utf8.decode s p).2) else []
def sgS (s:ByteArray):List Int:=sgF s s.size 0
theorem Wsn {s:ByteArray} {f p:Nat} (h:¬ p < s.size):sgF s f p=[]:=by
 cases f with
 | zero=>rfl
 | succ f=>simp only[sgF,if_neg h]
theorem Xf6 {s:ByteArray} {p:Nat} (h:p < s.size):s.data.toList.drop p≠[]:=by
 intro e
 have:=congrArg List.length e
 simp at this
 have:s.data.size=s.size:=rfl
 omega
theorem Wso {s:ByteArray} {p:Nat} (hp:p < s.size) (hv:¬ ((Utf8.decode s p).1=65533/\(Utf8.decode s p).2=1)):okR ((Utf8.decode s p).1:Int):=by
 have h0:=Lib.decodeL_drop s p
 have hne:=Xf6 hp
 have h1:=Lib.decodeL_N (s.data.toList.drop p)
 have hl:1<=(s.data.toList.drop p).length:=List.length_pos_iff.2 hne
 have h2:=Wbo hl ((s.data.toList.drop p).getD 0 0).toNat_lt ((s.data.toList.drop p).getD 1 0).toNat_lt ((s.data.toList.drop p).getD 2 0).toNat_lt ((s.data.toList.drop p).getD 3 0).toNat_lt
 rw[<- h1,h0,if_neg hv] at h2
 have hw:=Lib.decode_width_pos s p hp
 unfold Ywq at h2
 split at h2
 ·rw[<- h2] at hw;simp at hw
 ·split at h2
  ·rename_i hs
   rw[Bool.and_eq_true] at hs
   have:=of_decide_eq_true hs.1
   rw[<- h2]
   unfold okR
   dsimp only
   omega
  ·rw[<- h2] at hw;simp at hw
theorem Xyr {s:ByteArray}:∀ {f p:Nat},Xbu s f p=true->∀ r∈sgF s f p,okR r
 | 0,_,_,r,hr=>by cases hr
 | f+1,p,h,r,hr=>by
  simp only[Xbu,sgF] at h hr
  split at hr
  ·rename_i hp
   rw[if_pos hp] at h
   split at h
   ·cases h
   ·rename_i hv
    rcases List.mem_cons.1 hr with rfl|hr
    ·exact Wso hp hv
    ·exact Xyr h r hr
  ·cases hr
theorem Xmq {s:ByteArray}:∀ {f p:Nat},Xbu s f p=true->s.size - p<=f->Xd5 (sgF s f p)=s.data.toList.drop p
 | 0,p,_,h=>by
  have:s.data.toList.drop p=[]:=List.drop_of_length_le (by
   have:s.data.toList.length=s.size:=by simp
   omega)
  rw[this];rfl
 | f+1,p,h,hf=>by
  simp only[Xbu,sgF] at h ⊢
  split
  ·rename_i hp
   rw[if_pos hp] at h
   split at h
   ·cases h
   ·rename_i hv
    have hw:=Lib.decode_width_pos s p hp
    have ih:=Xmq h (by omega)
    have h0:=Lib.decodeL_drop s p
    have he:=Lib.encode_decode (s.data.toList.drop p) (Xf6 hp) (by rw[h0];exact hv)
    rw[h0] at he
    simp only[Xd5,List.flatMap_cons] at ih ⊢
    rw[ih,he,<- List.drop_drop,List.take_append_drop]
  ·rename_i hp
   have:s.data.toList.drop p=[]:=List.drop_of_length_le (by
    have:s.data.toList.length=s.size:=by simp
    omega)
   rw[this];rfl
theorem Wcx {s t:ByteArray} (hs:Xak s=true) (ht:Xak t=true) (h:sgS s=sgS t):s=t:=by
 have h1:=Xmq (p:=0) hs (by omega)
 have h2:=Xmq (p:=0) ht (by omega)
 unfold sgS at h
 rw[h,h2] at h1
 simp only[List.drop_zero] at h1
 cases s;cases t
 simp only[ByteArray.mk.injEq]
 exact (Array.toList_inj.1 h1).symm
def Xys (n:Int):Int:=if n < 10 then 48+n else 87+n
def pcR (r:Int):List Int :=
 if r=10 then [92,110] else if r=9 then [92,116] else if r=13 then [92,114]
 else if r=34\/r=92 then [92,r] else if 32<=r/\r≠127 then [r] else [92,120,Xys (r / 16),Xys (r % 16)]
theorem X1l {r:Int} (h:okR r):∀ x∈pcR r,okR x:=by
 unfold okR at h
 have k:∀ x:Int,0<=x->x<=127->okR x:=fun x h1 h2=>by unfold okR;omega
 unfold pcR
 intro x hx
 split at hx
 ·simp only[List.mem_cons,List.not_mem_nil,or_false] at hx;exact k x (by omega) (by omega)
 ·split at hx
  ·simp only[List.mem_cons,List.not_mem_nil,or_false] at hx;exact k x (by omega) (by omega)
  ·split at hx
   ·simp only[List.mem_cons,List.not_mem_nil,or_false] at hx;exact k x (by omega) (by omega)
   ·split at hx
    ·simp only[List.mem_cons,List.not_mem_nil,or_false] at hx;exact k x (by omega) (by omega)
    ·split at hx
     ·simp only[List.mem_singleton] at hx;subst hx;exact h
     ·simp only[List.mem_cons,List.not_mem_nil,or_false] at hx
      unfold Xys at hx
      refine k x ?_ ?_
      ·split at hx <;> split at hx <;> omega
      ·split at hx <;> split at hx <;> omega
theorem Yxo {r r':Int} {t:List Int} (h0:0<=r) (h1:0<=r') (h:pcR r'=pcR r++t):r=r'/\t=[]:=by
 unfold pcR Xys at h
 (repeat' split at h) <;> simp only[List.cons_append,List.nil_append,List.cons.injEq,List.nil_eq,reduceCtorEq,and_false,false_and] at h <;> first|(exfalso;omega)|exact⟨by omega,by simp_all⟩
theorem Yec {r:Int}:∃ a t,pcR r=a::t/\a≠34:=by
 unfold pcR
 (repeat' split) <;> exact⟨_,_,rfl,by omega⟩
theorem Yed:∀ {A B:List Int} {x y:List UInt8},(∀ r∈A,okR r)->(∀ r∈B,okR r)->Xd5 (A.flatMap pcR)++34::x=Xd5 (B.flatMap pcR)++34::y->A=B/\x=y
 | [],[],x,y,_,_,h=>⟨rfl,(List.cons.inj h).2⟩
 | [],b::B,x,y,_,hb,h=>by
  exfalso
  obtain⟨a,t,e1,e2⟩:=Yec (r:=b)
  have ok:okR a:=X1l (hb b (by simp)) a (by rw[e1];simp)
  rw[List.flatMap_cons,e1] at h
  have h34:Lib.encodeRune 34=[34]:=by decide
  have:=Xua (r:=34) (r':=a) (x:=x) (y:=Xd5 (t++B.flatMap pcR)++34::y) (by unfold okR;omega) ok (by
   rw[h34];simpa [Xd5] using h)
  exact e2 this.1.symm
 | a::A,[],x,y,ha,_,h=>by
  exfalso
  obtain⟨b,t,e1,e2⟩:=Yec (r:=a)
  have ok:okR b:=X1l (ha a (by simp)) b (by rw[e1];simp)
  rw[List.flatMap_cons,e1] at h
  have h34:Lib.encodeRune 34=[34]:=by decide
  have:=Xua (r:=34) (r':=b) (x:=y) (y:=Xd5 (t++A.flatMap pcR)++34::x) (by unfold okR;omega) ok (by
   rw[h34];simpa [Xd5] using h.symm)
  exact e2 this.1.symm
 | a::A,b::B,x,y,ha,hb,h=>by
  have oa:=ha a (by simp)
  have ob:=hb b (by simp)
  simp only[List.flatMap_cons,Xd5,List.flatMap_append,List.append_assoc] at h
  have key:a=b:=by
   rcases Xyq (A:=pcR a) (B:=pcR b) (X1l oa) (X1l ob) h with ⟨t,h1,_⟩|⟨t,h1,_⟩
   ·exact (Yxo oa.1 ob.1 h1).1
   ·exact (Yxo ob.1 oa.1 h1).1.symm
  subst key
  obtain⟨e1,e2⟩:=Yed (fun r hr=>ha r (List.mem_cons_of_mem _ hr)) (fun r hr=>hb r (List.mem_cons_of_mem _ hr)) (List.append_cancel_left h)
  exact⟨by rw[e1],e2⟩
def Xub (s:ByteArray):List UInt8:=34::(Xd5 ((sgS s).flatMap pcR)++[34])
theorem Xyt {s t:ByteArray} {x y:List UInt8} (hs:Xak s=true) (ht:Xak t=true) (h:Xub s++x=Xub t++y):s=t/\x=y:=by
 unfold Xub at h
 simp only[List.cons_append,List.cons.injEq,true_and,List.append_assoc,List.singleton_append,List.nil_append] at h
 obtain⟨e1,e2⟩:=Yed (Xyr hs) (Xyr ht) h
 exact⟨Wcx hs ht e1,e2⟩
def Xf7 (b:Bool):List UInt8:=if b then [116,114,117,101] else [102,97,108,115,101]
def scB (x:Sc):List UInt8 :=
 if x.k=0 then [110,117,108,108] else if x.k=1 then Xf7 (decide (x.n=1)) else if x.k=2 then Lib.itoa x.n else Xub x.s
theorem Xcd {R:ByteArray->Bool} {x:Sc} (h:prR R x=true):(x.k=0/\x=⟨0,0,⟨#[]⟩⟩)\/(x.k=1/\x.s=⟨#[]⟩/\(x.n=0\/x.n=1))\/(x.k=2/\x.s=⟨#[]⟩/\-Xme<=x.n/\x.n<=Xme)\/(x.k=3/\x.n=0/\R x.s=true):=by
 unfold prR at h
 split at h
 ·exact .inl ⟨‹_›,of_decide_eq_true h⟩
 ·split at h
  ·simp only[Bool.and_eq_true,Bool.or_eq_true,decide_eq_true_eq] at h
   exact .inr (.inl ⟨‹_›,h⟩)
  ·split at h
   ·simp only[Bool.and_eq_true,decide_eq_true_eq] at h
    exact .inr (.inr (.inl ⟨‹_›,h⟩))
   ·split at h
    ·simp only[Bool.and_eq_true,decide_eq_true_eq] at h
     exact .inr (.inr (.inr ⟨‹_›,h⟩))
    ·cases h
theorem Xgn {x:Sc} (h:prR Xak x=true) (hk:x.k≠3):44 ∉ scB x/\∃ b t,scB x=b::t/\b≠34:=by
 unfold scB Xf7
 rcases Xcd h with ⟨h1,h2⟩|⟨h1,h2,h3⟩|⟨h1,h2,h3⟩|⟨h1,_⟩
 ·rw[if_pos h1];exact⟨by decide,_,_,rfl,by decide⟩
 ·rw[if_neg (by omega),if_pos h1]
  split
  ·exact⟨by decide,_,_,rfl,by decide⟩
  ·exact⟨by decide,_,_,rfl,by decide⟩
 ·rw[if_neg (by omega),if_neg (by omega),if_pos h1]
  refine⟨Xju _,?_⟩
  cases e:Lib.itoa x.n with
  | nil=>exact absurd e (Yea _)
  | cons b t =>
   refine⟨b,t,rfl,fun hb=>?_⟩
   have:=Xf5 x.n b (by rw[e];simp)
   rw[hb] at this
   revert this;decide
 ·exact absurd h1 hk
theorem Xyu {x y:Sc} (h1:x.k=y.k) (h2:x.n=y.n) (h3:x.s=y.s):x=y:=by
 cases x;cases y;simp only at h1 h2 h3;subst h1;subst h2;subst h3;rfl
theorem Yee {x y:Sc} (hx:prR Xak x=true) (hy:prR Xak y=true) (kx:x.k≠3) (ky:y.k≠3) (h:scB x=scB y):x=y:=by
 have no:∀ (n:Int) (b:UInt8) (t:List UInt8),57 < b.toNat->Lib.itoa n≠b::t:=fun n b t hb e=>by
  have:=Xf5 n b (by rw[e];simp)
  rcases this with rfl|this
  ·revert hb;decide
  ·omega
 have q0:∀ z:Sc,z.k=0->scB z=[110,117,108,108]:=fun z hz=>by unfold scB;rw[if_pos hz]
 have q1:∀ z:Sc,z.k=1->scB z=Xf7 (decide (z.n=1)):=fun z hz=>by unfold scB;rw[if_neg (by omega),if_pos hz]
 have q2:∀ z:Sc,z.k=2->scB z=Lib.itoa z.n:=fun z hz=>by unfold scB;rw[if_neg (by omega),if_neg (by omega),if_pos hz]
 have hb:∀ b:Bool,Xf7 b=[116,114,117,101]\/Xf7 b=[102,97,108,115,101]:=fun b=>by cases b <;> simp[Xf7]
 have b0:∀ b:Bool,Xf7 b≠[110,117,108,108]:=fun b=>by cases b <;> decide
 have bn:∀ (b:Bool) (n:Int),Lib.itoa n≠Xf7 b:=fun b n=>by
  rcases hb b with e|e <;> rw[e]
  ·exact no _ _ _ (by decide)
  ·exact no _ _ _ (by decide)
 rcases Xcd hx with ⟨h1,h2⟩|⟨h1,h2,h3⟩|⟨h1,h2,h3⟩|⟨h1,_⟩ <;> rcases Xcd hy with ⟨k1,k2⟩|⟨k1,k2,k3⟩|⟨k1,k2,k3⟩|⟨k1,_⟩
 all_goals try contradiction
 ·exact h2.trans k2.symm
 ·rw[q0 x h1,q1 y k1] at h;exact absurd h.symm (b0 _)
 ·rw[q0 x h1,q2 y k1] at h;exact absurd h.symm (no _ _ _ (by decide))
 ·rw[q1 x h1,q0 y k1] at h;exact absurd h (b0 _)
 ·rw[q1 x h1,q1 y k1] at h
  have hn:x.n=y.n:=by
   rcases h3 with h3|h3 <;> rcases k3 with k3|k3 <;> rw[h3,k3] at h ⊢
   ·exact absurd h (by decide)
   ·exact absurd h (by decide)
  exact Xyu (h1.trans k1.symm) hn (h2.trans k2.symm)
 ·rw[q1 x h1,q2 y k1] at h;exact absurd h.symm (bn _ _)
 ·rw[q2 x h1,q0 y k1] at h;exact absurd h (no _ _ _ (by decide))
 ·rw[q2 x h1,q1 y k1] at h;exact absurd h (bn _ _)
 ·rw[q2 x h1,q2 y k1] at h;exact Xyu (h1.trans k1.symm) (Xpu h) (h2.trans k2.symm)
theorem Wcy {x y:Sc} {u v:List UInt8} (hx:prR Xak x=true) (hy:prR Xak y=true) (h:(scB x++[44])++u=(scB y++[44])++v):x=y/\u=v:=by
 simp only[List.append_assoc,List.singleton_append] at h
 have q3:∀ z:Sc,z.k=3->scB z=Xub z.s:=fun z hz=>by unfold scB;rw[if_neg (by omega),if_neg (by omega),if_neg (by omega)]
 by_cases kx:x.k=3 <;> by_cases ky:y.k=3
 ·rw[q3 x kx,q3 y ky] at h
  rcases Xcd hx with ⟨h1,_⟩|⟨h1,_⟩|⟨h1,_⟩|⟨_,h1,h2⟩ <;> rcases Xcd hy with ⟨k1,_⟩|⟨k1,_⟩|⟨k1,_⟩|⟨_,k1,k2⟩ <;> try omega
  obtain⟨e1,e2⟩:=Xyt h2 k2 h
  exact⟨Xyu (kx.trans ky.symm) (h1.trans k1.symm) e1,(List.cons.inj e2).2⟩
 ·obtain⟨_,b,t,e1,e2⟩:=Xgn hy ky
  rw[q3 x kx,e1] at h
  exact absurd (List.cons.inj h).1.symm e2
 ·obtain⟨_,b,t,e1,e2⟩:=Xgn hx kx
  rw[q3 y ky,e1] at h
  exact absurd (List.cons.inj h).1 e2
 ·obtain⟨e1,e2⟩:=Xhk (Xgn hx kx).1 (Xgn hy ky).1 h
  exact⟨Yee hx hy kx ky e1,e2⟩
def Xg0 (l:List Sc):List UInt8:=l.flatMap fun x=>scB x++[44]
theorem Yef {A B:List Sc} (ha:∀ x∈A,prR Xak x=true) (hb:∀ x∈B,prR Xak x=true) (h:Xg0 A=Xg0 B):A=B :=
 Xpv (P:=fun x=>prR Xak x=true) (fun x=>by simp) (fun x y u v hx hy h=>Wcy hx hy h) ha hb h
structure Fine (l:List Nd):Prop where
 node:∀ x∈l,Xbe Xak x l.length=true
 small:∀ x∈l,x.keys.length<=12/\x.kids.length<=12
theorem Good.fine {g:Gr} (h:Good g):Fine g.l:=⟨(Xki h.c).2.2,h.s⟩
abbrev kdL (l:List Nd) (i:Int):List Int:=Xae (Xbb l i)
def inL (l:List Nd) (i:Int):Prop:=0<=i/\i < l.length
instance (l:List Nd) (i:Int):Decidable (inL l i):=inferInstanceAs (Decidable (_/\_))
theorem Yeg {l:List Nd} {i:Int} (h:inL l i):l[i.toNat]?=some (Xbb l i):=by
 unfold inL at h
 unfold Xbb
 rw[if_pos h]
 have:i.toNat < l.length:=by omega
 rw[List.getElem?_eq_getElem this];rfl
theorem Xr1 {l:List Nd} {n:Nat} {x:Nd} (h:l[n]?=some x):inL l n/\Xbb l n=x:=by
 have hn:=(Kr.1 h).1
 have hi:inL l n:=⟨by omega,by omega⟩
 refine⟨hi,?_⟩
 have:=Yeg hi
 rw[Int.toNat_natCast,h] at this
 exact (Option.some.inj this).symm
theorem Fine.at {l:List Nd} (h:Fine l) {i:Int} (hi:inL l i):KidsOK (Xbb l i) l.length:=Xmi (h.node _ (Xjo hi))
theorem Fine.kid {l:List Nd} (h:Fine l) (i:Int):∀ j∈kdL l i,inL l j:=by
 by_cases hi:inL l i
 ·exact (h.at hi).inn
 ·intro j hj
  rw[kdL,Xil hi] at hj
  simp[Xae,Xac,Nd.zero] at hj
theorem Fine.klen {l:List Nd} (h:Fine l) (i:Int):(kdL l i).length=(Xbb l i).kids.length:=by
 by_cases hi:inL l i
 ·exact (h.at hi).len
 ·rw[kdL,Xil hi];rfl
structure Bis (l m:List Nd) (R:Int->Int->Prop):Prop where
 inn:∀ a b,R a b->inL l a/\inL m b
 fit:∀ a b,R a b->X1j (Xbb l a) (Xbb m b)=true
 kid:∀ a b,R a b->∀ (i:Nat) (p q:Int),(kdL l a)[i]?=some p->(kdL m b)[i]?=some q->R p q
def Sim (l m:List Nd) (a b:Int):Prop:=∃ R,Bis l m R/\R a b
section
variable {l m n:List Nd} {a b c:Int}
theorem Xuc:Bis l m (Sim l m):=⟨fun _ _ ⟨_,h,r⟩=>h.inn _ _ r,fun _ _ ⟨_,h,r⟩=>h.fit _ _ r,fun _ _ ⟨R,h,r⟩ i p q hp hq=>⟨R,h,h.kid _ _ r i p q hp hq⟩⟩
theorem Sim.inn (h:Sim l m a b):inL l a/\inL m b:=Xuc.inn _ _ h
theorem Sim.fit (h:Sim l m a b):X1j (Xbb l a) (Xbb m b)=true:=Xuc.fit _ _ h
theorem Sim.kid (h:Sim l m a b) {i:Nat} {p q:Int} (hp:(kdL l a)[i]?=some p) (hq:(kdL m b)[i]?=some q):Sim l m p q:=Xuc.kid _ _ h i p q hp hq
theorem Sim.klen (hl:Fine l) (hm:Fine m) (h:Sim l m a b):(kdL l a).length=(kdL m b).length:=by
 rw[hl.klen,hm.klen];exact (Xbv.1 h.fit).2.2.2
theorem Yeh {x y:Nd} (h:X1j x y=true):X1j y x=true:=by
 obtain⟨h1,h2,h3,h4⟩:=Xbv.1 h
 exact Xbv.2 ⟨h1.symm,h2.symm,h3.symm,h4.symm⟩
theorem Xjv {x y z:Nd} (h:X1j x y=true) (k:X1j y z=true):X1j x z=true:=by
 obtain⟨h1,h2,h3,h4⟩:=Xbv.1 h
 obtain⟨k1,k2,k3,k4⟩:=Xbv.1 k
 exact Xbv.2 ⟨h1.trans k1,h2.trans k2,h3.trans k3,h4.trans k4⟩
theorem Yei (x:Nd):X1j x x=true:=Xbv.2 ⟨rfl,rfl,rfl,rfl⟩
theorem Yn9 (hl:Fine l) (ha:inL l a):Sim l l a a :=
 ⟨fun x y=>x=y/\inL l x,⟨fun _ _ ⟨e,h⟩=>⟨h,e ▸ h⟩,fun _ _ ⟨e,_⟩=>by subst e;exact Yei _,fun x y ⟨e,_⟩ i p q hp hq=>by
  subst e;rw[hp] at hq;cases hq;exact⟨rfl,hl.kid _ _ (List.mem_of_getElem? hp)⟩⟩,rfl,ha⟩
theorem Sim.symm (h:Sim l m a b):Sim m l b a:=by
 obtain⟨R,hR,r⟩:=h
 exact⟨fun x y=>R y x,⟨fun _ _ r=>(hR.inn _ _ r).symm,fun _ _ r=>Yeh (hR.fit _ _ r),fun _ _ r i p q hp hq=>hR.kid _ _ r i q p hq hp⟩,r⟩
theorem Sim.trans (hl:Fine l) (hm:Fine m) (h:Sim l m a b) (k:Sim m n b c):Sim l n a c:=by
 refine⟨fun x z=>∃ y,Sim l m x y/\Sim m n y z,⟨fun x z ⟨y,h1,h2⟩=>⟨h1.inn.1,h2.inn.2⟩,fun x z ⟨y,h1,h2⟩=>Xjv h1.fit h2.fit,fun x z ⟨y,h1,h2⟩ i p q hp hq=>?_⟩,b,h,k⟩
 obtain⟨w,hw⟩:=Xal (l:=kdL m y) (i:=i) (by rw[<- h1.klen hl hm];exact (Kr.1 hp).1)
 exact⟨w,h1.kid hp hw,h2.kid hw hq⟩
end
structure Say where
 k:Int
 x:Sc
 keys:List Sc
 kids:List (Option Int)
 deriving DecidableEq
def X2g (x:Nd) (c:List Int):Say:=⟨x.k,x.x,Xai x,(Xae x).map fun j=>c[j.toNat]?⟩
def Xfo (l:List Nd) (c:List Int):List Say:=l.map fun x=>X2g x c
abbrev Xd7 (n:Nat):List Int:=List.replicate n 0
def Xcb (l:List Nd):List Int:=Xgy (Xfo l) (l.length+1) 0 (cnt (Xfo l) (Xd7 l.length)) (rnd (Xfo l) (Xd7 l.length))
theorem Xjw {α β γ:Type} {f:α->γ} {g:β->γ}:∀ {A:List α} {B:List β},A.map f=B.map g↔A.length=B.length/\∀ (i:Nat) (p:α) (q:β),A[i]?=some p->B[i]?=some q->f p=g q
 | [],[]=>by simp
 | [],_::_=>by simp
 | _::_,[]=>by simp
 | a::A,b::B=>by
  simp only[List.map_cons,List.cons.injEq,List.length_cons,Nat.add_right_cancel_iff]
  rw[Xjw]
  constructor
  ·rintro⟨h,hl,hh⟩
   refine⟨hl,fun i p q hp hq=>?_⟩
   cases i with
   | zero=>simp at hp hq;subst hp;subst hq;exact h
   | succ i=>exact hh i p q (by simpa using hp) (by simpa using hq)
  ·rintro⟨hl,hh⟩
   exact⟨hh 0 a b rfl rfl,hl,fun i p q hp hq=>hh (i+1) p q (by simpa using hp) (by simpa using hq)⟩
theorem Xmr {x y:Nd} {c:List Int}:X2g x c=X2g y c↔x.k=y.k/\x.x=y.x/\Xai x=Xai y/\(Xae x).length=(Xae y).length/\∀ (i:Nat) (p q:Int),(Xae x)[i]?=some p->(Xae y)[i]?=some q->c[p.toNat]?=c[q.toNat]?:=by
 unfold X2g
 rw[Say.mk.injEq,Xjw]
section
variable {l:List Nd}
theorem Xf8 {c:List Int} {i:Int} (h:inL l i):(Xfo l c)[i.toNat]?=some (X2g (Xbb l i) c):=by unfold Xfo;rw[List.getElem?_map,Yeg h];rfl
theorem Xpw (c:List Int):(Xfo l c).length=l.length:=by simp[Xfo]
theorem Xjx {i:Nat} (h:i < l.length):inL l i:=⟨by omega,by omega⟩
theorem Fine.parts (h:Fine l):Parts (Xfo l) l.length where
 len c:=Xpw c
 mono c d hk i j hi hj e:=by
  have h1:=Xf8 (c:=c) (Xjx hi)
  have h2:=Xf8 (c:=c) (Xjx hj)
  have h3:=Xf8 (c:=d) (Xjx hi)
  have h4:=Xf8 (c:=d) (Xjx hj)
  rw[Int.toNat_natCast] at h1 h2 h3 h4
  rw[h1,h2] at e
  rw[h3,h4]
  obtain⟨e1,e2,e3,e4,e5⟩:=Xmr.1 (Option.some.inj e)
  rw[Xmr.2 ⟨e1,e2,e3,e4,fun n p q hp hq=>?_⟩]
  have hp':=h.kid _ _ (List.mem_of_getElem? hp)
  have hq':=h.kid _ _ (List.mem_of_getElem? hq)
  unfold inL at hp' hq'
  exact hk _ _ (by omega) (by omega) (e5 n p q hp hq)
theorem Xk3 (h:Fine l):(Xcb l).length=l.length:=by
 unfold Xcb
 exact Xmp (fun c=>c.length=l.length) (fun c _=>h.parts.rlen c) _ _ _ _ (h.parts.rlen _)
theorem Xyv (h:Fine l):rnd (Xfo l) (Xcb l)=Xcb l:=by
 unfold Xcb
 refine h.parts.end_ _ _ _ _ (Xd7 l.length) rfl rfl (fun i j hi hj _=>?_) (Nat.le_refl _) (Nat.zero_le _) (.inl rfl)
 simp[Xd7,List.getElem?_replicate,hi,hj]
theorem Yej (h:Fine l) {a b:Int} (ha:inL l a) (hb:inL l b):(Xcb l)[a.toNat]?=(Xcb l)[b.toNat]?↔X2g (Xbb l a) (Xcb l)=X2g (Xbb l b) (Xcb l):=by
 have h1:=ha
 have h2:=hb
 unfold inL at h1 h2
 have:=h.parts.ker (Xcb l) (i:=a.toNat) (j:=b.toNat) (by omega) (by omega)
 rw[Xyv h,Xf8 ha,Xf8 hb] at this
 rw[this,Option.some.injEq]
theorem Wcz (h:Fine l):Bis l l fun a b=>inL l a/\inL l b/\(Xcb l)[a.toNat]?=(Xcb l)[b.toNat]? where
 inn a b r:=⟨r.1,r.2.1⟩
 fit a b r:=by
  obtain⟨e1,e2,e3,e4,_⟩:=Xmr.1 ((Yej h r.1 r.2.1).1 r.2.2)
  exact Xbv.2 ⟨e1,e2,e3,by rw[<- h.klen,<- h.klen];exact e4⟩
 kid a b r i p q hp hq:=by
  obtain⟨_,_,_,_,e5⟩:=Xmr.1 ((Yej h r.1 r.2.1).1 r.2.2)
  exact⟨h.kid _ _ (List.mem_of_getElem? hp),h.kid _ _ (List.mem_of_getElem? hq),e5 i p q hp hq⟩
theorem X1m (h:Fine l) {R:Int->Int->Prop} (hR:Bis l l R) {a b:Int} (r:R a b):(Xcb l)[a.toNat]?=(Xcb l)[b.toNat]?:=by
 have step:∀ c:List Int,(∀ a b,R a b->c[a.toNat]?=c[b.toNat]?)->∀ a b,R a b->(rnd (Xfo l) c)[a.toNat]?=(rnd (Xfo l) c)[b.toNat]?:=fun c hc a b r=>by
  obtain⟨ha,hb⟩:=hR.inn a b r
  have h1:=ha
  have h2:=hb
  unfold inL at h1 h2
  rw[h.parts.ker c (by omega) (by omega),Xf8 ha,Xf8 hb,Option.some.injEq]
  obtain⟨f1,f2,f3,f4⟩:=Xbv.1 (hR.fit a b r)
  exact Xmr.2 ⟨f1,f2,f3,by rw[<- h.klen,<- h.klen] at f4;exact f4,fun i p q hp hq=>hc _ _ (hR.kid a b r i p q hp hq)⟩
 have:=Xmp (f:=Xfo l) (fun c=>∀ a b,R a b->c[a.toNat]?=c[b.toNat]?) step (l.length+1) 0 (cnt (Xfo l) (Xd7 l.length)) (rnd (Xfo l) (Xd7 l.length)) (step _ fun a b r=>by
  obtain⟨ha,hb⟩:=hR.inn a b r
  unfold inL at ha hb
  have e1:a.toNat < l.length:=by omega
  have e2:b.toNat < l.length:=by omega
  simp[Xd7,List.getElem?_replicate,e1,e2])
 exact this a b r
theorem Wc0 (h:Fine l) {a b:Int} (ha:inL l a) (hb:inL l b):(Xcb l)[a.toNat]?=(Xcb l)[b.toNat]?↔Sim l l a b :=
 ⟨fun e=>⟨_,Wcz h,ha,hb,e⟩,fun ⟨_,hR,r⟩=>X1m h hR r⟩
theorem Wsp (h:Fine l) {a:Int} (ha:inL l a):∃ c,(Xcb l)[a.toNat]?=some c:=by
 unfold inL at ha
 exact Xal (by rw[Xk3 h];omega)
theorem Wc1 (h:Fine l):Xcb l=rkp (Xfo l (Xcb l)):=(Xyv h).symm
end
def Xyw (n:Int) (x:Nd):Nd:=⟨x.k,x.x,x.keys,x.kids.map fun i=>i+n⟩
def Yek (l m:List Nd):List Nd:=l++m.map (Xyw l.length)
theorem Xgo {l:List Int} {n:Int}:Xdl l n=true↔∀ i∈l,0<=i/\i < n:=by simp[Xdl]
theorem X1n {R:ByteArray->Bool} {x:Nd} {n n':Int} (h:Xbe R x n=true) (hn:n<=n'):Xbe R x n'=true:=by
 have hk:Xdl x.kids n=true->Xdl x.kids n'=true:=fun h=>Xgo.2 fun i hi=>by have:=Xgo.1 h i hi;omega
 unfold Xbe Yi7 Ymx at *
 split
 ·rwa [if_pos ‹_›] at h
 ·rw[if_neg ‹_›] at h
  split
  ·rw[if_pos ‹_›] at h
   simp only[Bool.and_eq_true] at h ⊢
   exact⟨h.1,h.2.1,hk h.2.2⟩
  ·rw[if_neg ‹_›] at h
   split
   ·rw[if_pos ‹_›] at h
    simp only[Bool.and_eq_true] at h ⊢
    exact⟨h.1,h.2.1,h.2.2.1,hk h.2.2.2⟩
   ·rwa [if_neg ‹_›] at h
theorem Xud {R:ByteArray->Bool} {x:Nd} {n d:Int} (h:Xbe R x n=true) (hd:0<=d):Xbe R (Xyw d x) (n+d)=true:=by
 have hk:Xdl x.kids n=true->Xdl (x.kids.map fun i=>i+d) (n+d)=true:=fun h=>Xgo.2 fun i hi=>by
  obtain⟨j,hj,rfl⟩:=List.mem_map.1 hi
  have:=Xgo.1 h j hj;omega
 unfold Xbe Yi7 Ymx Ymw at *
 unfold Xyw
 simp only[List.length_map,List.map_eq_nil_iff]
 split
 ·rwa [if_pos ‹_›] at h
 ·rw[if_neg ‹_›] at h
  split
  ·rw[if_pos ‹_›] at h
   simp only[Bool.and_eq_true] at h ⊢
   exact⟨h.1,h.2.1,hk h.2.2⟩
  ·rw[if_neg ‹_›] at h
   split
   ·rw[if_pos ‹_›] at h
    simp only[Bool.and_eq_true] at h ⊢
    exact⟨h.1,h.2.1,h.2.2.1,hk h.2.2.2⟩
   ·rwa [if_neg ‹_›] at h
section
variable {l m:List Nd} {a b:Int}
theorem Yoa:(Yek l m).length=l.length+m.length:=by simp[Yek]
theorem Fine.join (hl:Fine l) (hm:Fine m):Fine (Yek l m) where
 node x hx:=by
  rw[Yoa]
  rcases List.mem_append.1 hx with hx|hx
  ·exact X1n (hl.node x hx) (by omega)
  ·obtain⟨y,hy,rfl⟩:=List.mem_map.1 hx
   have:=Xud (hm.node y hy) (d:=l.length) (by omega)
   rwa [show ((l.length+m.length:Nat):Int)=(m.length:Int)+(l.length:Int) from by omega]
 small x hx:=by
  rcases List.mem_append.1 hx with hx|hx
  ·exact hl.small x hx
  ·obtain⟨y,hy,rfl⟩:=List.mem_map.1 hx
   have:=hm.small y hy
   unfold Xyw
   simpa using this
end
def W08 (g h:Gr):Bool:=decide ((Xcb (Yek g.l h.l))[g.root.toNat]?=(Xcb (Yek g.l h.l))[(h.root+g.l.length).toNat]?)
theorem Good.in {g:Gr} (h:Good g):inL g.l g.root:=h.root
theorem Iso.sim {g h:Gr} (hg:Good g) (hh:Good h) {R:Int->Int->Prop} (H:Iso g h R) {a b:Int} (r:R a b) (ha:inL g.l a) (hb:inL h.l b):Sim g.l h.l a b :=
 ⟨fun a b=>R a b/\inL g.l a/\inL h.l b,⟨fun _ _ r=>r.2,fun a b r=>H.fit a b r.1,fun a b r i p q hp hq=>⟨H.kid a b r.1 (p,q) (Yn5 hp hq),hg.fine.kid _ _ (List.mem_of_getElem? hp),hh.fine.kid _ _ (List.mem_of_getElem? hq)⟩⟩,r,ha,hb⟩
structure Near (l m:List Nd) (fr to:Int):Prop where
 len:m.length=l.length
 fit:∀ a,X1j (Xbb l a) (Xbb m a)=true
 kid:∀ a (i:Nat) p q,(kdL l a)[i]?=some p->(kdL m a)[i]?=some q->q=p\/(p=fr/\q=to)
theorem Near.sim {l m:List Nd} {fr to:Int} (hl:Fine l) (hm:Fine m) (h:Near l m fr to) (hs:Sim l l fr to) {a:Int} (ha:inL l a):Sim l m a a:=by
 refine⟨Sim l l,⟨fun a b r=>⟨r.inn.1,by have:=r.inn.2;unfold inL at *;rw[h.len];exact this⟩,fun a b r=>Xjv r.fit (h.fit b),fun a b r i p q hp hq=>?_⟩,Yn9 hl ha⟩
 obtain⟨y,hy⟩:=Xal (l:=kdL l b) (i:=i) (by rw[<- r.klen hl hl];exact (Kr.1 hp).1)
 have hpy:=r.kid hp hy
 rcases h.kid b i y q hy hq with rfl|⟨rfl,rfl⟩
 ·exact hpy
 ·exact hpy.trans hl hl hs
def W0v (x:Nd) (k:Nat) (to:Int):Nd:=⟨x.k,x.x,x.keys,x.kids.set k to⟩
def Whm:List Int->Nat->Prop
 | [],_=>True
 | c::r,k=>0<=c/\c<=k/\Whm r (if c < k then k else k+1)
theorem Wc2 {α:Type} {l:List α} {i:Nat} {a:α} (h:l[i]?=some a):l.drop i=a::l.drop (i+1):=by
 obtain⟨hi,rfl⟩:=Kr.1 h
 exact List.drop_eq_getElem_cons hi
theorem Yel {α:Type} [DecidableEq α] (l:List α):∀ (m i:Nat),i+m=l.length->Whm ((rkp l).drop i) (ddp (l.take i)).length
 | 0,i,h=>by rw[List.drop_eq_nil_of_le (by rw[Xjt];omega)];trivial
 | m+1,i,h=>by
  obtain⟨a,ha⟩:=Xal (l:=l) (i:=i) (by omega)
  rw[Wc2 (Xkj ha)]
  have hn:=Xyn ha
  have ih:=Yel l m (i+1) (by omega)
  split at hn
  ·refine⟨by omega,by omega,?_⟩
   rw[if_pos (by omega),<- hn.2];exact ih
  ·refine⟨by omega,by omega,?_⟩
   rw[if_neg (by omega)]
   rw[hn.2,List.length_append] at ih
   exact ih
theorem Xue {l:List Nd} (h:Fine l):Whm (Xcb l) 0:=by
 have:=Yel (Xfo l (Xcb l)) (Xfo l (Xcb l)).length 0 (by omega)
 rwa [<- Wc1 h] at this
def Xhl:List Int->Nat->Nat
 | [],k=>k
 | c::r,k=>Xhl r (if c < k then k else k+1)
theorem Yem:∀ {l:List Int} {k i:Nat} {c:Int},Whm l k->l[i]?=some c->0<=c/\c<=Xhl (l.take i) k/\Xhl (l.take (i+1)) k=if c < Xhl (l.take i) k then Xhl (l.take i) k else Xhl (l.take i) k+1
 | x::r,k,0,c,h,e=>by
  obtain rfl:x=c:=by simpa using e
  exact⟨h.1,h.2.1,by simp[Xhl]⟩
 | x::r,k,i+1,c,h,e=>by
  have:=Yem (i:=i) h.2.2 (by simpa using e)
  simpa [Xhl] using this
def Xf9 (f:Int->Int) (x:Nd):Nd:=⟨x.k,x.x,Xai x,(Xae x).map f⟩
theorem Xr2 {x:Nd} {n:Int} (h:Xbe Xak x n=true) (f:Int->Int):Xae (Xf9 f x)=(Xae x).map f/\Xai (Xf9 f x)=Xai x:=by
 by_cases hk:x.k=2
 ·obtain⟨h1,h2,_⟩:=Xdz h hk
  have hp:=Xb4 hk h1
  have hlt:(srt (Xdj x)).Pairwise lt1:=Xx3 (by rw[Xe8 h1];exact h2)
  have hkeys:Xai x=(srt (Xdj x)).map Pr.key:=by unfold Xai;rw[hp]
  have hkids:Xae x=(srt (Xdj x)).map Pr.kid:=by unfold Xae;rw[if_neg (by omega),hp]
  have hz:Xdj (Xf9 f x)=(srt (Xdj x)).map fun p=>⟨p.key,f p.kid⟩:=by
   have:=Yds (l:=srt (Xdj x)) (f:=f)
   rw[Ydt] at this ⊢
   simp only[Xf9]
   rw[hkeys,hkids]
   exact this
  have hlt2:((srt (Xdj x)).map fun p=>(⟨p.key,f p.kid⟩:Pr)).Pairwise lt1:=by
   rw[List.pairwise_map]
   exact hlt.imp fun {a b} hab=>hab
  have hp2:Xac (Xf9 f x)=(srt (Xdj x)).map fun p=>⟨p.key,f p.kid⟩:=by
   have hlen:(Xf9 f x).keys.length=(Xf9 f x).kids.length:=by simp only[Xf9];rw[hkeys,hkids];simp
   rw[Xb4 (x:=Xf9 f x) hk hlen,hz,Yxi hlt2]
  constructor
  ·unfold Xae
   rw[if_neg (show ¬ (Xf9 f x).k=1 by simp only[Xf9];omega),if_neg (show ¬ x.k=1 by omega),hp2,hp]
   simp
  ·unfold Xai
   rw[hp2,hp]
   simp
 ·have hp:=Xb5 hk
  have hp2:Xac (Xf9 f x)=[]:=Xb5 (x:=Xf9 f x) hk
  constructor
  ·unfold Xae
   rw[hp2,hp]
   show (if x.k=1 then (Xae x).map _ else _)=_
   unfold Xae
   rw[hp]
   split
   ·rfl
   ·rfl
  ·unfold Xai;rw[hp2,hp]
theorem X1o {x:Nd} {n m:Int} {f:Int->Int} (h:Xbe Xak x n=true) (hw:∀ j∈Xae x,0<=f j/\f j < m):Xbe Xak (Xf9 f x) m=true:=by
 have hin:Xdl ((Xae x).map f) m=true:=Xrv fun i hi=>by
  obtain⟨j,hj,rfl⟩:=List.mem_map.1 hi
  exact hw j hj
 obtain⟨_,k2,k3,k4,_,_⟩:=Xmi h
 rcases Xgl h with hk|hk|hk
 ·have h1:=Xjr h hk
  have h2:=Xim h hk
  unfold Xbe
  rw[if_pos (show (Xf9 f x).k=0 from hk)]
  have e1:Xai x=[]:=k4 (by omega)
  have e2:Xae x=[]:=by rw[<- List.length_eq_zero_iff,k2,h2.2];rfl
  simp[Ymw,Xf9,h1,e1,e2]
 ·have h1:=Xjq h hk
  unfold Xbe
  rw[if_neg (show ¬ (Xf9 f x).k=0 by simp only[Xf9];omega),if_pos (show (Xf9 f x).k=1 from hk)]
  have e1:Xai x=[]:=k4 (by omega)
  simp only[Yi7,Xf9,h1,e1,hin]
  rfl
 ·obtain⟨h0,h1⟩:=Xe9 h hk
  obtain⟨m1,m2,_⟩:=Xdz h hk
  unfold Xbe
  rw[if_neg (show ¬ (Xf9 f x).k=0 by simp only[Xf9];omega),if_neg (show ¬ (Xf9 f x).k=1 by simp only[Xf9];omega),if_pos (show (Xf9 f x).k=2 from hk)]
  have hpk:(Xai x).Perm x.keys:=by
   unfold Xai
   rw[Xb4 hk m1]
   have:=(Xdr (Xdj x)).map Pr.key
   rwa [Xe8 m1] at this
  have e1:(Xai x).all (prR Xak)=true:=by
   rw[List.all_eq_true] at h0 ⊢
   exact fun a ha=>h0 a (hpk.mem_iff.1 ha)
  have e2:(Xai x).Nodup:=hpk.nodup_iff.2 m2
  have e3:(Xai x).length=(Xae x).length:=k3 hk
  simp only[Ymx,Xty,Xf9,h1,hin,e1,e3,List.length_map]
  simp[e2]
theorem X1p {x:Nd} (f:Int->Int) (h:x.keys.length<=12/\x.kids.length<=12):(Xf9 f x).keys.length<=12/\(Xf9 f x).kids.length<=12:=by
 have:=Xcp x
 refine⟨?_,?_⟩
 ·simp only[Xf9,Xai,List.length_map];omega
 ·simp only[Xf9,List.length_map];exact Xdt x 12 h
def Xr3:List Int->Nat->Nat->List Int
 | [],_,_=>[]
 | c::r,k,i=>if c < k then Xr3 r k (i+1) else (i:Int)::Xr3 r (k+1) (i+1)
theorem Xuf:∀ {r:List Int} {k i j:Nat} {a:Int},Whm r k->(Xr3 r k i)[j]?=some a->∃ m:Nat,a=((i+m:Nat):Int)/\r[m]?=some ((k+j:Nat):Int)
 | [],_,_,_,_,_,e=>by simp[Xr3] at e
 | c::r,k,i,j,a,h,e=>by
  obtain⟨h1,h2,h3⟩:=h
  simp only[Xr3] at e
  split at e
  ·rename_i hc
   rw[if_pos hc] at h3
   obtain⟨m,e1,e2⟩:=Xuf h3 e
   exact⟨m+1,by rw[e1];omega,by simpa using e2⟩
  ·rename_i hc
   rw[if_neg hc] at h3
   cases j with
   | zero=>exact⟨0,by simpa using e.symm,by simp;omega⟩
   | succ j =>
    obtain⟨m,e1,e2⟩:=Xuf h3 (by simpa using e)
    exact⟨m+1,by rw[e1];omega,by rw[List.getElem?_cons_succ,e2];congr 1;omega⟩
theorem Xug:∀ {r:List Int} {k i:Nat},Whm r k->∀ c∈r,0<=c/\c < ((k+(Xr3 r k i).length:Nat):Int)
 | [],_,_,_,_,hc=>by cases hc
 | x::r,k,i,h,c,hc=>by
  obtain⟨h1,h2,h3⟩:=h
  simp only[Xr3]
  split
  ·rename_i hx
   rw[if_pos hx] at h3
   rcases List.mem_cons.1 hc with rfl|hc
   ·exact⟨h1,by omega⟩
   ·exact Xug h3 c hc
  ·rename_i hx
   rw[if_neg hx] at h3
   rw[List.length_cons]
   rcases List.mem_cons.1 hc with rfl|hc
   ·exact⟨h1,by omega⟩
   ·have:=Xug (i:=i+1) h3 c hc
    exact⟨this.1,by omega⟩
theorem Xk4:∀ (r:List Int) (k i:Nat),(Xr3 r k i).length<=r.length
 | [],_,_=>Nat.le_refl _
 | c::r,k,i=>by
  simp only[Xr3]
  split
  ·have:=Xk4 r k (i+1);rw[List.length_cons];omega
  ·have:=Xk4 r (k+1) (i+1);rw[List.length_cons,List.length_cons];omega
noncomputable def Yen (l:List Nd):List Int:=Xr3 (Xcb l) 0 0
noncomputable def Xgp (l:List Nd) (i:Int):Int:=(Xcb l)[i.toNat]?.getD 0
noncomputable def Xbg (g:Gr):Gr:=⟨Xgp g.l g.root,(Yen g.l).map fun i=>Xf9 (Xgp g.l) (Xbb g.l i)⟩
section
variable {l:List Nd} {g h:Gr}
theorem Xjy (h:Fine l) {i:Int} (hi:inL l i):(Xcb l)[i.toNat]?=some (Xgp l i):=by
 obtain⟨c,hc⟩:=Wsp h hi
 unfold Xgp
 rw[hc];rfl
theorem Xpx (h:Fine l) {i j:Int} (hi:inL l i) (hj:inL l j):Xgp l i=Xgp l j↔Sim l l i j:=by
 rw[<- Wc0 h hi hj,Xjy h hi,Xjy h hj,Option.some.injEq]
theorem Xjz (h:Fine l) {i:Int} (hi:inL l i):0<=Xgp l i/\Xgp l i < (Yen l).length:=by
 have:=Xug (i:=0) (Xue h) _ (List.mem_of_getElem? (Xjy h hi))
 rwa [Nat.zero_add] at this
theorem Xyx (h:Fine l) {j:Nat} {a:Int} (e:(Yen l)[j]?=some a):inL l a/\Xgp l a=j:=by
 obtain⟨m,e1,e2⟩:=Xuf (Xue h) e
 rw[Nat.zero_add] at e1 e2
 have hm:=(Kr.1 e2).1
 rw[Xk3 h] at hm
 have ha:inL l a:=⟨by omega,by omega⟩
 refine⟨ha,?_⟩
 have:=Xjy h ha
 rw[e1,Int.toNat_natCast,e2] at this
 rw[e1];exact (Option.some.inj this).symm
theorem Wsq (h:Fine l) {i:Int} (hi:inL l i):∃ a,(Yen l)[(Xgp l i).toNat]?=some a/\inL l a/\Sim l l i a:=by
 have hlt:=Xjz h hi
 obtain⟨a,ha⟩:=Xal (l:=Yen l) (i:=(Xgp l i).toNat) (by omega)
 obtain⟨h1,h2⟩:=Xyx h ha
 exact⟨a,ha,h1,(Xpx h hi h1).1 (by rw[h2];omega)⟩
theorem Xd1 (g:Gr):(Xbg g).l.length=(Yen g.l).length:=by simp[Xbg]
theorem Yob {j:Nat} {a:Int} (e:(Yen g.l)[j]?=some a):Xbb (Xbg g).l j=Xf9 (Xgp g.l) (Xbb g.l a):=by
 have hj:=(Kr.1 e).1
 unfold Xbb
 rw[if_pos (by rw[Xd1];omega),Int.toNat_natCast]
 simp only[Xbg,List.getElem?_map,e,Option.map_some,Option.getD_some]
 rfl
theorem Xn8 (h:Good g) {i:Int} (hi:inL g.l i):∃ a,inL g.l a/\Sim g.l g.l i a/\Xbb (Xbg g).l (Xgp g.l i)=Xf9 (Xgp g.l) (Xbb g.l a):=by
 obtain⟨a,h1,h2,h3⟩:=Wsq h.fine hi
 have hlt:=Xjz h.fine hi
 refine⟨a,h2,h3,?_⟩
 have:=Yob h1
 rwa [show (((Xgp g.l i).toNat:Nat):Int)=Xgp g.l i by omega] at this
theorem Good.whole (h:Good g):Good (Xbg g) where
 c:=by
  refine Ybm ?_ ?_ ?_
  ·rw[Xd1]
   have:=Xk4 (Xcb g.l) 0 0
   rw[Xk3 h.fine] at this
   exact Nat.le_trans this h.len
  ·rw[Xd1];exact Xjz h.fine h.root
  ·intro x hx
   rw[Xd1]
   simp only[Xbg,List.mem_map] at hx
   obtain⟨i,hi,rfl⟩:=hx
   obtain⟨j,hj⟩:=List.getElem?_of_mem hi
   exact X1o (h.node (Xyx h.fine hj).1) fun k hk=>Xjz h.fine (h.kid i k hk)
 s:=by
  intro x hx
  simp only[Xbg,List.mem_map] at hx
  obtain⟨i,hi,rfl⟩:=hx
  exact X1p _ (h.s.at i)
theorem Yoc (h:Good g) {i:Int} (hi:inL g.l i):inL (Xbg g).l (Xgp g.l i):=by
 have:=Xjz h.fine hi
 unfold inL
 rw[Xd1];exact this
theorem Xn9 (h:Good g) {b:Int} (hb:inL (Xbg g).l b):∃ i,inL g.l i/\Xgp g.l i=b:=by
 unfold inL at hb
 rw[Xd1] at hb
 obtain⟨a,ha⟩:=Xal (l:=Yen g.l) (i:=b.toNat) (by omega)
 obtain⟨h1,h2⟩:=Xyx h.fine ha
 exact⟨a,h1,by omega⟩
theorem Yod (h:Good g) {i:Int} (hi:inL g.l i):kdL (Xbg g).l (Xgp g.l i)=(kdL g.l i).map (Xgp g.l):=by
 obtain⟨a,h1,h2,h3⟩:=Xn8 h hi
 have e1:=(Xr2 (h.node h1) (Xgp g.l)).1
 rw[show kdL (Xbg g).l (Xgp g.l i)=Xae (Xbb (Xbg g).l (Xgp g.l i)) from rfl,h3,e1]
 refine (Xjw (A:=Xae (Xbb g.l a)) (B:=kdL g.l i)).2 ⟨(h2.klen h.fine h.fine).symm,fun k p q hp hq=>?_⟩
 have:=h2.kid hq hp
 exact ((Xpx h.fine this.inn.1 this.inn.2).2 this).symm
theorem Xms (h:Good g) {i:Int} (hi:inL g.l i):Sim g.l (Xbg g).l i (Xgp g.l i):=by
 refine⟨fun a b=>inL g.l a/\b=Xgp g.l a,⟨fun a b r=>⟨r.1,by rw[r.2];exact Yoc h r.1⟩,fun a b r=>?_,fun a b r k p q hp hq=>?_⟩,hi,rfl⟩
 ·obtain⟨ha,rfl⟩:=r
  obtain⟨c,h1,h2,h3⟩:=Xn8 h ha
  rw[h3]
  refine Xjv h2.fit (Xbv.2 ⟨rfl,rfl,(Xr2 (h.node h1) _).2.symm,?_⟩)
  show _=(List.map _ _).length
  rw[List.length_map];exact (h.fine.klen c).symm
 ·obtain⟨ha,rfl⟩:=r
  rw[Yod h ha,List.getElem?_map,hp] at hq
  exact⟨h.fine.kid _ _ (List.mem_of_getElem? hp),(Option.some.inj hq).symm⟩
def Yeo (l:List Nd):Prop:=∀ a b,Sim l l a b->a=b
theorem X1q (h:Good g):Yeo (Xbg g).l:=fun a b r=>by
 obtain⟨i,hi,rfl⟩:=Xn9 h r.inn.1
 obtain⟨j,hj,rfl⟩:=Xn9 h r.inn.2
 exact (Xpx h.fine hi hj).2 (((Xms h hi).trans h.fine h.whole.fine r).trans h.fine h.whole.fine (Xms h hj).symm)
noncomputable def Xfp (g:Gr):Gr:=Xau (Xbg g)
theorem Good.quot (h:Good g):Good (Xfp g):=h.whole.tidy
theorem Wc3 (h:Good g) {a:Int} (ha:a∈Xa9 g):inL (Xau g).l ((Xa9 g).idxOf a):=by
 have:=Xru ha
 exact⟨by omega,by rw[Xdh];omega⟩
theorem Xr4 (h:Good g) {b:Int} (hb:inL (Xau g).l b):∃ a,a∈Xa9 g/\((Xa9 g).idxOf a:Int)=b:=by
 unfold inL at hb
 rw[Xdh] at hb
 obtain⟨a,ha⟩:=Xal (l:=Xa9 g) (i:=b.toNat) (by omega)
 exact⟨a,List.mem_of_getElem? ha,by rw[Xn6 h.wnodup ha];omega⟩
theorem Xpy (h:Good g) {a:Int} (ha:a∈Xa9 g):Sim g.l (Xau g).l a ((Xa9 g).idxOf a) :=
 (Yn7 h).sim h h.tidy ⟨ha,rfl⟩ (h.wIn a ha) (Wc3 h ha)
theorem Yep (h:Good g) (hd:Yeo g.l):Yeo (Xau g).l:=fun a b r=>by
 obtain⟨i,hi,rfl⟩:=Xr4 h r.inn.1
 obtain⟨j,hj,rfl⟩:=Xr4 h r.inn.2
 rw[hd _ _ (((Xpy h hi).trans h.fine h.tidy.fine r).trans h.fine h.tidy.fine (Xpy h hj).symm)]
theorem Xga (h:Good g):Yeo (Xfp g).l:=Yep h.whole (X1q h)
theorem X1r (h:Good g):Sim g.l (Xbg g).l g.root (Xbg g).root:=Xms h h.root
theorem Yeq (h:Good g):Sim g.l (Xau g).l g.root (Xau g).root:=by
 have:=Xpy h h.wroot
 obtain⟨r,hr⟩:=h.whead
 rw[hr] at this
 simpa [Xau] using this
theorem Xgb (h:Good g):Sim g.l (Xfp g).l g.root (Xfp g).root:=(X1r h).trans h.fine h.whole.fine (Yeq h.whole)
theorem Xir (h:Good g):Xau (Xfp g)=Xfp g:=Xrx h.whole
theorem Xoa (hg:Good g) (hh:Good h) (dg:Yeo g.l) (dh:Yeo h.l) (r:Sim g.l h.l g.root h.root):Xmn g h=true :=
 Yn6 hg hh (R:=fun a b=>Sim g.l h.l a b) {
  root:=r
  fit:=fun _ _ r=>r.fit
  kid:=fun a b r q hq=>by
   obtain⟨i,h1,h2⟩:=Yn4 hq
   exact r.kid h1 h2
  one:=fun a b c r s=>dh _ _ (r.symm.trans hh.fine hg.fine s)
  inj:=fun a b c r s=>dg _ _ (r.trans hg.fine hh.fine s.symm) }
theorem Yer (hg:Good g) (hh:Good h):Sim g.l h.l g.root h.root↔Xfp g=Xfp h:=by
 constructor
 ·intro r
  have r':Sim (Xfp g).l (Xfp h).l (Xfp g).root (Xfp h).root:=((Xgb hg).symm.trans hg.quot.fine hg.fine r).trans hg.quot.fine hh.fine (Xgb hh)
  have:=Xn7 hg.quot hh.quot (Xoa hg.quot hh.quot (Xga hg) (Xga hh) r')
  rwa [Xir hg,Xir hh] at this
 ·intro e
  have h1:=Xgb hg
  rw[e] at h1
  exact h1.trans hg.fine hh.quot.fine (Xgb hh).symm
noncomputable def W09 (g:Gr) (i:Int):Int:=if Xgp g.l i∈Xa9 (Xbg g) then (Xa9 (Xbg g)).idxOf (Xgp g.l i) else -1
noncomputable def W0w (g:Gr):List Int:=(Xcb g.l).map fun c=>if c∈Xa9 (Xbg g) then ((Xa9 (Xbg g)).idxOf c:Int) else -1
theorem Xyy (h:Good g):Xfp g=g↔Yeo g.l/\Xau g=g:=by
 constructor
 ·intro e
  have h1:=Xga h
  have h2:=Xir h
  rw[e] at h1 h2
  exact⟨h1,h2⟩
 ·rintro⟨h1,h2⟩
  have:=Xn7 h h.quot (Xoa h h.quot h1 (Xga h) (Xgb h))
  rw[Xir h,h2] at this
  exact this.symm
end
end Go.Fw.L07
