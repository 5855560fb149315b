/- Chapter 10,plain: numbers in the order of first appearance; classes that are parted as long as there are more. -/
import Derived.Test.YtiklocoaghcliaaGreatDoorLa
import Derived.Test.YtiklocoaghcliaaGreatDoorVa
import Derived.Test.YtiklocoaghcliaaGreatDoorLb
import Derived.Lib.MapLaws
import Derived.Lib.ItoaLen
import Derived.Test.YtiklocoaghcliaaGreatDoorIa
set_option linter.all false
namespace Go.Fw.L07
open Go Go.Fw
open List renaming getElem?_eq_some_iff->Kr
set_option maxRecDepth 4000
section
variable {α β:Type} [DecidableEq α] [DecidableEq β]
def ddF:List α->List α->List α
 | d,[]=>d
 | d,a::l=>ddF (if a∈d then d else d++[a]) l
def ddp (l:List α):List α:=ddF [] l
theorem Xuo:∀ (l m:List α) (d:List α),ddF d (l++m)=ddF (ddF d l) m
 | [],_,_=>rfl
 | a::l,m,d=>by simp only[List.cons_append,ddF,Xuo l m]
theorem Xp5 (l:List α) (a:α):ddp (l++[a])=if a∈ddp l then ddp l else ddp l++[a]:=by
 unfold ddp;rw[Xuo];rfl
theorem Yeg:∀ (l d:List α) (x:α),x∈ddF d l↔x∈d\/x∈l
 | [],d,x=>by simp[ddF]
 | a::l,d,x=>by
  simp only[ddF,Yeg l,List.mem_cons]
  split
  ·rename_i h
   constructor
   ·rintro (h1|h1)
    ·exact .inl h1
    ·exact .inr (.inr h1)
   ·rintro (h1|rfl|h1)
    ·exact .inl h1
    ·exact .inl h
    ·exact .inr h1
  ·simp only[List.mem_append,List.mem_singleton,or_assoc]
theorem Xbp {l:List α} {x:α}:x∈ddp l↔x∈l:=by unfold ddp;rw[Yeg];simp
theorem Xsl:∀ (l d:List α),d.Nodup->(ddF d l).Nodup
 | [],_,h=>h
 | a::l,d,h=>by
  simp only[ddF]
  refine Xsl l _ ?_
  split
  ·exact h
  ·rename_i ha
   rw[List.nodup_append]
   exact⟨h,by simp,fun x hx y hy e=>by simp at hy;subst hy;subst e;exact ha hx⟩
theorem Xmx (l:List α):(ddp l).Nodup:=Xsl l [] (by simp)
theorem Yeh:∀ (l d:List α),∃ e,ddF d l=d++e
 | [],d=>⟨[],by simp[ddF]⟩
 | a::l,d=>by
  simp only[ddF]
  obtain⟨e,he⟩:=Yeh l (if a∈d then d else d++[a])
  rw[he]
  split
  ·exact⟨e,rfl⟩
  ·exact⟨a::e,by simp⟩
theorem Wdo (l m:List α):∃ e,ddp (l++m)=ddp l++e:=by unfold ddp;rw[Xuo];exact Yeh m _
theorem Yei (l:List α):(ddp l).length<=l.length:=(Xmx l).length_le_of_subset fun x hx=>Xbp.1 hx
def rkp (l:List α):List Int:=l.map fun a=>((ddp l).idxOf a:Int)
theorem Xj1 (l:List α):(rkp l).length=l.length:=by simp[rkp]
theorem Yej {d:List α} {a b:α} (ha:a∈d) (hb:b∈d) (h:d.idxOf a=d.idxOf b):a=b:=by
 have h1:=List.getElem_idxOf (List.idxOf_lt_length_iff.2 ha)
 have h2:=List.getElem_idxOf (List.idxOf_lt_length_iff.2 hb)
 rw[<- h1,<- h2]
 congr 1
theorem Xkk {l:List α} {i:Nat} {a:α} (h:l[i]?=some a):(rkp l)[i]?=some ((ddp l).idxOf a:Int):=by unfold rkp;rw[List.getElem?_map,h];rfl
theorem Wt2 {l:List α} {i j:Nat} {a b:α} (ha:l[i]?=some a) (hb:l[j]?=some b):(rkp l)[i]?=(rkp l)[j]?↔a=b:=by
 rw[Xkk ha,Xkk hb]
 constructor
 ·intro h
  have h:=Option.some.inj h
  exact Yej (Xbp.2 (List.mem_of_getElem? ha)) (Xbp.2 (List.mem_of_getElem? hb)) (by omega)
 ·rintro rfl;rfl
theorem Xy0 {l:List α} {i n:Nat} {a:α} (h:l[i]?=some a) (hn:i < n):(ddp (l.take n)).idxOf a=(ddp l).idxOf a:=by
 obtain⟨e,he⟩:=Wdo (l.take n) (l.drop n)
 rw[List.take_append_drop] at he
 rw[he,List.idxOf_append,if_pos]
 rw[Xbp]
 exact List.mem_of_getElem? (i:=i) (by rw[List.getElem?_take,if_pos hn];exact h)
theorem Xid {l:List α} {n:Nat} {a:α} (h:l[n]?=some a):l.take (n+1)=l.take n++[a]:=by rw[List.take_succ,h];rfl
theorem Xhg {l:List α} {n:Nat} {a:α}:a∈l.take n↔∃ i,i < n/\l[i]?=some a:=by
 rw[List.mem_iff_getElem?]
 constructor
 ·rintro⟨i,hi⟩
  rw[List.getElem?_take] at hi
  split at hi
  ·exact⟨i,‹_›,hi⟩
  ·cases hi
 ·rintro⟨i,hi,h⟩
  exact⟨i,by rw[List.getElem?_take,if_pos hi];exact h⟩
theorem Xy1 {l:List α} {i:Nat} {a:α} (h:l[i]?=some a):if a∈l.take i then (ddp l).idxOf a < (ddp (l.take i)).length/\ddp (l.take (i+1))=ddp (l.take i) else (ddp l).idxOf a=(ddp (l.take i)).length/\ddp (l.take (i+1))=ddp (l.take i)++[a]:=by
 have h1:=Xy0 h (Nat.lt_succ_self i)
 have h2:ddp (l.take (i+1))=if a∈ddp (l.take i) then ddp (l.take i) else ddp (l.take i)++[a]:=by rw[Xid h,Xp5]
 split
 ·rename_i hm
  rw[if_pos (Xbp.2 hm)] at h2
  exact⟨by rw[<- h1,h2];exact List.idxOf_lt_length_iff.2 (Xbp.2 hm),h2⟩
 ·rename_i hm
  rw[if_neg (fun hx=>hm (Xbp.1 hx))] at h2
  refine⟨?_,h2⟩
  rw[<- h1,h2,List.idxOf_append,if_neg (fun hx=>hm (Xbp.1 hx))]
  simp
theorem Xup {l:List α} {m:List β} (hl:l.length=m.length) (hk:∀ i j:Nat,i < l.length->j < l.length->(l[i]?=l[j]?↔m[i]?=m[j]?)):rkp l=rkp m:=by
 have key:∀ n,n<=l.length->(ddp (l.take n)).length=(ddp (m.take n)).length/\∀ (i:Nat) (a:α) (b:β),i < n->l[i]?=some a->m[i]?=some b->(ddp (l.take n)).idxOf a=(ddp (m.take n)).idxOf b:=by
  intro n
  induction n with
  | zero=>intro _;exact⟨by simp[ddp,ddF],fun i a b hi=>by omega⟩
  | succ n ih =>
   intro hn
   obtain⟨h1,h2⟩:=ih (by omega)
   obtain⟨a,ha⟩:=Xaq (l:=l) (i:=n) (by omega)
   obtain⟨b,hb⟩:=Xaq (l:=m) (i:=n) (by omega)
   have hm:a∈ddp (l.take n)↔b∈ddp (m.take n):=by
    rw[Xbp,Xbp,Xhg,Xhg]
    constructor
    ·rintro⟨i,hi,h⟩
     exact⟨i,hi,by rw[<- hb];exact (hk i n (by omega) (by omega)).1 (by rw[h,ha])⟩
    ·rintro⟨i,hi,h⟩
     exact⟨i,hi,by rw[<- ha];exact (hk i n (by omega) (by omega)).2 (by rw[h,hb])⟩
   rw[Xid ha,Xid hb,Xp5,Xp5]
   by_cases hma:a∈ddp (l.take n)
   ·rw[if_pos hma,if_pos (hm.1 hma)]
    refine⟨h1,fun i a' b' hi ha' hb'=>?_⟩
    by_cases hin:i < n
    ·exact h2 i a' b' hin ha' hb'
    ·obtain rfl:i=n:=by omega
     rw[ha] at ha';rw[hb] at hb';cases ha';cases hb'
     rw[Xbp,Xhg] at hma
     obtain⟨j,hj,hja⟩:=hma
     obtain⟨c,hc⟩:=Xaq (l:=m) (i:=j) (by omega)
     have:=h2 j a c hj hja hc
     rw[this]
     have:m[j]?=m[i]?:=(hk j i (by omega) (by omega)).1 (by rw[hja,ha])
     rw[hc,hb] at this
     cases this;rfl
   ·rw[if_neg hma,if_neg (fun h=>hma (hm.2 h))]
    refine⟨by simp[h1],fun i a' b' hi ha' hb'=>?_⟩
    rw[List.idxOf_append,List.idxOf_append]
    by_cases hin:i < n
    ·rw[if_pos (Xbp.2 (Xhg.2 ⟨i,hin,ha'⟩)),if_pos (Xbp.2 (Xhg.2 ⟨i,hin,hb'⟩))]
     exact h2 i a' b' hin ha' hb'
    ·obtain rfl:i=n:=by omega
     rw[ha] at ha';rw[hb] at hb';cases ha';cases hb'
     rw[if_neg hma,if_neg (fun h=>hma (hm.2 h)),h1]
     simp
 apply List.ext_getElem?
 intro i
 by_cases hi:i < l.length
 ·obtain⟨a,ha⟩:=Xaq hi
  obtain⟨b,hb⟩:=Xaq (l:=m) (i:=i) (by omega)
  rw[Xkk ha,Xkk hb]
  have:=(key l.length (Nat.le_refl _)).2 i a b hi ha hb
  rw[List.take_length,hl,List.take_length] at this
  rw[this]
 ·rw[List.getElem?_eq_none (by rw[Xj1];omega),List.getElem?_eq_none (by rw[Xj1];omega)]
theorem Xy2 {l:List α} {m:List β} (hl:l.length=m.length) (hf:∀ i j:Nat,i < l.length->j < l.length->l[i]?=l[j]?->m[i]?=m[j]?) (hc:(ddp l).length<=(ddp m).length) :
  ∀ i j:Nat,i < l.length->j < l.length->m[i]?=m[j]?->l[i]?=l[j]?:=by
 intro i j hi hj hm
 obtain⟨a,ha⟩:=Xaq hi
 obtain⟨b,hb⟩:=Xaq hj
 rw[ha,hb]
 obtain⟨y,hy⟩:=Xaq (l:=m) (i:=i) (by omega)
 -- each name's first place;names there
 have hrep:∀ z∈ddp m,∃ x:α,∃ k:Nat,l[k]?=some x/\m[k]?=some z:=fun z hz=>by
  obtain⟨k,hk⟩:=List.mem_iff_getElem?.1 (Xbp.1 hz)
  obtain⟨x,hx⟩:=Xaq (l:=l) (i:=k) (by rw[hl];exact (Kr.1 hk).1)
  exact⟨x,k,hx,hk⟩
 have hd:∃ f:β->α,∀ z∈ddp m,∃ k:Nat,l[k]?=some (f z)/\m[k]?=some z:=by
  classical
  refine⟨fun z=>if h:z∈ddp m then Classical.choose (hrep z h) else a,fun z hz=>?_⟩
  simp only[dif_pos hz]
  exact Classical.choose_spec (hrep z hz)
 obtain⟨f,hfz⟩:=hd
 have hinj:∀ z∈ddp m,∀ z'∈ddp m,f z=f z'->z=z':=fun z hz z' hz' e=>by
  obtain⟨k,h1,h2⟩:=hfz z hz
  obtain⟨k',h3,h4⟩:=hfz z' hz'
  have:=hf k k' (Kr.1 h1).1 (Kr.1 h3).1 (by rw[h1,h3,e])
  rw[h2,h4] at this
  exact Option.some.inj this
 have hnd:((ddp m).map f).Nodup:=by
  rw[List.Nodup,List.pairwise_map]
  have:=Xmx m
  rw[List.Nodup] at this
  exact List.Pairwise.imp_of_mem (fun {x y} hx hy hne e=>hne (hinj x hx y hy e)) this
 have hsub:(ddp m).map f ⊆ ddp l:=fun x hx=>by
  obtain⟨z,hz,rfl⟩:=List.mem_map.1 hx
  obtain⟨k,h1,_⟩:=hfz z hz
  exact Xbp.2 (List.mem_of_getElem? h1)
 -- all names are there
 have hall:∀ x∈ddp l,x∈(ddp m).map f:=fun x hx=>by
  by_cases hxm:x∈(ddp m).map f
  ·exact hxm
  ·exfalso
   have h1:(x::(ddp m).map f).Nodup:=List.nodup_cons.2 ⟨hxm,hnd⟩
   have h2:=h1.length_le_of_subset (l₂:=ddp l) (fun y hy=>by
    rcases List.mem_cons.1 hy with rfl|hy
    ·exact hx
    ·exact hsub hy)
   simp at h2
   omega
 have get:∀ (k:Nat) (x:α),l[k]?=some x->m[k]?=some y->x=f y:=fun k x hx hk=>by
  obtain⟨z,hz,hzx⟩:=List.mem_map.1 (hall x (Xbp.2 (List.mem_of_getElem? hx)))
  obtain⟨k',h1,h2⟩:=hfz z hz
  have:=hf k k' (Kr.1 hx).1 (Kr.1 h1).1 (by rw[hx,h1,hzx])
  rw[hk,h2] at this
  rw[<- hzx,Option.some.inj this]
 rw[get i a ha hy,get j b hb (by rw[<- hm];exact hy)]
theorem Xy3 {l:List α} {m:List β} (hl:l.length=m.length) (hf:∀ i j:Nat,i < l.length->j < l.length->l[i]?=l[j]?->m[i]?=m[j]?):(ddp m).length<=(ddp l).length:=by
 by_cases h:(ddp m).length<=(ddp l).length
 ·exact h
 ·have hk:=Xy2 hl hf (by omega)
  have e:rkp l=rkp m:=Xup hl fun i j hi hj=>⟨hf i j hi hj,hk i j hi hj⟩
  have hsub:∀ z∈ddp m,∃ k:Nat,m[k]?=some z:=fun z hz=>List.mem_iff_getElem?.1 (Xbp.1 hz)
  -- the last name's number
  have hpos:0 < (ddp m).length:=by omega
  obtain⟨z,hz⟩:=Xaq (l:=ddp m) (i:=(ddp m).length - 1) (by omega)
  obtain⟨k,hkz⟩:=hsub z (List.mem_of_getElem? hz)
  obtain⟨x,hx⟩:=Xaq (l:=l) (i:=k) (by rw[hl];exact (Kr.1 hkz).1)
  have h1:=Xkk hx
  have h2:=Xkk hkz
  rw[e,h2] at h1
  have h3:=Option.some.inj h1
  have h4:(ddp l).idxOf x < (ddp l).length:=List.idxOf_lt_length_iff.2 (Xbp.2 (List.mem_of_getElem? hx))
  have h5:(ddp m).idxOf z=(ddp m).length - 1:=by
   obtain⟨hlt,he⟩:=Kr.1 hz
   rw[<- he]
   exact (Xmx m).idxOf_getElem _ hlt
  omega
end
section
variable {σ:Type} [DecidableEq σ] (f:List Int->List σ)
def rnd (c:List Int):List Int:=rkp (f c)
def cnt (c:List Int):Nat:=(ddp (f c)).length
def Xhl:Nat->Nat->Nat->List Int->List Int
 | 0,_,_,c=>c
 | k+1,n,m,c=>if n < m then Xhl k m (cnt f c) (rnd f c) else c
variable {f} {n:Nat}
def Yek (n:Nat) (c d:List Int):Prop:=∀ i j:Nat,i < n->j < n->c[i]?=c[j]?->d[i]?=d[j]?
structure Parts (f:List Int->List σ) (n:Nat):Prop where
 len:∀ c,(f c).length=n
 mono:∀ c d,Yek n c d->∀ i j:Nat,i < n->j < n->(f c)[i]?=(f c)[j]?->(f d)[i]?=(f d)[j]?
theorem Parts.rlen (h:Parts f n) (c:List Int):(rnd f c).length=n:=by unfold rnd;rw[Xj1,h.len]
theorem Parts.ker (h:Parts f n) (c:List Int) {i j:Nat} (hi:i < n) (hj:j < n):(rnd f c)[i]?=(rnd f c)[j]?↔(f c)[i]?=(f c)[j]?:=by
 obtain⟨a,ha⟩:=Xaq (l:=f c) (i:=i) (by rw[h.len];exact hi)
 obtain⟨b,hb⟩:=Xaq (l:=f c) (i:=j) (by rw[h.len];exact hj)
 unfold rnd
 rw[Wt2 ha hb,ha,hb]
 exact⟨fun e=>by rw[e],fun e=>Option.some.inj e⟩
theorem Parts.up (h:Parts f n) {c d:List Int} (hk:Yek n c d):Yek n (rnd f c) (rnd f d):=fun i j hi hj e=>(h.ker d hi hj).2 (h.mono c d hk i j hi hj ((h.ker c hi hj).1 e))
theorem Parts.cnt_le (h:Parts f n) (c:List Int):cnt f c<=n:=by have:=Yei (f c);rw[h.len] at this;exact this
theorem Parts.same (h:Parts f n) {c:List Int} (hk:Yek n (rnd f (rnd f c)) (rnd f c)) (hc:cnt f (rnd f c)<=cnt f c):rnd f (rnd f c)=rnd f c:=by
 have hf:∀ i j:Nat,i < n->j < n->(f (rnd f c))[i]?=(f (rnd f c))[j]?->(f c)[i]?=(f c)[j]?:=fun i j hi hj e=>(h.ker c hi hj).1 (hk i j hi hj ((h.ker _ hi hj).2 e))
 have hl:(f (rnd f c)).length=(f c).length:=by rw[h.len,h.len]
 have hs:=Xy2 hl (fun i j hi hj=>by rw[h.len] at hi hj;exact hf i j hi hj) hc
 exact Xup hl fun i j hi hj=>⟨by rw[h.len] at hi hj;exact hf i j hi hj,hs i j hi hj⟩
theorem Parts.end_ (h:Parts f n):∀ (k nn m:Nat) (c c':List Int),m=cnt f c'->c=rnd f c'->Yek n c c'->n+1<=k+nn->nn<=n->(nn=0\/∃ c'',c'=rnd f c''/\nn=cnt f c'')->rnd f (Xhl f k nn m c)=Xhl f k nn m c
 | 0,nn,m,c,c',_,_,_,h4,h5,_=>by omega
 | k+1,nn,m,c,c',h1,h2,h3,h4,h5,h6=>by
  simp only[Xhl]
  split
  ·rename_i hlt
   have hm:=h.cnt_le c'
   exact Parts.end_ h k m (cnt f c) (rnd f c) c rfl rfl (by rw[h2];exact h.up (by rw[<- h2];exact h3)) (by omega) (by omega) (.inr ⟨c',h2,h1⟩)
  ·rename_i hge
   rcases h6 with h6|⟨c'',h6,h7⟩
   ·have h0:cnt f c'=0:=by omega
    have hn:n=0:=by
     rcases Nat.eq_zero_or_pos n with e|e
     ·exact e
     ·exfalso
      obtain⟨a,ha⟩:=Xaq (l:=f c') (i:=0) (by rw[h.len];exact e)
      have:=List.length_pos_of_mem (Xbp.2 (List.mem_of_getElem? ha))
      unfold cnt at h0
      omega
    have e1:(rnd f c).length=0:=by rw[h.rlen,hn]
    have e2:c.length=0:=by rw[h2,h.rlen,hn]
    rw[List.eq_nil_of_length_eq_zero e1,List.eq_nil_of_length_eq_zero e2]
   ·have:=h.same (c:=c'') (by rw[<- h6,<- h2];exact h3) (by rw[<- h6,<- h1,<- h7];omega)
    rw[<- h6,<- h2] at this
    rw[this]
    exact h2.symm.trans this
theorem Xmy (I:List Int->Prop) (hI:∀ c,I c->I (rnd f c)):∀ (k nn m:Nat) (c:List Int),I c->I (Xhl f k nn m c)
 | 0,_,_,_,h=>h
 | k+1,nn,m,c,h=>by
  simp only[Xhl]
  split
  ·exact Xmy I hI k m _ _ (hI c h)
  ·exact h
theorem Parts.fuel (h:Parts f n):∀ (k k' nn m:Nat) (c:List Int),m<=n->n+1<=k+nn->n+1<=k'+nn->Xhl f k nn m c=Xhl f k' nn m c
 | 0,0,_,_,_,_,_,_=>rfl
 | 0,k'+1,nn,m,c,h1,h2,h3=>by simp only[Xhl];rw[if_neg (by omega)]
 | k+1,0,nn,m,c,h1,h2,h3=>by simp only[Xhl];rw[if_neg (by omega)]
 | k+1,k'+1,nn,m,c,h1,h2,h3=>by
  simp only[Xhl]
  split
  ·exact Parts.fuel h k k' m _ _ (h.cnt_le c) (by omega) (by omega)
  ·rfl
end
def Wt3 (l:List UInt8):Nat:=l.foldl (fun a b=>a*10+(b.toNat - 48)) 0
theorem Yn5 {n:Nat} (h:n < 256):(UInt8.ofNat n).toNat=n:=by simp;omega
theorem Xkz (u:Nat):Wt3 (Lib.decDigits u)=u:=by
 induction u using Nat.strongRecOn with
 | _ u ih =>
  rw[Lib.decDigits]
  split
  ·unfold Wt3
   simp only[List.foldl_cons,List.foldl_nil]
   rw[Yn5 (by omega)];omega
  ·have:=ih (u / 10) (by omega)
   unfold Wt3 at this ⊢
   rw[List.foldl_append,this]
   simp only[List.foldl_cons,List.foldl_nil]
   rw[Yn5 (by omega)];omega
theorem Xk0 (u:Nat):∀ b∈Lib.decDigits u,48<=b.toNat/\b.toNat<=57:=by
 induction u using Nat.strongRecOn with
 | _ u ih =>
  intro b hb
  rw[Lib.decDigits] at hb
  split at hb
  ·simp only[List.mem_singleton] at hb
   subst hb
   rw[Yn5 (by omega)];omega
  ·rcases List.mem_append.1 hb with hb|hb
   ·exact ih (u / 10) (by omega) b hb
   ·simp only[List.mem_singleton] at hb
    subst hb
    rw[Yn5 (by omega)];omega
theorem Wdp (u:Nat):Lib.decDigits u≠[]:=by
 rw[Lib.decDigits];split <;> simp
theorem Xmz (n:Int):∀ b∈Lib.itoa n,b=45\/(48<=b.toNat/\b.toNat<=57):=by
 intro b hb
 unfold Lib.itoa at hb
 split at hb
 ·rcases List.mem_cons.1 hb with rfl|hb
  ·exact .inl rfl
  ·exact .inr (Xk0 _ b hb)
 ·exact .inr (Xk0 _ b hb)
theorem Wdq (n:Int):Lib.itoa n≠[]:=by
 unfold Lib.itoa;split
 ·simp
 ·exact Wdp _
theorem Xp6 {a b:Int} (h:Lib.itoa a=Lib.itoa b):a=b:=by
 have no:∀ (u:Nat) (t:List UInt8),Lib.decDigits u≠45::t:=fun u t e=>by
  have:=Xk0 u 45 (by rw[e];simp)
  revert this;decide
 unfold Lib.itoa at h
 split at h <;> split at h
 ·have:=congrArg Wt3 (List.cons.inj h).2
  rw[Xkz,Xkz] at this;omega
 ·exact absurd h.symm (no _ _)
 ·exact absurd h (no _ _)
 ·have:=congrArg Wt3 h
  rw[Xkz,Xkz] at this;omega
theorem Xie:∀ {t t' u v:List UInt8},44 ∉ t->44 ∉ t'->t++44::u=t'++44::v->t=t'/\u=v
 | [],[],u,v,_,_,h=>⟨rfl,(List.cons.inj h).2⟩
 | [],b::t',u,v,_,h',h=>absurd (List.cons.inj h).1 (fun e=>h' (by rw[<- e];simp))
 | a::t,[],u,v,h',_,h=>absurd (List.cons.inj h).1 (fun e=>h' (by rw[e];simp))
 | a::t,b::t',u,v,h1,h2,h=>by
  obtain⟨e1,e2⟩:=List.cons.inj h
  obtain⟨e3,e4⟩:=Xie (fun k=>h1 (List.mem_cons_of_mem _ k)) (fun k=>h2 (List.mem_cons_of_mem _ k)) e2
  exact⟨by rw[e1,e3],e4⟩
theorem Xj2 (n:Int):44 ∉ Lib.itoa n:=fun h=>by
 have:=Xmz n 44 h
 revert this;decide
theorem Xp7 {α:Type} {e:α->List UInt8} {P:α->Prop} (hne:∀ x,e x≠[]) (h:∀ x y u v,P x->P y->e x++u=e y++v->x=y/\u=v) :
  ∀ {A B:List α},(∀ x∈A,P x)->(∀ x∈B,P x)->A.flatMap e=B.flatMap e->A=B
 | [],[],_,_,_=>rfl
 | [],b::B,_,_,hh=>by
  exfalso
  rw[List.flatMap_cons] at hh
  exact hne b (List.append_eq_nil_iff.1 hh.symm).1
 | a::A,[],_,_,hh=>by
  exfalso
  rw[List.flatMap_cons] at hh
  exact hne a (List.append_eq_nil_iff.1 hh).1
 | a::A,b::B,ha,hb,hh=>by
  rw[List.flatMap_cons,List.flatMap_cons] at hh
  obtain⟨e1,e2⟩:=h a b _ _ (ha a (by simp)) (hb b (by simp)) hh
  rw[e1,Xp7 hne h (fun x hx=>ha x (List.mem_cons_of_mem _ hx)) (fun x hx=>hb x (List.mem_cons_of_mem _ hx)) e2]
def Xhm (l:List Int):List UInt8:=l.flatMap fun n=>Lib.itoa n++[44]
theorem Yel {A B:List Int} (h:Xhm A=Xhm B):A=B:=by
 refine Xp7 (P:=fun _=>True) (fun x=>by simp) (fun x y u v _ _ h=>?_) (fun _ _=>trivial) (fun _ _=>trivial) h
 simp only[List.append_assoc,List.singleton_append] at h
 obtain⟨e1,e2⟩:=Xie (Xj2 x) (Xj2 y) h
 exact⟨Xp6 e1,e2⟩
def okR (r:Int):Prop:=0<=r/\r<=1114111/\¬ (55296<=r/\r<=57343)
theorem Xg4 {a b:Int} (ha:0<=a/\a < 256) (hb:0<=b/\b < 256) (h:a.toNat.toUInt8=b.toNat.toUInt8):a=b:=by
 have:=congrArg UInt8.toNat h
 simp only[Nat.toUInt8_eq,UInt8.toNat_ofNat'] at this
 omega
theorem Xuq {r r':Int} (h:okR r) (h':okR r') {x y:List UInt8} (e:Lib.encodeRune r++x=Lib.encodeRune r'++y):r=r'/\x=y:=by
 unfold okR at h h'
 have sz:∀ r:Int,0<=r/\r<=1114111/\¬ (55296<=r/\r<=57343) ->
   (r<=127/\Lib.encodeRuneZ r=[r])\/(128<=r/\r<=2047/\Lib.encodeRuneZ r=[192+r / 64,128+r % 64]) \/
   (2048<=r/\r<=65535/\Lib.encodeRuneZ r=[224+r / 4096,128+r / 64 % 64,128+r % 64]) \/
   (65536<=r/\Lib.encodeRuneZ r=[240+r / 262144,128+r / 4096 % 64,128+r / 64 % 64,128+r % 64]):=fun r h=>by
  by_cases h1:r<=127
  ·exact .inl ⟨h1,Lib.encodeRuneZ_one (by omega) h1⟩
  ·by_cases h2:r<=2047
   ·exact .inr (.inl ⟨by omega,h2,Lib.encodeRuneZ_two (by omega) h2⟩)
   ·by_cases h3:r<=65535
    ·exact .inr (.inr (.inl ⟨by omega,h3,Lib.encodeRuneZ_three (by omega)⟩))
    ·exact .inr (.inr (.inr ⟨by omega,Lib.encodeRuneZ_four (by omega) (by omega)⟩))
 unfold Lib.encodeRune at e
 rcases sz r h with ⟨h1,e1⟩|⟨h1,h2,e1⟩|⟨h1,h2,e1⟩|⟨h1,e1⟩ <;> rcases sz r' h' with ⟨k1,e2⟩|⟨k1,k2,e2⟩|⟨k1,k2,e2⟩|⟨k1,e2⟩ <;> rw[e1,e2] at e <;>
  simp only[List.map_cons,List.map_nil,List.cons_append,List.nil_append,List.cons.injEq] at e
 all_goals first
  | (exfalso;have:=Xg4 (by omega) (by omega) e.1;omega)
  | (obtain⟨a1,a2,a3,a4,a5⟩:=e
     have b1:=Xg4 (by omega) (by omega) a1
     have b2:=Xg4 (by omega) (by omega) a2
     have b3:=Xg4 (by omega) (by omega) a3
     have b4:=Xg4 (by omega) (by omega) a4
     exact⟨by omega,a5⟩)
  | (obtain⟨a1,a2,a3,a4⟩:=e
     have b1:=Xg4 (by omega) (by omega) a1
     have b2:=Xg4 (by omega) (by omega) a2
     have b3:=Xg4 (by omega) (by omega) a3
     exact⟨by omega,a4⟩)
  | (obtain⟨a1,a2,a3⟩:=e
     have b1:=Xg4 (by omega) (by omega) a1
     have b2:=Xg4 (by omega) (by omega) a2
     exact⟨by omega,a3⟩)
  | (obtain⟨a1,a2⟩:=e
     have b1:=Xg4 (by omega) (by omega) a1
     exact⟨by omega,a2⟩)
def Xer (l:List Int):List UInt8:=l.flatMap Lib.encodeRune
theorem Xy4:∀ {A B:List Int} {x y:List UInt8},(∀ r∈A,okR r)->(∀ r∈B,okR r)->Xer A++x=Xer B++y->(∃ t,B=A++t/\x=Xer t++y)\/∃ t,A=B++t/\y=Xer t++x
 | [],B,x,y,_,_,h=>.inl ⟨B,rfl,by simpa [Xer] using h⟩
 | a::A,[],x,y,_,_,h=>.inr ⟨a::A,rfl,by simpa [Xer] using h.symm⟩
 | a::A,b::B,x,y,ha,hb,h=>by
  simp only[Xer,List.flatMap_cons,List.append_assoc] at h
  obtain⟨e1,e2⟩:=Xuq (ha a (by simp)) (hb b (by simp)) h
  subst e1
  rcases Xy4 (fun r hr=>ha r (List.mem_cons_of_mem _ hr)) (fun r hr=>hb r (List.mem_cons_of_mem _ hr)) e2 with ⟨t,h1,h2⟩|⟨t,h1,h2⟩
  ·exact .inl ⟨t,by rw[h1];rfl,h2⟩
  ·exact .inr ⟨t,by rw[h1];rfl,h2⟩
def sgF (s:ByteArray):Nat->Nat->List Int
 | 0,_=>[]
 | f+1,p=>if p < s.size then ((Utf8.decode s p).1:Int)::sgF s f (p+(Utf8.decode s p).2) else []
def sgS (s:ByteArray):List Int:=sgF s s.size 0
theorem Wt4 {s:ByteArray} {f p:Nat} (h:¬ p < s.size):sgF s f p=[]:=by
 cases f with
 | zero=>rfl
 | succ f=>simp only[sgF,if_neg h]
theorem Xg5 {s:ByteArray} {p:Nat} (h:p < s.size):s.data.toList.drop p≠[]:=by
 intro e
 have:=congrArg List.length e
 simp at this
 have:s.data.size=s.size:=rfl
 omega
theorem Wt5 {s:ByteArray} {p:Nat} (hp:p < s.size) (hv:¬ ((Utf8.decode s p).1=65533/\(Utf8.decode s p).2=1)):okR ((Utf8.decode s p).1:Int):=by
 have h0:=Lib.decodeL_drop s p
 have hne:=Xg5 hp
 have h1:=Lib.decodeL_N (s.data.toList.drop p)
 have hl:1<=(s.data.toList.drop p).length:=List.length_pos_iff.2 hne
 have h2:=Wdm hl ((s.data.toList.drop p).getD 0 0).toNat_lt ((s.data.toList.drop p).getD 1 0).toNat_lt ((s.data.toList.drop p).getD 2 0).toNat_lt ((s.data.toList.drop p).getD 3 0).toNat_lt
 rw[<- h1,h0,if_neg hv] at h2
 have hw:=Lib.decode_width_pos s p hp
 unfold Ywv at h2
 split at h2
 ·rw[<- h2] at hw;simp at hw
 ·split at h2
  ·rename_i hs
   rw[Bool.and_eq_true] at hs
   have:=of_decide_eq_true hs.1
   rw[<- h2]
   unfold okR
   dsimp only
   omega
  ·rw[<- h2] at hw;simp at hw
theorem Yem {s:ByteArray}:∀ {f p:Nat},Xbs s f p=true->∀ r∈sgF s f p,okR r
 | 0,_,_,r,hr=>by cases hr
 | f+1,p,h,r,hr=>by
  simp only[Xbs,sgF] at h hr
  split at hr
  ·rename_i hp
   rw[if_pos hp] at h
   split at h
   ·cases h
   ·rename_i hv
    rcases List.mem_cons.1 hr with rfl|hr
    ·exact Wt5 hp hv
    ·exact Yem h r hr
  ·cases hr
theorem Xm0 {s:ByteArray}:∀ {f p:Nat},Xbs s f p=true->s.size - p<=f->Xer (sgF s f p)=s.data.toList.drop p
 | 0,p,_,h=>by
  have:s.data.toList.drop p=[]:=List.drop_of_length_le (by
   have:s.data.toList.length=s.size:=by simp
   omega)
  rw[this];rfl
 | f+1,p,h,hf=>by
  simp only[Xbs,sgF] at h ⊢
  split
  ·rename_i hp
   rw[if_pos hp] at h
   split at h
   ·cases h
   ·rename_i hv
    have hw:=Lib.decode_width_pos s p hp
    have ih:=Xm0 h (by omega)
    have h0:=Lib.decodeL_drop s p
    have he:=Lib.encode_decode (s.data.toList.drop p) (Xg5 hp) (by rw[h0];exact hv)
    rw[h0] at he
    simp only[Xer,List.flatMap_cons] at ih ⊢
    rw[ih,he,<- List.drop_drop,List.take_append_drop]
  ·rename_i hp
   have:s.data.toList.drop p=[]:=List.drop_of_length_le (by
    have:s.data.toList.length=s.size:=by simp
    omega)
   rw[this];rfl
theorem Wdr {s t:ByteArray} (hs:Xag s=true) (ht:Xag t=true) (h:sgS s=sgS t):s=t:=by
 have h1:=Xm0 (p:=0) hs (by omega)
 have h2:=Xm0 (p:=0) ht (by omega)
 unfold sgS at h
 rw[h,h2] at h1
 simp only[List.drop_zero] at h1
 cases s;cases t
 simp only[ByteArray.mk.injEq]
 exact (Array.toList_inj.1 h1).symm
def X04 (n:Int):Int:=if n < 10 then 48+n else 87+n
def pcR (r:Int):List Int :=
 if r=10 then [92,110] else if r=9 then [92,116] else if r=13 then [92,114]
 else if r=34\/r=92 then [92,r] else if 32<=r/\r≠127 then [r] else [92,120,X04 (r / 16),X04 (r % 16)]
theorem Yen {r:Int} (h:okR r):∀ x∈pcR r,okR x:=by
 unfold okR at h
 have k:∀ x:Int,0<=x->x<=127->okR x:=fun x h1 h2=>by unfold okR;omega
 unfold pcR
 intro x hx
 split at hx
 ·simp only[List.mem_cons,List.not_mem_nil,or_false] at hx;exact k x (by omega) (by omega)
 ·split at hx
  ·simp only[List.mem_cons,List.not_mem_nil,or_false] at hx;exact k x (by omega) (by omega)
  ·split at hx
   ·simp only[List.mem_cons,List.not_mem_nil,or_false] at hx;exact k x (by omega) (by omega)
   ·split at hx
    ·simp only[List.mem_cons,List.not_mem_nil,or_false] at hx;exact k x (by omega) (by omega)
    ·split at hx
     ·simp only[List.mem_singleton] at hx;subst hx;exact h
     ·simp only[List.mem_cons,List.not_mem_nil,or_false] at hx
      unfold X04 at hx
      refine k x ?_ ?_
      ·split at hx <;> split at hx <;> omega
      ·split at hx <;> split at hx <;> omega
theorem Yww {r r':Int} {t:List Int} (h0:0<=r) (h1:0<=r') (h:pcR r'=pcR r++t):r=r'/\t=[]:=by
 unfold pcR X04 at h
 (repeat' split at h) <;> simp only[List.cons_append,List.nil_append,List.cons.injEq,List.nil_eq,reduceCtorEq,and_false,false_and] at h <;> first|(exfalso;omega)|exact⟨by omega,by simp_all⟩
theorem Yeo {r:Int}:∃ a t,pcR r=a::t/\a≠34:=by
 unfold pcR
 (repeat' split) <;> exact⟨_,_,rfl,by omega⟩
theorem Yep:∀ {A B:List Int} {x y:List UInt8},(∀ r∈A,okR r)->(∀ r∈B,okR r)->Xer (A.flatMap pcR)++34::x=Xer (B.flatMap pcR)++34::y->A=B/\x=y
 | [],[],x,y,_,_,h=>⟨rfl,(List.cons.inj h).2⟩
 | [],b::B,x,y,_,hb,h=>by
  exfalso
  obtain⟨a,t,e1,e2⟩:=Yeo (r:=b)
  have ok:okR a:=Yen (hb b (by simp)) a (by rw[e1];simp)
  rw[List.flatMap_cons,e1] at h
  have h34:Lib.encodeRune 34=[34]:=by decide
  have:=Xuq (r:=34) (r':=a) (x:=x) (y:=Xer (t++B.flatMap pcR)++34::y) (by unfold okR;omega) ok (by
   rw[h34];simpa [Xer] using h)
  exact e2 this.1.symm
 | a::A,[],x,y,ha,_,h=>by
  exfalso
  obtain⟨b,t,e1,e2⟩:=Yeo (r:=a)
  have ok:okR b:=Yen (ha a (by simp)) b (by rw[e1];simp)
  rw[List.flatMap_cons,e1] at h
  have h34:Lib.encodeRune 34=[34]:=by decide
  have:=Xuq (r:=34) (r':=b) (x:=y) (y:=Xer (t++A.flatMap pcR)++34::x) (by unfold okR;omega) ok (by
   rw[h34];simpa [Xer] using h.symm)
  exact e2 this.1.symm
 | a::A,b::B,x,y,ha,hb,h=>by
  have oa:=ha a (by simp)
  have ob:=hb b (by simp)
  simp only[List.flatMap_cons,Xer,List.flatMap_append,List.append_assoc] at h
  have key:a=b:=by
   rcases Xy4 (A:=pcR a) (B:=pcR b) (Yen oa) (Yen ob) h with ⟨t,h1,_⟩|⟨t,h1,_⟩
   ·exact (Yww oa.1 ob.1 h1).1
   ·exact (Yww ob.1 oa.1 h1).1.symm
  subst key
  obtain⟨e1,e2⟩:=Yep (fun r hr=>ha r (List.mem_cons_of_mem _ hr)) (fun r hr=>hb r (List.mem_cons_of_mem _ hr)) (List.append_cancel_left h)
  exact⟨by rw[e1],e2⟩
def X1z (s:ByteArray):List UInt8:=34::(Xer ((sgS s).flatMap pcR)++[34])
theorem Yn6 {s t:ByteArray} {x y:List UInt8} (hs:Xag s=true) (ht:Xag t=true) (h:X1z s++x=X1z t++y):s=t/\x=y:=by
 unfold X1z at h
 simp only[List.cons_append,List.cons.injEq,true_and,List.append_assoc,List.singleton_append,List.nil_append] at h
 obtain⟨e1,e2⟩:=Yep (Yem hs) (Yem ht) h
 exact⟨Wdr hs ht e1,e2⟩
def Xj3 (b:Bool):List UInt8:=if b then [116,114,117,101] else [102,97,108,115,101]
def scB (x:Sc):List UInt8 :=
 if x.k=0 then [110,117,108,108] else if x.k=1 then Xj3 (decide (x.n=1)) else if x.k=2 then Lib.itoa x.n else X1z x.s
theorem Xf6 {R:ByteArray->Bool} {x:Sc} (h:prR R x=true):(x.k=0/\x=⟨0,0,⟨#[]⟩⟩)\/(x.k=1/\x.s=⟨#[]⟩/\(x.n=0\/x.n=1))\/(x.k=2/\x.s=⟨#[]⟩/\-Xmh<=x.n/\x.n<=Xmh)\/(x.k=3/\x.n=0/\R x.s=true):=by
 unfold prR at h
 split at h
 ·exact .inl ⟨‹_›,of_decide_eq_true h⟩
 ·split at h
  ·simp only[Bool.and_eq_true,Bool.or_eq_true,decide_eq_true_eq] at h
   exact .inr (.inl ⟨‹_›,h⟩)
  ·split at h
   ·simp only[Bool.and_eq_true,decide_eq_true_eq] at h
    exact .inr (.inr (.inl ⟨‹_›,h⟩))
   ·split at h
    ·simp only[Bool.and_eq_true,decide_eq_true_eq] at h
     exact .inr (.inr (.inr ⟨‹_›,h⟩))
    ·cases h
theorem Xk1 {x:Sc} (h:prR Xag x=true) (hk:x.k≠3):44 ∉ scB x/\∃ b t,scB x=b::t/\b≠34:=by
 unfold scB Xj3
 rcases Xf6 h with ⟨h1,h2⟩|⟨h1,h2,h3⟩|⟨h1,h2,h3⟩|⟨h1,_⟩
 ·rw[if_pos h1];exact⟨by decide,_,_,rfl,by decide⟩
 ·rw[if_neg (by omega),if_pos h1]
  split
  ·exact⟨by decide,_,_,rfl,by decide⟩
  ·exact⟨by decide,_,_,rfl,by decide⟩
 ·rw[if_neg (by omega),if_neg (by omega),if_pos h1]
  refine⟨Xj2 _,?_⟩
  cases e:Lib.itoa x.n with
  | nil=>exact absurd e (Wdq _)
  | cons b t =>
   refine⟨b,t,rfl,fun hb=>?_⟩
   have:=Xmz x.n b (by rw[e];simp)
   rw[hb] at this
   revert this;decide
 ·exact absurd h1 hk
theorem Yeq {x y:Sc} (h1:x.k=y.k) (h2:x.n=y.n) (h3:x.s=y.s):x=y:=by
 cases x;cases y;simp only at h1 h2 h3;subst h1;subst h2;subst h3;rfl
theorem Wds {x y:Sc} (hx:prR Xag x=true) (hy:prR Xag y=true) (kx:x.k≠3) (ky:y.k≠3) (h:scB x=scB y):x=y:=by
 have no:∀ (n:Int) (b:UInt8) (t:List UInt8),57 < b.toNat->Lib.itoa n≠b::t:=fun n b t hb e=>by
  have:=Xmz n b (by rw[e];simp)
  rcases this with rfl|this
  ·revert hb;decide
  ·omega
 have q0:∀ z:Sc,z.k=0->scB z=[110,117,108,108]:=fun z hz=>by unfold scB;rw[if_pos hz]
 have q1:∀ z:Sc,z.k=1->scB z=Xj3 (decide (z.n=1)):=fun z hz=>by unfold scB;rw[if_neg (by omega),if_pos hz]
 have q2:∀ z:Sc,z.k=2->scB z=Lib.itoa z.n:=fun z hz=>by unfold scB;rw[if_neg (by omega),if_neg (by omega),if_pos hz]
 have hb:∀ b:Bool,Xj3 b=[116,114,117,101]\/Xj3 b=[102,97,108,115,101]:=fun b=>by cases b <;> simp[Xj3]
 have b0:∀ b:Bool,Xj3 b≠[110,117,108,108]:=fun b=>by cases b <;> decide
 have bn:∀ (b:Bool) (n:Int),Lib.itoa n≠Xj3 b:=fun b n=>by
  rcases hb b with e|e <;> rw[e]
  ·exact no _ _ _ (by decide)
  ·exact no _ _ _ (by decide)
 rcases Xf6 hx with ⟨h1,h2⟩|⟨h1,h2,h3⟩|⟨h1,h2,h3⟩|⟨h1,_⟩ <;> rcases Xf6 hy with ⟨k1,k2⟩|⟨k1,k2,k3⟩|⟨k1,k2,k3⟩|⟨k1,_⟩
 all_goals try contradiction
 ·exact h2.trans k2.symm
 ·rw[q0 x h1,q1 y k1] at h;exact absurd h.symm (b0 _)
 ·rw[q0 x h1,q2 y k1] at h;exact absurd h.symm (no _ _ _ (by decide))
 ·rw[q1 x h1,q0 y k1] at h;exact absurd h (b0 _)
 ·rw[q1 x h1,q1 y k1] at h
  have hn:x.n=y.n:=by
   rcases h3 with h3|h3 <;> rcases k3 with k3|k3 <;> rw[h3,k3] at h ⊢
   ·exact absurd h (by decide)
   ·exact absurd h (by decide)
  exact Yeq (h1.trans k1.symm) hn (h2.trans k2.symm)
 ·rw[q1 x h1,q2 y k1] at h;exact absurd h.symm (bn _ _)
 ·rw[q2 x h1,q0 y k1] at h;exact absurd h (no _ _ _ (by decide))
 ·rw[q2 x h1,q1 y k1] at h;exact absurd h (bn _ _)
 ·rw[q2 x h1,q2 y k1] at h;exact Yeq (h1.trans k1.symm) (Xp6 h) (h2.trans k2.symm)
theorem Wdt {x y:Sc} {u v:List UInt8} (hx:prR Xag x=true) (hy:prR Xag y=true) (h:(scB x++[44])++u=(scB y++[44])++v):x=y/\u=v:=by
 simp only[List.append_assoc,List.singleton_append] at h
 have q3:∀ z:Sc,z.k=3->scB z=X1z z.s:=fun z hz=>by unfold scB;rw[if_neg (by omega),if_neg (by omega),if_neg (by omega)]
 by_cases kx:x.k=3 <;> by_cases ky:y.k=3
 ·rw[q3 x kx,q3 y ky] at h
  rcases Xf6 hx with ⟨h1,_⟩|⟨h1,_⟩|⟨h1,_⟩|⟨_,h1,h2⟩ <;> rcases Xf6 hy with ⟨k1,_⟩|⟨k1,_⟩|⟨k1,_⟩|⟨_,k1,k2⟩ <;> try omega
  obtain⟨e1,e2⟩:=Yn6 h2 k2 h
  exact⟨Yeq (kx.trans ky.symm) (h1.trans k1.symm) e1,(List.cons.inj e2).2⟩
 ·obtain⟨_,b,t,e1,e2⟩:=Xk1 hy ky
  rw[q3 x kx,e1] at h
  exact absurd (List.cons.inj h).1.symm e2
 ·obtain⟨_,b,t,e1,e2⟩:=Xk1 hx kx
  rw[q3 y ky,e1] at h
  exact absurd (List.cons.inj h).1 e2
 ·obtain⟨e1,e2⟩:=Xie (Xk1 hx kx).1 (Xk1 hy ky).1 h
  exact⟨Wds hx hy kx ky e1,e2⟩
def Xhn (l:List Sc):List UInt8:=l.flatMap fun x=>scB x++[44]
theorem Yer {A B:List Sc} (ha:∀ x∈A,prR Xag x=true) (hb:∀ x∈B,prR Xag x=true) (h:Xhn A=Xhn B):A=B :=
 Xp7 (P:=fun x=>prR Xag x=true) (fun x=>by simp) (fun x y u v hx hy h=>Wdt hx hy h) ha hb h
structure Fine (l:List Nd):Prop where
 node:∀ x∈l,Xa8 Xag x l.length=true
 small:∀ x∈l,x.keys.length<=12/\x.kids.length<=12
theorem Good.fine {g:Gr} (h:Good g):Fine g.l:=⟨(Xmj h.c).2.2,h.s⟩
abbrev kdL (l:List Nd) (i:Int):List Int:=Xak (Xbc l i)
def inL (l:List Nd) (i:Int):Prop:=0<=i/\i < l.length
instance (l:List Nd) (i:Int):Decidable (inL l i):=inferInstanceAs (Decidable (_/\_))
theorem Xsm {l:List Nd} {i:Int} (h:inL l i):l[i.toNat]?=some (Xbc l i):=by
 unfold inL at h
 unfold Xbc
 rw[if_pos h]
 have:i.toNat < l.length:=by omega
 rw[List.getElem?_eq_getElem this];rfl
theorem Xg6 {l:List Nd} {n:Nat} {x:Nd} (h:l[n]?=some x):inL l n/\Xbc l n=x:=by
 have hn:=(Kr.1 h).1
 have hi:inL l n:=⟨by omega,by omega⟩
 refine⟨hi,?_⟩
 have:=Xsm hi
 rw[Int.toNat_natCast,h] at this
 exact (Option.some.inj this).symm
theorem Fine.at {l:List Nd} (h:Fine l) {i:Int} (hi:inL l i):KidsOK (Xbc l i) l.length:=Xjv (h.node _ (Xpt hi))
theorem Fine.kid {l:List Nd} (h:Fine l) (i:Int):∀ j∈kdL l i,inL l j:=by
 by_cases hi:inL l i
 ·exact (h.at hi).inn
 ·intro j hj
  rw[kdL,Xi6 hi] at hj
  simp[Xak,Xab,Nd.zero] at hj
theorem Fine.klen {l:List Nd} (h:Fine l) (i:Int):(kdL l i).length=(Xbc l i).kids.length:=by
 by_cases hi:inL l i
 ·exact (h.at hi).len
 ·rw[kdL,Xi6 hi];rfl
structure Bis (l m:List Nd) (R:Int->Int->Prop):Prop where
 inn:∀ a b,R a b->inL l a/\inL m b
 fit:∀ a b,R a b->X02 (Xbc l a) (Xbc m b)=true
 kid:∀ a b,R a b->∀ (i:Nat) (p q:Int),(kdL l a)[i]?=some p->(kdL m b)[i]?=some q->R p q
def Sim (l m:List Nd) (a b:Int):Prop:=∃ R,Bis l m R/\R a b
section
variable {l m n:List Nd} {a b c:Int}
theorem Xur:Bis l m (Sim l m):=⟨fun _ _ ⟨_,h,r⟩=>h.inn _ _ r,fun _ _ ⟨_,h,r⟩=>h.fit _ _ r,fun _ _ ⟨R,h,r⟩ i p q hp hq=>⟨R,h,h.kid _ _ r i p q hp hq⟩⟩
theorem Sim.inn (h:Sim l m a b):inL l a/\inL m b:=Xur.inn _ _ h
theorem Sim.fit (h:Sim l m a b):X02 (Xbc l a) (Xbc m b)=true:=Xur.fit _ _ h
theorem Sim.kid (h:Sim l m a b) {i:Nat} {p q:Int} (hp:(kdL l a)[i]?=some p) (hq:(kdL m b)[i]?=some q):Sim l m p q:=Xur.kid _ _ h i p q hp hq
theorem Sim.klen (hl:Fine l) (hm:Fine m) (h:Sim l m a b):(kdL l a).length=(kdL m b).length:=by
 rw[hl.klen,hm.klen];exact (Xb7.1 h.fit).2.2.2
theorem Yes {x y:Nd} (h:X02 x y=true):X02 y x=true:=by
 obtain⟨h1,h2,h3,h4⟩:=Xb7.1 h
 exact Xb7.2 ⟨h1.symm,h2.symm,h3.symm,h4.symm⟩
theorem X05 {x y z:Nd} (h:X02 x y=true) (k:X02 y z=true):X02 x z=true:=by
 obtain⟨h1,h2,h3,h4⟩:=Xb7.1 h
 obtain⟨k1,k2,k3,k4⟩:=Xb7.1 k
 exact Xb7.2 ⟨h1.trans k1,h2.trans k2,h3.trans k3,h4.trans k4⟩
theorem Sim.symm (h:Sim l m a b):Sim m l b a:=by
 obtain⟨R,hR,r⟩:=h
 exact⟨fun x y=>R y x,⟨fun _ _ r=>(hR.inn _ _ r).symm,fun _ _ r=>Yes (hR.fit _ _ r),fun _ _ r i p q hp hq=>hR.kid _ _ r i q p hq hp⟩,r⟩
theorem Sim.trans (hl:Fine l) (hm:Fine m) (h:Sim l m a b) (k:Sim m n b c):Sim l n a c:=by
 refine⟨fun x z=>∃ y,Sim l m x y/\Sim m n y z,⟨fun x z ⟨y,h1,h2⟩=>⟨h1.inn.1,h2.inn.2⟩,fun x z ⟨y,h1,h2⟩=>X05 h1.fit h2.fit,fun x z ⟨y,h1,h2⟩ i p q hp hq=>?_⟩,b,h,k⟩
 obtain⟨w,hw⟩:=Xaq (l:=kdL m y) (i:=i) (by rw[<- h1.klen hl hm];exact (Kr.1 hp).1)
 exact⟨w,h1.kid hp hw,h2.kid hw hq⟩
end
structure Say where
 k:Int
 x:Sc
 keys:List Sc
 kids:List (Option Int)
 deriving DecidableEq
def X10 (x:Nd) (c:List Int):Say:=⟨x.k,x.x,Xap x,(Xak x).map fun j=>c[j.toNat]?⟩
def Xge (l:List Nd) (c:List Int):List Say:=l.map fun x=>X10 x c
abbrev Xes (n:Nat):List Int:=List.replicate n 0
def Xgg (l:List Nd):List Int:=Xhl (Xge l) (l.length+1) 0 (cnt (Xge l) (Xes l.length)) (rnd (Xge l) (Xes l.length))
theorem Xol {α β γ:Type} {f:α->γ} {g:β->γ}:∀ {A:List α} {B:List β},A.map f=B.map g↔A.length=B.length/\∀ (i:Nat) (p:α) (q:β),A[i]?=some p->B[i]?=some q->f p=g q
 | [],[]=>by simp
 | [],_::_=>by simp
 | _::_,[]=>by simp
 | a::A,b::B=>by
  simp only[List.map_cons,List.cons.injEq,List.length_cons,Nat.add_right_cancel_iff]
  rw[Xol]
  constructor
  ·rintro⟨h,hl,hh⟩
   refine⟨hl,fun i p q hp hq=>?_⟩
   cases i with
   | zero=>simp at hp hq;subst hp;subst hq;exact h
   | succ i=>exact hh i p q (by simpa using hp) (by simpa using hq)
  ·rintro⟨hl,hh⟩
   exact⟨hh 0 a b rfl rfl,hl,fun i p q hp hq=>hh (i+1) p q (by simpa using hp) (by simpa using hq)⟩
theorem Xm1 {x y:Nd} {c:List Int}:X10 x c=X10 y c↔x.k=y.k/\x.x=y.x/\Xap x=Xap y/\(Xak x).length=(Xak y).length/\∀ (i:Nat) (p q:Int),(Xak x)[i]?=some p->(Xak y)[i]?=some q->c[p.toNat]?=c[q.toNat]?:=by
 unfold X10
 rw[Say.mk.injEq,Xol]
section
variable {l:List Nd}
theorem Xg7 {c:List Int} {i:Int} (h:inL l i):(Xge l c)[i.toNat]?=some (X10 (Xbc l i) c):=by unfold Xge;rw[List.getElem?_map,Xsm h];rfl
theorem Xp8 (c:List Int):(Xge l c).length=l.length:=by simp[Xge]
theorem Xp9 {i:Nat} (h:i < l.length):inL l i:=⟨by omega,by omega⟩
theorem Fine.parts (h:Fine l):Parts (Xge l) l.length where
 len c:=Xp8 c
 mono c d hk i j hi hj e:=by
  have h1:=Xg7 (c:=c) (Xp9 hi)
  have h2:=Xg7 (c:=c) (Xp9 hj)
  have h3:=Xg7 (c:=d) (Xp9 hi)
  have h4:=Xg7 (c:=d) (Xp9 hj)
  rw[Int.toNat_natCast] at h1 h2 h3 h4
  rw[h1,h2] at e
  rw[h3,h4]
  obtain⟨e1,e2,e3,e4,e5⟩:=Xm1.1 (Option.some.inj e)
  rw[Xm1.2 ⟨e1,e2,e3,e4,fun n p q hp hq=>?_⟩]
  have hp':=h.kid _ _ (List.mem_of_getElem? hp)
  have hq':=h.kid _ _ (List.mem_of_getElem? hq)
  unfold inL at hp' hq'
  exact hk _ _ (by omega) (by omega) (e5 n p q hp hq)
theorem Xqa (h:Fine l):(Xgg l).length=l.length:=by
 unfold Xgg
 exact Xmy (fun c=>c.length=l.length) (fun c _=>h.parts.rlen c) _ _ _ _ (h.parts.rlen _)
theorem Xy5 (h:Fine l):rnd (Xge l) (Xgg l)=Xgg l:=by
 unfold Xgg
 refine h.parts.end_ _ _ _ _ (Xes l.length) rfl rfl (fun i j hi hj _=>?_) (Nat.le_refl _) (Nat.zero_le _) (.inl rfl)
 simp[Xes,List.getElem?_replicate,hi,hj]
theorem Yet (h:Fine l) {a b:Int} (ha:inL l a) (hb:inL l b):(Xgg l)[a.toNat]?=(Xgg l)[b.toNat]?↔X10 (Xbc l a) (Xgg l)=X10 (Xbc l b) (Xgg l):=by
 have h1:=ha
 have h2:=hb
 unfold inL at h1 h2
 have:=h.parts.ker (Xgg l) (i:=a.toNat) (j:=b.toNat) (by omega) (by omega)
 rw[Xy5 h,Xg7 ha,Xg7 hb] at this
 rw[this,Option.some.injEq]
theorem Wdu (h:Fine l):Bis l l fun a b=>inL l a/\inL l b/\(Xgg l)[a.toNat]?=(Xgg l)[b.toNat]? where
 inn a b r:=⟨r.1,r.2.1⟩
 fit a b r:=by
  obtain⟨e1,e2,e3,e4,_⟩:=Xm1.1 ((Yet h r.1 r.2.1).1 r.2.2)
  exact Xb7.2 ⟨e1,e2,e3,by rw[<- h.klen,<- h.klen];exact e4⟩
 kid a b r i p q hp hq:=by
  obtain⟨_,_,_,_,e5⟩:=Xm1.1 ((Yet h r.1 r.2.1).1 r.2.2)
  exact⟨h.kid _ _ (List.mem_of_getElem? hp),h.kid _ _ (List.mem_of_getElem? hq),e5 i p q hp hq⟩
theorem X06 (h:Fine l) {R:Int->Int->Prop} (hR:Bis l l R) {a b:Int} (r:R a b):(Xgg l)[a.toNat]?=(Xgg l)[b.toNat]?:=by
 have step:∀ c:List Int,(∀ a b,R a b->c[a.toNat]?=c[b.toNat]?)->∀ a b,R a b->(rnd (Xge l) c)[a.toNat]?=(rnd (Xge l) c)[b.toNat]?:=fun c hc a b r=>by
  obtain⟨ha,hb⟩:=hR.inn a b r
  have h1:=ha
  have h2:=hb
  unfold inL at h1 h2
  rw[h.parts.ker c (by omega) (by omega),Xg7 ha,Xg7 hb,Option.some.injEq]
  obtain⟨f1,f2,f3,f4⟩:=Xb7.1 (hR.fit a b r)
  exact Xm1.2 ⟨f1,f2,f3,by rw[<- h.klen,<- h.klen] at f4;exact f4,fun i p q hp hq=>hc _ _ (hR.kid a b r i p q hp hq)⟩
 have:=Xmy (f:=Xge l) (fun c=>∀ a b,R a b->c[a.toNat]?=c[b.toNat]?) step (l.length+1) 0 (cnt (Xge l) (Xes l.length)) (rnd (Xge l) (Xes l.length)) (step _ fun a b r=>by
  obtain⟨ha,hb⟩:=hR.inn a b r
  unfold inL at ha hb
  have e1:a.toNat < l.length:=by omega
  have e2:b.toNat < l.length:=by omega
  simp[Xes,List.getElem?_replicate,e1,e2])
 exact this a b r
theorem Wdv (h:Fine l) {a b:Int} (ha:inL l a) (hb:inL l b):(Xgg l)[a.toNat]?=(Xgg l)[b.toNat]?↔Sim l l a b :=
 ⟨fun e=>⟨_,Wdu h,ha,hb,e⟩,fun ⟨_,hR,r⟩=>X06 h hR r⟩
theorem Yeu (h:Fine l) {a:Int} (ha:inL l a):∃ c,(Xgg l)[a.toNat]?=some c:=by
 unfold inL at ha
 exact Xaq (by rw[Xqa h];omega)
theorem Wdw (h:Fine l):Xgg l=rkp (Xge l (Xgg l)):=(Xy5 h).symm
end
def Xcp (n:Int) (x:Nd):Nd:=⟨x.k,x.x,x.keys,x.kids.map fun i=>i+n⟩
def Xc1 (l m:List Nd):List Nd:=l++m.map (Xcp l.length)
theorem Xy6 {φ:Pr->Pr} (hφ:∀ p,(φ p).key=p.key) (x:Pr) (p:List Pr):∀ j,Xnk Xhk (φ x) (p.map φ) j=(Xnk Xhk x p j).map φ
 | 0=>rfl
 | j+1=>by
  simp only[Xnk,List.getElem?_map]
  cases e:p[j]? with
  | none=>simp
  | some y =>
   have hc:Xhk (φ x) (φ y)=Xhk x y:=by unfold Xhk;rw[hφ,hφ]
   simp only[Option.map_some,hc]
   split
   ·exact Xy6 hφ x p j
   ·simp[List.map_take,List.map_drop]
theorem Xj4 {φ:Pr->Pr} (hφ:∀ p,(φ p).key=p.key) (l:List Pr):∀ i,Xbm Xhk (l.map φ) i=(Xbm Xhk l i).map φ
 | 0=>rfl
 | i+1=>by
  simp only[Xbm,List.getElem?_map]
  cases e:l[i]? with
  | none=>exact Xj4 hφ l i
  | some x=>simp only[Option.map_some,Xj4 hφ l i,Xy6 hφ]
theorem Yev {φ:Pr->Pr} (hφ:∀ p,(φ p).key=p.key) (l:List Pr):srt (l.map φ)=(srt l).map φ:=by
 unfold srt
 rw[List.length_map];exact Xj4 hφ l _
theorem X07 (n:Int) (x:Nd):Xdf (Xcp n x)=(Xdf x).map fun p=>⟨p.key,p.kid+n⟩:=by
 unfold Xdf Xcp
 simp only
 rw[List.zipWith_map_right,List.map_zipWith]
theorem Xom (n:Int) (x:Nd):Xak (Xcp n x)=(Xak x).map (fun i=>i+n)/\Xap (Xcp n x)=Xap x:=by
 have hs:srt (Xdf (Xcp n x))=(srt (Xdf x)).map fun p=>⟨p.key,p.kid+n⟩:=by rw[X07];exact Yev (φ:=fun p=>⟨p.key,p.kid+n⟩) (fun _=>rfl) _
 have hk:(Xcp n x).k=x.k:=rfl
 have hl:(Xcp n x).kids.length=x.kids.length:=by simp[Xcp]
 have hky:(Xcp n x).keys=x.keys:=rfl
 have hp:Xab (Xcp n x)=(Xab x).map fun p=>⟨p.key,p.kid+n⟩:=by
  unfold Xab
  rw[hk,hl,hky]
  split
  ·exact hs
  ·rfl
 constructor
 ·unfold Xak
  rw[hk,hp]
  split
  ·rfl
  ·rw[List.map_map,List.map_map];rfl
 ·unfold Xap
  rw[hp,List.map_map];rfl
theorem Xhh {l:List Int} {n:Int}:Xd0 l n=true↔∀ i∈l,0<=i/\i < n:=by simp[Xd0]
theorem X08 {R:ByteArray->Bool} {x:Nd} {n n':Int} (h:Xa8 R x n=true) (hn:n<=n'):Xa8 R x n'=true:=by
 have hk:Xd0 x.kids n=true->Xd0 x.kids n'=true:=fun h=>Xhh.2 fun i hi=>by have:=Xhh.1 h i hi;omega
 unfold Xa8 Yal Yam at *
 split
 ·rwa [if_pos ‹_›] at h
 ·rw[if_neg ‹_›] at h
  split
  ·rw[if_pos ‹_›] at h
   simp only[Bool.and_eq_true] at h ⊢
   exact⟨h.1,h.2.1,hk h.2.2⟩
  ·rw[if_neg ‹_›] at h
   split
   ·rw[if_pos ‹_›] at h
    simp only[Bool.and_eq_true] at h ⊢
    exact⟨h.1,h.2.1,h.2.2.1,hk h.2.2.2⟩
   ·rwa [if_neg ‹_›] at h
theorem Xus {R:ByteArray->Bool} {x:Nd} {n d:Int} (h:Xa8 R x n=true) (hd:0<=d):Xa8 R (Xcp d x) (n+d)=true:=by
 have hk:Xd0 x.kids n=true->Xd0 (x.kids.map fun i=>i+d) (n+d)=true:=fun h=>Xhh.2 fun i hi=>by
  obtain⟨j,hj,rfl⟩:=List.mem_map.1 hi
  have:=Xhh.1 h j hj;omega
 unfold Xa8 Yal Yam Yil at *
 unfold Xcp
 simp only[List.length_map,List.map_eq_nil_iff]
 split
 ·rwa [if_pos ‹_›] at h
 ·rw[if_neg ‹_›] at h
  split
  ·rw[if_pos ‹_›] at h
   simp only[Bool.and_eq_true] at h ⊢
   exact⟨h.1,h.2.1,hk h.2.2⟩
  ·rw[if_neg ‹_›] at h
   split
   ·rw[if_pos ‹_›] at h
    simp only[Bool.and_eq_true] at h ⊢
    exact⟨h.1,h.2.1,h.2.2.1,hk h.2.2.2⟩
   ·rwa [if_neg ‹_›] at h
section
variable {l m:List Nd} {a b:Int}
theorem Xqb:(Xc1 l m).length=l.length+m.length:=by simp[Xc1]
theorem Fine.join (hl:Fine l) (hm:Fine m):Fine (Xc1 l m) where
 node x hx:=by
  rw[Xqb]
  rcases List.mem_append.1 hx with hx|hx
  ·exact X08 (hl.node x hx) (by omega)
  ·obtain⟨y,hy,rfl⟩:=List.mem_map.1 hx
   have:=Xus (hm.node y hy) (d:=l.length) (by omega)
   rwa [show ((l.length+m.length:Nat):Int)=(m.length:Int)+(l.length:Int) from by omega]
 small x hx:=by
  rcases List.mem_append.1 hx with hx|hx
  ·exact hl.small x hx
  ·obtain⟨y,hy,rfl⟩:=List.mem_map.1 hx
   have:=hm.small y hy
   unfold Xcp
   simpa using this
theorem Xep (ha:inL l a):inL (Xc1 l m) a/\Xbc (Xc1 l m) a=Xbc l a:=by
 have h1:=Xsm ha
 have:(Xc1 l m)[a.toNat]?=some (Xbc l a):=by
  unfold Xc1
  rw[List.getElem?_append_left (Kr.1 h1).1,h1]
 have h2:=Xg6 this
 rw[Int.toNat_of_nonneg ha.1] at h2
 exact h2
theorem Xef (hb:inL m b):inL (Xc1 l m) (b+l.length)/\Xbc (Xc1 l m) (b+l.length)=Xcp l.length (Xbc m b):=by
 have h1:=Xsm hb
 have h0:=hb.1
 have e:(b+l.length).toNat=l.length+b.toNat:=by omega
 have:(Xc1 l m)[(b+l.length).toNat]?=some (Xcp l.length (Xbc m b)):=by
  unfold Xc1
  rw[e,List.getElem?_append_right (by omega),Nat.add_sub_cancel_left,List.getElem?_map,h1];rfl
 have h2:=Xg6 this
 rw[Int.toNat_of_nonneg (by omega)] at h2
 exact h2
theorem Yew (hb:inL m b):kdL (Xc1 l m) (b+l.length)=(kdL m b).map fun i=>i+(l.length:Int):=by
 unfold kdL
 rw[(Xef hb).2];exact (Xom _ _).1
theorem Xsn {x y:Nd} {n:Int}:X02 x (Xcp n y)=true↔X02 x y=true:=by
 rw[Xb7,Xb7,(Xom n y).2]
 simp[Xcp]
theorem Yn7 (hl:Fine l) (hm:Fine m) (ha:inL l a) (hb:inL m b):Sim (Xc1 l m) (Xc1 l m) a (b+l.length)↔Sim l m a b:=by
 constructor
 ·rintro⟨R,hR,r⟩
  refine⟨fun p q=>inL l p/\inL m q/\R p (q+l.length),⟨fun _ _ r=>⟨r.1,r.2.1⟩,fun p q r=>?_,fun p q r i p' q' hp hq=>?_⟩,ha,hb,r⟩
  ·have:=hR.fit _ _ r.2.2
   rw[(Xep r.1).2,(Xef r.2.1).2] at this
   exact Xsn.1 this
  ·refine⟨hl.kid _ _ (List.mem_of_getElem? hp),hm.kid _ _ (List.mem_of_getElem? hq),hR.kid _ _ r.2.2 i _ _ ?_ ?_⟩
   ·rw[kdL,(Xep r.1).2];exact hp
   ·rw[Yew r.2.1,List.getElem?_map,hq];rfl
 ·rintro⟨R,hR,r⟩
  refine⟨fun x y=>∃ q,R x q/\y=q+l.length,⟨fun x y r=>?_,fun x y r=>?_,fun x y r i p' q' hp hq=>?_⟩,b,r,rfl⟩
  ·obtain⟨q,r,rfl⟩:=r
   have:=hR.inn _ _ r
   exact⟨(Xep this.1).1,(Xef this.2).1⟩
  ·obtain⟨q,r,rfl⟩:=r
   have:=hR.inn _ _ r
   rw[(Xep this.1).2,(Xef this.2).2]
   exact Xsn.2 (hR.fit _ _ r)
  ·obtain⟨q,r,rfl⟩:=r
   have:=hR.inn _ _ r
   rw[kdL,(Xep this.1).2] at hp
   rw[Yew this.2,List.getElem?_map] at hq
   cases e:(kdL m q)[i]? with
   | none=>rw[e] at hq;cases hq
   | some z =>
    rw[e] at hq
    cases hq
    exact⟨z,hR.kid _ _ r i p' z hp e,rfl⟩
end
def Wdx (g h:Gr):Bool:=decide ((Xgg (Xc1 g.l h.l))[g.root.toNat]?=(Xgg (Xc1 g.l h.l))[(h.root+g.l.length).toNat]?)
theorem Yn8 {g h:Gr} (hg:Fine g.l) (hh:Fine h.l) (rg:inL g.l g.root) (rh:inL h.l h.root):Wdx g h=true↔Sim g.l h.l g.root h.root:=by
 unfold Wdx
 rw[decide_eq_true_eq,Wdv (hg.join hh) (Xep rg).1 (Xef rh).1,Yn7 hg hh rg rh]
theorem Good.in {g:Gr} (h:Good g):inL g.l g.root:=h.root
theorem Yex {g h:Gr} (hg:Good g) (hh:Good h):Wdx g h=true↔Sim g.l h.l g.root h.root:=Yn8 hg.fine hh.fine hg.in hh.in
structure Near (l m:List Nd) (fr to:Int):Prop where
 len:m.length=l.length
 fit:∀ a,X02 (Xbc l a) (Xbc m a)=true
 kid:∀ a (i:Nat) p q,(kdL l a)[i]?=some p->(kdL m a)[i]?=some q->q=p\/(p=fr/\q=to)
def W2c (x:Nd) (k:Nat) (to:Int):Nd:=⟨x.k,x.x,x.keys,x.kids.set k to⟩
def Wt6:List Int->Nat->Prop
 | [],_=>True
 | c::r,k=>0<=c/\c<=k/\Wt6 r (if c < k then k else k+1)
theorem Wdy {α:Type} {l:List α} {i:Nat} {a:α} (h:l[i]?=some a):l.drop i=a::l.drop (i+1):=by
 obtain⟨hi,rfl⟩:=Kr.1 h
 exact List.drop_eq_getElem_cons hi
theorem Yey {α:Type} [DecidableEq α] (l:List α):∀ (m i:Nat),i+m=l.length->Wt6 ((rkp l).drop i) (ddp (l.take i)).length
 | 0,i,h=>by rw[List.drop_eq_nil_of_le (by rw[Xj1];omega)];trivial
 | m+1,i,h=>by
  obtain⟨a,ha⟩:=Xaq (l:=l) (i:=i) (by omega)
  rw[Wdy (Xkk ha)]
  have hn:=Xy1 ha
  have ih:=Yey l m (i+1) (by omega)
  split at hn
  ·refine⟨by omega,by omega,?_⟩
   rw[if_pos (by omega),<- hn.2];exact ih
  ·refine⟨by omega,by omega,?_⟩
   rw[if_neg (by omega)]
   rw[hn.2,List.length_append] at ih
   exact ih
theorem Yez {l:List Nd} (h:Fine l):Wt6 (Xgg l) 0:=by
 have:=Yey (Xge l (Xgg l)) (Xge l (Xgg l)).length 0 (by omega)
 rwa [<- Wdw h] at this
def W2d:List Int->Nat->Nat
 | [],k=>k
 | c::r,k=>W2d r (if c < k then k else k+1)
def Xqq (f:Int->Int) (x:Nd):Nd:=⟨x.k,x.x,Xap x,(Xak x).map f⟩
theorem X09 {x:Nd} {n m:Int} {f:Int->Int} (h:Xa8 Xag x n=true) (hw:∀ j∈Xak x,0<=f j/\f j < m):Xa8 Xag (Xqq f x) m=true:=by
 have hin:Xd0 ((Xak x).map f) m=true:=Xmr fun i hi=>by
  obtain⟨j,hj,rfl⟩:=List.mem_map.1 hi
  exact hw j hj
 obtain⟨_,k2,k3,k4,_,_⟩:=Xjv h
 rcases Xfo h with hk|hk|hk
 ·have h1:=Xok h hk
  have h2:=Xgz h hk
  unfold Xa8
  rw[if_pos (show (Xqq f x).k=0 from hk)]
  have e1:Xap x=[]:=k4 (by omega)
  have e2:Xak x=[]:=by rw[<- List.length_eq_zero_iff,k2,h2.2];rfl
  simp[Yil,Xqq,h1,e1,e2]
 ·have h1:=Xoj h hk
  unfold Xa8
  rw[if_neg (show ¬ (Xqq f x).k=0 by simp only[Xqq];omega),if_pos (show (Xqq f x).k=1 from hk)]
  have e1:Xap x=[]:=k4 (by omega)
  simp only[Yal,Xqq,h1,e1,hin]
  rfl
 ·obtain⟨h0,h1⟩:=Xic h hk
  obtain⟨m1,m2,_⟩:=Xfn h hk
  unfold Xa8
  rw[if_neg (show ¬ (Xqq f x).k=0 by simp only[Xqq];omega),if_neg (show ¬ (Xqq f x).k=1 by simp only[Xqq];omega),if_pos (show (Xqq f x).k=2 from hk)]
  have hpk:(Xap x).Perm x.keys:=by
   unfold Xap
   rw[Xcg hk m1]
   have:=(Xc7 (Xdf x)).map Pr.key
   rwa [Xf5 m1] at this
  have e1:(Xap x).all (prR Xag)=true:=by
   rw[List.all_eq_true] at h0 ⊢
   exact fun a ha=>h0 a (hpk.mem_iff.1 ha)
  have e2:(Xap x).Nodup:=hpk.nodup_iff.2 m2
  have e3:(Xap x).length=(Xak x).length:=k3 hk
  simp only[Yam,Xpo,Xqq,h1,hin,e1,e3,List.length_map]
  simp[e2]
theorem X1a {x:Nd} (f:Int->Int) (h:x.keys.length<=12/\x.kids.length<=12):(Xqq f x).keys.length<=12/\(Xqq f x).kids.length<=12:=by
 have:=Xcu x
 refine⟨?_,?_⟩
 ·simp only[Xqq,Xap,List.length_map];omega
 ·simp only[Xqq,List.length_map];exact Xfq x 12 h
def Yio:List Int->Nat->Nat->List Int
 | [],_,_=>[]
 | c::r,k,i=>if c < k then Yio r k (i+1) else (i:Int)::Yio r (k+1) (i+1)
theorem Xut:∀ {r:List Int} {k i j:Nat} {a:Int},Wt6 r k->(Yio r k i)[j]?=some a->∃ m:Nat,a=((i+m:Nat):Int)/\r[m]?=some ((k+j:Nat):Int)
 | [],_,_,_,_,_,e=>by simp[Yio] at e
 | c::r,k,i,j,a,h,e=>by
  obtain⟨h1,h2,h3⟩:=h
  simp only[Yio] at e
  split at e
  ·rename_i hc
   rw[if_pos hc] at h3
   obtain⟨m,e1,e2⟩:=Xut h3 e
   exact⟨m+1,by rw[e1];omega,by simpa using e2⟩
  ·rename_i hc
   rw[if_neg hc] at h3
   cases j with
   | zero=>exact⟨0,by simpa using e.symm,by simp;omega⟩
   | succ j =>
    obtain⟨m,e1,e2⟩:=Xut h3 (by simpa using e)
    exact⟨m+1,by rw[e1];omega,by rw[List.getElem?_cons_succ,e2];congr 1;omega⟩
theorem Xuu:∀ {r:List Int} {k i:Nat},Wt6 r k->∀ c∈r,0<=c/\c < ((k+(Yio r k i).length:Nat):Int)
 | [],_,_,_,_,hc=>by cases hc
 | x::r,k,i,h,c,hc=>by
  obtain⟨h1,h2,h3⟩:=h
  simp only[Yio]
  split
  ·rename_i hx
   rw[if_pos hx] at h3
   rcases List.mem_cons.1 hc with rfl|hc
   ·exact⟨h1,by omega⟩
   ·exact Xuu h3 c hc
  ·rename_i hx
   rw[if_neg hx] at h3
   rw[List.length_cons]
   rcases List.mem_cons.1 hc with rfl|hc
   ·exact⟨h1,by omega⟩
   ·have:=Xuu (i:=i+1) h3 c hc
    exact⟨this.1,by omega⟩
theorem Xqc:∀ (r:List Int) (k i:Nat),(Yio r k i).length<=r.length
 | [],_,_=>Nat.le_refl _
 | c::r,k,i=>by
  simp only[Yio]
  split
  ·have:=Xqc r k (i+1);rw[List.length_cons];omega
  ·have:=Xqc r (k+1) (i+1);rw[List.length_cons,List.length_cons];omega
noncomputable def Wx0 (l:List Nd):List Int:=Yio (Xgg l) 0 0
noncomputable def Yn9 (l:List Nd) (i:Int):Int:=(Xgg l)[i.toNat]?.getD 0
noncomputable def Xhu (g:Gr):Gr:=⟨Yn9 g.l g.root,(Wx0 g.l).map fun i=>Xqq (Yn9 g.l) (Xbc g.l i)⟩
section
variable {l:List Nd} {g h:Gr}
theorem Ye0 (h:Fine l) {i:Int} (hi:inL l i):(Xgg l)[i.toNat]?=some (Yn9 l i):=by
 obtain⟨c,hc⟩:=Yeu h hi
 unfold Yn9
 rw[hc];rfl
theorem Ye1 (h:Fine l) {i:Int} (hi:inL l i):0<=Yn9 l i/\Yn9 l i < (Wx0 l).length:=by
 have:=Xuu (i:=0) (Yez h) _ (List.mem_of_getElem? (Ye0 h hi))
 rwa [Nat.zero_add] at this
theorem Wt7 (h:Fine l) {j:Nat} {a:Int} (e:(Wx0 l)[j]?=some a):inL l a/\Yn9 l a=j:=by
 obtain⟨m,e1,e2⟩:=Xut (Yez h) e
 rw[Nat.zero_add] at e1 e2
 have hm:=(Kr.1 e2).1
 rw[Xqa h] at hm
 have ha:inL l a:=⟨by omega,by omega⟩
 refine⟨ha,?_⟩
 have:=Ye0 h ha
 rw[e1,Int.toNat_natCast,e2] at this
 rw[e1];exact (Option.some.inj this).symm
theorem Xm2 (g:Gr):(Xhu g).l.length=(Wx0 g.l).length:=by simp[Xhu]
theorem Good.whole (h:Good g):Good (Xhu g) where
 c:=by
  refine Xxx ?_ ?_ ?_
  ·rw[Xm2]
   have:=Xqc (Xgg g.l) 0 0
   rw[Xqa h.fine] at this
   exact Nat.le_trans this h.len
  ·rw[Xm2];exact Ye1 h.fine h.root
  ·intro x hx
   rw[Xm2]
   simp only[Xhu,List.mem_map] at hx
   obtain⟨i,hi,rfl⟩:=hx
   obtain⟨j,hj⟩:=List.getElem?_of_mem hi
   exact X09 (h.node (Wt7 h.fine hj).1) fun k hk=>Ye1 h.fine (h.kid i k hk)
 s:=by
  intro x hx
  simp only[Xhu,List.mem_map] at hx
  obtain⟨i,hi,rfl⟩:=hx
  exact X1a _ (h.s.at i)
def W2m (l:List Nd):Prop:=∀ a b,Sim l l a b->a=b
noncomputable def W2e (g:Gr):Gr:=Xbl (Xhu g)
noncomputable def W2n (g:Gr) (i:Int):Int:=if Yn9 g.l i∈Xbn (Xhu g) then (Xbn (Xhu g)).idxOf (Yn9 g.l i) else -1
noncomputable def W2o (g:Gr):List Int:=(Xgg g.l).map fun c=>if c∈Xbn (Xhu g) then ((Xbn (Xhu g)).idxOf c:Int) else -1
end
end Go.Fw.L07
