/- Chapter 18,plain: anchors' names; walks of a tidy graph. -/
import Derived.Test.YtiklocoaghcliaaGreatDoorMe
import Derived.Test.YtiklocoaghcliaaGreatDoorJa
import Derived.Lib.TrimUEq
set_option linter.all false
namespace Go.Fw.L07
open Go Go.Fw
open Go.Fw.Sh renaming intro->Kg
open Go.Fw renaming Xec->Ka,Xbg->Ka,Xhs->Ka,Xh9->Kv,Xel->Kf,Xdn->Kt,Xdl->Kl,Xfl->Km,Gx->Kn
open Go.Fw renaming Xbg->Ka, Xbk->Ka, Xbv->Ka, Xb3->Ka
open Go.Fw renaming Xec->Kw, Xbg->Kw, Xbk->Kw, Xbv->Kw, Xb3->Kw, Xh6->Kw, Xem->Kw
open Go.Fw.Sh renaming intro->Kf
open Int renaming natCast_nonneg->Kq
open List renaming getElem?_eq_some_iff->Kr
open And renaming intro->Kp
set_option maxRecDepth 4000
theorem Xm9:∀ (nm:Nm) (a c:ByteArray) (b:Int),Xnd (Xne nm a b) c=if c=a then some b else Xnd nm c
 | [],a,c,b=>by simp[Xne,Xnd]
 | p::nm,a,c,b=>by
  simp only[Xne]
  by_cases h:a=p.1
  ·rw[if_pos h]
   simp only[Xnd]
   by_cases hc:c=a
   ·rw[if_pos hc,if_pos hc]
   ·rw[if_neg hc,if_neg hc,if_neg (fun e=>hc (e.trans h.symm))]
  ·rw[if_neg h]
   simp only[Xnd]
   by_cases hc:c=p.1
   ·rw[if_pos hc,if_neg (fun e=>h (e.symm.trans hc)),if_pos hc]
   ·rw[if_neg hc,Xm9 nm a c b,if_neg hc]
theorem Xj7 {n:Int} (h:n > 0):(Xbd n).data.toList=97::Lib.itoa n:=by
 unfold Xbd
 rw[if_pos h,ByteArray.data_append];simp
theorem Yhy {n m:Int} (hn:n > 0) (hm:m > 0) (h:Xbd n=Xbd m):n=m:=by
 have h2:=congrArg (fun s:ByteArray=>s.data.toList) h
 simp only[Xj7 hn,Xj7 hm,List.cons.injEq,true_and] at h2
 exact Xp6 h2
theorem Xzy {s:ByteArray} (hs:∀ p,p < s.size->Xuj ((s.data.toList.getD p 0).toNat:Int)=true/\(s.data.toList.getD p 0).toNat < 128):∀ f p,Xc9 s f p=true
 | 0,_=>rfl
 | f+1,p=>by
  simp only[Xc9]
  split
  ·rename_i hp
   obtain⟨h1,h2⟩:=hs p hp
   rw[Lib.decode_N,Lib.decodeN_ascii _ _ _ _ _ h2,h1,Bool.true_and]
   exact Xzy hs f _
  ·rfl
theorem X1o {n:Int} (h0:0 < n) (h1:n < 100):(Lib.itoa n).length<=2/\∀ b∈Lib.itoa n,48<=b.toNat/\b.toNat<=57:=by
 obtain⟨u,rfl⟩:=Int.eq_ofNat_of_zero_le (show 0<=n by omega)
 have e:Lib.itoa ((u:Nat):Int)=Lib.decDigits u:=by unfold Lib.itoa;rw[if_neg (by omega)];simp
 constructor
 ·rw[e,Lib.decDigits_length]
  unfold Lib.nDigits
  split
  ·omega
  ·unfold Lib.nDigits
   rw[dif_pos (by omega)]
   omega
 ·rw[e]
  intro b hb
  exact Xk0 u b hb
theorem Xot {n:Int} (h0:0 < n) (h1:n < 100):Xdr (Xbd n)=true:=by
 obtain⟨h2,h3⟩:=X1o h0 h1
 have hl:=Xj7 h0
 have hsz:(Xbd n).size=1+(Lib.itoa n).length:=by
  have:=congrArg List.length hl
  simp only[List.length_cons,Array.length_toList] at this
  show (Xbd n).data.size=_
  omega
 unfold Xdr
 simp only[Bool.and_eq_true,decide_eq_true_eq]
 refine⟨Xzy (fun p hp=>?_) _ _,Xjd h0,by omega⟩
 rw[hl]
 cases p with
 | zero=>simp[Xuj]
 | succ p =>
  rw[List.getD_cons_succ]
  have hp2:p < (Lib.itoa n).length:=by omega
  have hb:=h3 _ (List.getElem_mem hp2)
  rw[show (Lib.itoa n).getD p 0=(Lib.itoa n)[p] from by rw[List.getD_eq_getElem?_getD,List.getElem?_eq_getElem hp2];rfl]
  generalize (Lib.itoa n)[p]=b at *
  refine⟨?_,by omega⟩
  unfold Xuj
  simp only[Bool.or_eq_true,Bool.and_eq_true,decide_eq_true_eq]
  omega
def anc (g:Gr) (i:Nat):Int:=((Xuz g)[i]?).getD 0
theorem Yhz (g:Gr):(Xg9 g).length=g.l.length:=by unfold Xg9;rw[Xfd]
theorem Xzz {g:Gr} {i:Nat} (h:i < g.l.length):(Xg9 g)[i]?=some (((0::flat g).count (i:Int):Nat):Int):=Xsz _ h
theorem Yh0 {g:Gr} {i:Nat} {x:Nd} (hx:g.l[i]?=some x):(Xuz g)[i]?=some (if Xzt x (((0::flat g).count (i:Int):Nat):Int) then (((Xfe g (Xg9 g) i).2+1:Nat):Int) else 0) :=
 Wg9 (Yhz g) hx (Xzz (Kr.1 hx).1)
theorem Xu2 {g:Gr} {i:Nat} (h:i < g.l.length):(Xuz g)[i]?=some (anc g i):=by
 obtain⟨x,hx⟩:=Xaq h
 unfold anc
 rw[Yh0 hx];rfl
theorem Xz0 {g:Gr} {i:Nat} {x:Nd} (hx:g.l[i]?=some x):anc g i=if Xzt x (((0::flat g).count (i:Int):Nat):Int) then (((Xfe g (Xg9 g) i).2+1:Nat):Int) else 0:=by
 unfold anc;rw[Yh0 hx];rfl
theorem Who {g:Gr} {i:Nat} {x:Nd} (hx:g.l[i]?=some x):0 < anc g i↔x.kids≠[]/\1 < (0::flat g).count (i:Int):=by
 rw[Xz0 hx]
 unfold Xzt
 split
 ·rename_i h
  simp only[Bool.and_eq_true,decide_eq_true_eq] at h
  exact⟨fun _=>⟨h.1,by omega⟩,fun _=>by omega⟩
 ·rename_i h
  simp only[Bool.and_eq_true,decide_eq_true_eq] at h
  exact⟨fun h2=>by omega,fun h2=>absurd ⟨h2.1,by omega⟩ h⟩
theorem Xs4 {g:Gr} {us:List Int} {i:Nat}:∀ j,i<=j->(Xfe g us i).2<=(Xfe g us j).2
 | 0,h=>by
  have e:i=0:=by omega
  subst e
  exact Nat.le_refl _
 | j+1,h=>by
  by_cases e:i=j+1
  ·rw[e];exact Nat.le_refl _
  ·refine Nat.le_trans (Xs4 j (by omega)) ?_
   simp only[Xfe]
   split
   ·split <;> simp
   ·exact Nat.le_refl _
theorem Yyz {g:Gr} {i j:Nat} (hij:i < j) (hj:j < g.l.length) (h:0 < anc g i) (h':0 < anc g j):anc g i < anc g j:=by
 obtain⟨x,hx⟩:=Xaq (l:=g.l) (i:=i) (by omega)
 obtain⟨y,hy⟩:=Xaq hj
 have hs:(Xfe g (Xg9 g) (i+1)).2=(Xfe g (Xg9 g) i).2+1:=by
  simp only[Xfe,hx,Xzz (show i < g.l.length by omega)]
  rw[Xz0 hx] at h
  split at h
  ·rename_i hp;rw[if_pos hp]
  ·omega
 have:=Xs4 (g:=g) (us:=Xg9 g) (i:=i+1) j (by omega)
 rw[Xz0 hx] at h ⊢
 rw[Xz0 hy] at h' ⊢
 split at h
 ·rename_i h1
  split at h'
  ·rename_i h2
   rw[if_pos h1,if_pos h2]
   omega
  ·omega
 ·omega
theorem Whp {g:Gr} {i j:Nat} (hi:i < g.l.length) (hj:j < g.l.length) (h:0 < anc g i) (e:anc g i=anc g j):i=j:=by
 rcases Nat.lt_trichotomy i j with h1|h1|h1
 ·have:=Yyz h1 hj h (e ▸ h);omega
 ·exact h1
 ·have:=Yyz h1 hi (e ▸ h) h;omega
theorem Yy0 {g:Gr} {i:Nat} (hi:i < g.l.length):anc g i<=g.l.length:=by
 have:=(Xu1 (g:=g) (us:=Xg9 g) g.l.length).2 (anc g i) (List.mem_of_getElem? (Xu2 hi))
 exact this
abbrev rest (g:Gr) (m:Nat):List Int:=(g.l.drop m).flatMap Nd.kids
theorem Xna {g:Gr} {m:Nat} {x:Nd} (hx:g.l[m]?=some x):rest g m=x.kids++rest g (m+1):=by
 unfold rest
 obtain⟨h,rfl⟩:=Kr.1 hx
 rw[List.drop_eq_getElem_cons h,List.flatMap_cons]
structure St18 (g:Gr) (m:Nat) (s:List Int):Prop where
 w:Walks (kd g) s (Xd2 m) (Xd2 g.l.length)
 u:∀ i:Nat,i < g.l.length->(if i < m then 1 else 0)+s.count (i:Int)+(rest g m).count (i:Int)<=(0::flat g).count (i:Int)
 le:m<=g.l.length
theorem St18.first {g:Gr} (h:Tdy g):St18 g 0 [0]:=by
 refine⟨?_,fun i _=>?_,Nat.zero_le _⟩
 ·have:=h.good.walk
  rw[h.root,h.walk] at this
  exact this
 ·show _<=_
  simp only[rest,List.drop_zero,flat]
  rw[show (0::g.l.flatMap Nd.kids)=[0]++g.l.flatMap Nd.kids from rfl,List.count_append]
  simp
theorem St18.skip {g:Gr} {m i:Nat} {s:List Int} (h:St18 g m ((i:Int)::s)) (hi:i < m):St18 g m s/\2<=(0::flat g).count (i:Int):=by
 have hl:=h.le
 refine⟨⟨h.w.skip_inv (Xor.2 ⟨by omega,by omega⟩),fun j hj=>?_,hl⟩,?_⟩
 ·have:=h.u j hj
  rw[List.count_cons] at this
  omega
 ·have:=h.u i (by omega)
  rw[if_pos hi,List.count_cons,if_pos (by simp)] at this
  omega
theorem St18.step {g:Gr} (hg:Tdy g) {m i:Nat} {s:List Int} (h:St18 g m ((i:Int)::s)) (hi:¬ i < m):i=m/\∃ x,g.l[m]?=some x/\kd g m=x.kids/\St18 g (m+1) (x.kids++s):=by
 have hw':=h.w.step_inv (fun e=>by have:=Xor.1 e;omega)
 obtain⟨q,hq⟩:=hw'.pre
 have hie:i=m/\m < g.l.length:=by
  have h1:(Xd2 g.l.length)[m]?=some (i:Int):=by
   rw[hq,List.append_assoc,List.getElem?_append_right (by simp)]
   simp
  have h2:=(Kr.1 h1).1
  rw[Xcy] at h2
  rw[Xjb h2] at h1
  simp at h1
  omega
 obtain⟨rfl,hmn⟩:=hie
 obtain⟨x,hx⟩:=Xaq hmn
 have hk:=hg.kd hx
 refine⟨rfl,x,hx,hk,?_,fun j hj=>?_,by omega⟩
 ·rw[<- hk,Xm7];exact hw'
 ·have:=h.u j hj
  rw[Xna hx,List.count_append,List.count_cons] at this
  rw[List.count_append]
  by_cases e2:i=j
  ·subst e2
   simp only[beq_self_eq_true,if_true,Nat.lt_irrefl,if_false] at this
   rw[if_pos (by omega)]
   omega
  ·have e3:((i:Int)==(j:Int))=false:=by simp;omega
   simp only[e3,Bool.false_eq_true,if_false] at this
   by_cases hj2:j < i
   ·rw[if_pos hj2] at this
    rw[if_pos (by omega)];omega
   ·rw[if_neg hj2] at this
    rw[if_neg (by omega)];omega
theorem Whq {k:Int->List Int} {t o w:List Int} (h:Walks k t o w):w.length<=o.length+t.length+((w.drop o.length).flatMap k).length:=by
 induction h with
 | nil=>simp
 | skip _ _ ih=>simp only[List.length_cons];omega
 | @step i r o w hn h ih =>
  obtain⟨q,hq⟩:=h.pre
  have e1:w.drop o.length=i::q:=by rw[hq,List.append_assoc,List.drop_left];rfl
  have e2:w.drop (o++[i]).length=q:=by rw[hq,List.drop_left]
  rw[e2] at ih
  rw[e1]
  simp only[List.length_cons,List.length_append,List.flatMap_cons,List.length_nil] at ih ⊢
  omega
theorem Yh1 {g:Gr} (hg:Tdy g):∀ (c m:Nat),g.l.length - m<=c->((Xd2 g.l.length).drop m).flatMap (kd g)=rest g m
 | 0,m,h=>by
  rw[List.drop_of_length_le (by rw[Xcy];omega)]
  unfold rest
  rw[List.drop_of_length_le (by omega)];rfl
 | c+1,m,h=>by
  by_cases hm:m < g.l.length
  ·obtain⟨x,hx⟩:=Xaq hm
   have hl:m < (Xd2 g.l.length).length:=by rw[Xcy];exact hm
   rw[List.drop_eq_getElem_cons hl,List.flatMap_cons,Yh1 hg c (m+1) (by omega),Xna hx]
   have:(Xd2 g.l.length)[m]=(m:Int):=by
    have:=Xjb hm
    rw[List.getElem?_eq_getElem hl] at this
    exact Option.some.inj this
   rw[this,hg.kd hx]
  ·rw[List.drop_of_length_le (by rw[Xcy];omega)]
   unfold rest
   rw[List.drop_of_length_le (by omega)];rfl
theorem St18.bound {g:Gr} (hg:Tdy g) {m:Nat} {s:List Int} (h:St18 g m s):g.l.length<=m+s.length+(rest g m).length:=by
 have:=Whq h.w
 rw[Xcy,Xcy,Yh1 hg _ m (Nat.le_refl _)] at this
 exact this
theorem DepW.keep {k:Int->List Int} {d:Int} {t a b:List Int} (h:DepW k d t a b):∀ (i:Nat) (x:Int),a[i]?=some x->0 < x->b[i]?=some x:=by
 induction h with
 | nil=>exact fun _ _ h _=>h
 | skip _ _ _ ih=>exact ih
 | @step d j r a b c y hy hn _ _ ih1 ih2 =>
  intro i x hx h0
  refine ih2 i x (ih1 i x ?_ h0) h0
  rw[List.getElem?_set]
  split
  ·rename_i e;subst e;rw[hy] at hx;cases hx;exact absurd h0 hn
  ·exact hx
abbrev KC (F:List Int) (is t:List Int):Prop:=Xan (fun p i=>∃ q:Nat,p=(q:Int)/\F[q]?=some i) is t
theorem KC.app {F is t:List Int} (h:KC F is t) (E:List Int):KC (F++E) is t:=h.mono fun p i ⟨q,hq,hf⟩=>⟨q,hq,by
 rw[List.getElem?_append_left (Kr.1 hf).1];exact hf⟩
abbrev NC (g:Gr) (F:List Int) (new:List Nd) (org:List Int):Prop:=Xan (fun x o=>∃ (i:Nat) (y:Nd),o=(i:Int)/\g.l[i]?=some y/\x.k=y.k/\x.x=y.x/\x.keys=y.keys/\KC F x.kids y.kids) new org
theorem NC.app {g:Gr} {F:List Int} {new:List Nd} {org:List Int} (h:NC g F new org) (E:List Int):NC g (F++E) new org:=h.mono fun _ _ ⟨i,y,h1,h2,h3,h4,h5,h6⟩=>⟨i,y,h1,h2,h3,h4,h5,h6.app E⟩
def Ly (g:Gr) (m:Nat) (F:List Int) (nm:Nm):Prop:=∀ j:Nat,j < m->0 < anc g j->∃ p:Nat,Xnd nm (Xbd (anc g j))=some (p:Int)/\F[p]?=some (j:Int)
theorem Ly.app {g:Gr} {m:Nat} {F:List Int} {nm:Nm} (h:Ly g m F nm) (E:List Int):Ly g m (F++E) nm:=fun j hj ha=>by
 obtain⟨p,h1,h2⟩:=h j hj ha
 exact⟨p,h1,by rw[List.getElem?_append_left (Kr.1 h2).1];exact h2⟩
structure Res18 (g:Gr) (t:List Int) (F:List Int) (L:Lr) (m':Nat) (org:List Int):Prop where
 len:org.length=L.new.length
 is:KC (F++org) L.is t
 new:NC g (F++org) L.new org
 nm:Ly g m' (F++org) L.nm
def Tre (g:Gr) (m:Nat) (s:List Int):Prop:=m+s.length+(rest g m).length=g.l.length
structure Lay18 (g:Gr) (m m':Nat) (t:List Int) (tr:Prop) (F:List Int) (L:Lr):Prop where
 tree:tr->F=Xd2 m->L.e=0
 ok:L.e=71\/(L.e=0/\∃ org,Res18 g t F L m' org/\(tr->F=Xd2 m->F++org=Xd2 m'))
def Yh2 (met:List Int) (m:Nat):Prop:=∀ j:Int,j∈met↔0<=j/\j < m
theorem Wxi {met:List Int} {i:Int} (h:i∈met):Xtc met i=met:=by unfold Xtc;rw[if_pos h]
theorem Yh2.next {met:List Int} {m:Nat} (h:Yh2 met m):Yh2 (Xtc met m) (m+1):=by
 intro j
 unfold Xtc
 rw[if_neg (fun e=>by have:=(h m).1 e;omega),List.mem_append,h j,List.mem_singleton]
 omega
theorem Xou {g:Gr} (hg:Tdy g) {i:Nat} {x:Nd} (hx:g.l[i]?=some x) {n:Int} {q:List Tr} (hq:q.length=x.kids.length) (h0:n<=0\/(0 < n/\n < 100)) :
  Xcx Xag (.mk x.k (Xbd n) x.x x.keys q)=true/\x.keys.Nodup/\x.k≠3:=by
 have hr:=(Xmj hg.good.c).2.2 x (List.mem_of_getElem? hx)
 have hn:(decide (Xbd n=⟨#[]⟩) || Xdr (Xbd n))=true:=by
  rcases h0 with h0|⟨h0,h1⟩
  ·rw[Xfr (by omega)];rfl
  ·rw[Xot h0 h1,Bool.or_true]
 have hs:Xcx Xag (.mk x.k (Xbd n) x.x x.keys q)=(if x.k=0 then Wa2 Xag (.mk x.k (Xbd n) x.x x.keys q) else if x.k=1 then Wa3 (.mk x.k (Xbd n) x.x x.keys q) else if x.k=2 then Wia Xag (.mk x.k (Xbd n) x.x x.keys q) else if x.k=3 then Wa4 (.mk x.k (Xbd n) x.x x.keys q) else false):=by
  show (_ && (decide (Xbd n=⟨#[]⟩) || Xdr (Xbd n)))=_
  rw[hn,Bool.and_true];rfl
 rw[hs]
 unfold Xa8 at hr
 split at hr
 ·rename_i hk
  simp only[Yil,Bool.and_eq_true,decide_eq_true_eq] at hr
  rw[if_pos hk]
  have hq0:q=[]:=by rw[hr.2.2] at hq;exact List.length_eq_zero_iff.1 hq
  refine⟨?_,by rw[hr.2.1];simp,by omega⟩
  simp[Wa2,Tr.x,Tr.keys,Tr.kids,hr.1,hr.2.1,hq0]
 ·rename_i hk
  rw[if_neg hk]
  split at hr
  ·rename_i hk1
   simp only[Yal,Bool.and_eq_true,decide_eq_true_eq] at hr
   rw[if_pos hk1]
   refine⟨?_,by rw[hr.2.1];simp,by omega⟩
   simp[Wa3,Tr.x,Tr.keys,hr.1,hr.2.1]
  ·rename_i hk1
   rw[if_neg hk1]
   split at hr
   ·rename_i hk2
    simp only[Yam,Xpo,Bool.and_eq_true,decide_eq_true_eq] at hr
    rw[if_pos hk2]
    refine⟨?_,hr.2.2.1.2,by omega⟩
    have h5:decide (x.keys.length=q.length)=true:=by rw[hq];simpa using hr.2.1
    show (isZ x.x && (decide (x.keys.length=q.length) && x.keys.all (prR Xag)))=true
    rw[h5,hr.1,hr.2.2.1.1];rfl
   ·cases hr
theorem Yh3 {n:Int} (h0:0 < n) (h1:n < 100):Xcx Xag (.mk 3 (Xbd n) ⟨0,0,⟨#[]⟩⟩ [] [])=true:=by
 have h2:=Xot h0 h1
 have h3:=Xjd h0
 simp[Xcx,Wa4,Tr.k,Tr.x,Tr.keys,Tr.kids,Tr.name,h2,h3,isZ]
theorem Xz1 {g:Gr} {f:Nat} {i:Nat} {x:Nd} {met met':List Int} {q:List Tr} (hx:g.l[i]?=some x) (hi:i < g.l.length) (hn:¬ (0 < anc g i/\(i:Int)∈met)) (hq:ofL (ofF g (Xuz g) f) x.kids (Xtc met i)=some (q,met')) :
  ofF g (Xuz g) (f+1) i met=some (.mk x.k (Xbd (anc g i)) x.x x.keys q,met'):=by
 simp only[ofF]
 rw[if_pos (by omega),Int.toNat_natCast,hx,Option.bind_some,Xu2 hi,Option.bind_some,if_neg (fun hh=>hn ⟨Classical.byContradiction fun h0=>hh.1 (Xfr h0),hh.2⟩),hq]
 rfl
theorem Whr {g:Gr} {f:Nat} {i:Nat} {x:Nd} {met:List Int} (hx:g.l[i]?=some x) (hi:i < g.l.length) (hn:0 < anc g i/\(i:Int)∈met) :
  ofF g (Xuz g) (f+1) i met=some (.mk 3 (Xbd (anc g i)) ⟨0,0,⟨#[]⟩⟩ [] [],met):=by
 simp only[ofF]
 rw[if_pos (by omega),Int.toNat_natCast,hx,Option.bind_some,Xu2 hi,Option.bind_some,if_pos ⟨Xjd hn.1,hn.2⟩]
theorem Yh4 {g:Gr} (hg:Tdy g) (hdp:Xos g) (hN:g.l.length < 100) {d:Int} {t av bv:List Int} (h:DepW (kd g) d t av bv) :
  ∀ {m:Nat} {r met:List Int},0 < d->av.length=g.l.length->(∀ (i:Nat) (x:Int),av[i]?=some x->(0 < x↔i < m))->St18 g m (t++r)->(t≠[]->d<=24)->(∀ (i:Nat) (x:Int),bv[i]?=some x->0 < x->(Xgi g)[i]?=some x)->Yh2 met m ->
   ∃ (m':Nat) (met':List Int) (q:List Tr),(∀ (i:Nat) (x:Int),bv[i]?=some x->(0 < x↔i < m'))/\St18 g m' r/\Yh2 met' m'/\(∃ f0:Nat,∀ f,f0<=f->ofL (ofF g (Xuz g) f) t met=some (q,met'))/\(∀ c∈q,smT c)/\m<=m'/\(Tre g m (t++r)->Tre g m' r) /\
    ∀ (F:List Int) (nm:Nm),Ly g m F nm->Lay18 g m m' t (Tre g m (t++r)) F (Xcd Xag q d F.length nm):=by
 induction h with
 | nil d a =>
  intro m r met _ _ hv hst _ _ hm
  refine⟨m,met,[],hv,hst,hm,⟨0,fun f _=>rfl⟩,by simp,Nat.le_refl _,fun h=>h,fun F nm hl=>?_⟩
  refine⟨fun _ _=>by simp[Xcd],.inr ⟨by simp[Xcd],[],⟨by simp[Xcd],by simp[Xcd,Xan],by simp[Xcd,Xan],by simpa [Xcd] using hl⟩,fun _ h=>by simpa using h⟩⟩
 | @skip d i t a b x hx h0 _ ih =>
  intro m r met hd hl hv hst h24 hp hm
  have him:i < m:=(hv i x hx).1 h0
  have hiN:i < g.l.length:=by have:=(Kr.1 hx).1;omega
  obtain⟨hst',hu⟩:St18 g m (t++r)/\2<=(0::flat g).count (i:Int):=hst.skip him
  have htr:¬ Tre g m ((i:Int)::t++r):=fun hT=>by
   have:=hst'.bound hg
   unfold Tre at hT
   simp only[List.length_cons,List.length_append] at hT this
   omega
  have hd24:=h24 (by simp)
  obtain⟨y,hy⟩:=Xaq hiN
  have himet:(i:Int)∈met:=(hm i).2 ⟨by omega,by omega⟩
  obtain⟨m',met',q,e1,e2,e3,⟨f0,e4⟩,e5,e6,e7,e8⟩:=ih hd hl hv hst' (fun _=>hd24) hp hm
  have hsy:=hg.good.s y (List.mem_of_getElem? hy)
  by_cases ha:0 < anc g i
  · -- a name
   have hcs:smT (.mk 3 (Xbd (anc g i)) ⟨0,0,⟨#[]⟩⟩ [] []):=by simp[smT,smL]
   refine⟨m',met',.mk 3 (Xbd (anc g i)) ⟨0,0,⟨#[]⟩⟩ [] []::q,e1,e2,e3,⟨f0+1,fun f hf=>?_⟩,?_,e6,fun h=>absurd h htr,fun F nm hL=>?_⟩
   ·obtain⟨f,rfl⟩:∃ f',f=f'+1:=⟨f - 1,by omega⟩
    simp only[ofL]
    rw[Whr hy hiN ⟨ha,himet⟩,Option.bind_some]
    simp only
    rw[e4 (f+1) (by omega)];rfl
   ·intro c hc
    rcases List.mem_cons.1 hc with rfl|hc
    ·exact hcs
    ·exact e5 c hc
   ·obtain⟨p,hp1,hp2⟩:=hL i him ha
    have hle:=Yy0 hiN
    have hchk:Xp2 Xag (.mk 3 (Xbd (anc g i)) ⟨0,0,⟨#[]⟩⟩ [] []) d F.length nm=0:=by
     unfold Xp2
     rw[if_neg (by omega),if_neg (by rw[Yh3 ha (by omega)];simp),if_neg (by simp[Tr.keys]),if_neg (by simp[Tr.k,Tr.name,hp1]),if_neg (by simp[Tr.k])]
    have hlt:Xch Xag (.mk 3 (Xbd (anc g i)) ⟨0,0,⟨#[]⟩⟩ [] []) d F.length nm=⟨[(p:Int)],0,[],nm⟩:=by
     rw[Xda,hchk,if_neg (by simp)]
     simp[Tr.k,Tr.name,hp1]
    rw[Xbi,hlt]
    simp only[ne_eq,not_true,if_false,List.length_nil,Nat.add_zero,List.nil_append]
    obtain⟨t1,t2⟩:=e8 F nm hL
    refine⟨fun h=>absurd h htr,?_⟩
    rcases t2 with t2|⟨t2,org,t3,t4⟩
    ·exact .inl t2
    ·refine .inr ⟨t2,org,⟨t3.len,?_,t3.new,t3.nm⟩,fun h=>absurd h htr⟩
     refine⟨⟨p,rfl,?_⟩,t3.is⟩
     rw[List.getElem?_append_left (Kr.1 hp2).1];exact hp2
  · -- a leaf
   have hky:y.kids=[]:=Classical.byContradiction fun hk=>ha ((Who hy).2 ⟨hk,by omega⟩)
   have ha0:anc g i<=0:=by omega
   have hnm:=Xfr (n:=anc g i) (by omega)
   obtain⟨hsh,hnd,hk3⟩:=Xou hg hy (n:=anc g i) (q:=[]) (by rw[hky];rfl) (.inl ha0)
   refine⟨m',met',.mk y.k (Xbd (anc g i)) y.x y.keys []::q,e1,e2,e3,⟨f0+1,fun f hf=>?_⟩,?_,e6,fun h=>absurd h htr,fun F nm hL=>?_⟩
   ·obtain⟨f,rfl⟩:∃ f',f=f'+1:=⟨f - 1,by omega⟩
    simp only[ofL]
    rw[Xz1 hy hiN (fun hh=>ha hh.1) (q:=[]) (met':=met) (by rw[hky,Wxi himet];rfl),Option.bind_some]
    simp only
    rw[e4 (f+1) (by omega)];rfl
   ·intro c hc
    rcases List.mem_cons.1 hc with rfl|hc
    ·rw[Xp3];exact⟨hsy.1,by simp[Tr.kids],by simp[Tr.kids]⟩
    ·exact e5 c hc
   ·have hchk:Xp2 Xag (.mk y.k (Xbd (anc g i)) y.x y.keys []) d F.length nm=if F.length=200 then 71 else 0:=by
     unfold Xp2
     rw[if_neg (by omega),if_neg (by rw[hsh];simp),if_neg (fun hh=>hh hnd),if_neg (fun hh=>hk3 hh.1)]
     by_cases h2:F.length=200
     ·rw[if_pos ⟨hk3,h2⟩,if_pos h2]
     ·rw[if_neg (fun hh=>h2 hh.2),if_neg h2]
    refine⟨fun h=>absurd h htr,?_⟩
    rw[Xbi]
    by_cases h2:F.length=200
    ·rw[if_pos h2] at hchk
     rw[Xda,hchk]
     exact .inl rfl
    ·rw[if_neg h2] at hchk
     have hlt:Xch Xag (.mk y.k (Xbd (anc g i)) y.x y.keys []) d F.length nm=⟨[(F.length:Int)],0,[⟨y.k,y.x,y.keys,[]⟩],nm⟩:=by
      rw[Xda,hchk,if_neg (by simp),if_neg (show ¬ (Tr.mk y.k (Xbd (anc g i)) y.x y.keys []).k=3 from hk3)]
      simp[Tr.k,Tr.name,Tr.kids,Tr.x,Tr.keys,Xcd,hnm]
     rw[hlt]
     simp only[ne_eq,not_true,if_false,List.length_cons,List.length_nil,Nat.zero_add]
     obtain⟨t1,t2⟩:=e8 (F++[(i:Int)]) nm (hL.app _)
     rw[List.length_append,List.length_cons,List.length_nil,Nat.zero_add] at t1 t2
     rcases t2 with t2|⟨t2,org,t3,t4⟩
     ·exact .inl t2
     ·refine .inr ⟨t2,(i:Int)::org,⟨?_,?_,?_,?_⟩,fun h=>absurd h htr⟩
      ·simp[t3.len]
      ·refine⟨⟨F.length,rfl,by rw[List.getElem?_append_right (Nat.le_refl _),Nat.sub_self];rfl⟩,?_⟩
       have:=t3.is;rwa [List.append_assoc] at this
      ·refine⟨⟨i,y,rfl,hy,rfl,rfl,rfl,by rw[hky];exact trivial⟩,?_⟩
       have:=t3.new;rwa [List.append_assoc] at this
      ·have:=t3.nm;rwa [List.append_assoc] at this
 | @step d i t a b c x hx h0 hb hc ih1 ih2 =>
  intro m r met hd hl hv hst h24 hp hm
  have him:¬ i < m:=fun e=>h0 ((hv i x hx).2 e)
  have hlt:=(Kr.1 hx).1
  obtain⟨hie,y,hy,hky,hst1⟩:i=m/\∃ y,g.l[m]?=some y/\kd g m=y.kids/\St18 g (m+1) (y.kids++(t++r)):=hst.step hg him
  subst hie
  have hiN:=(Kr.1 hy).1
  have hset:(a.set i d)[i]?=some d:=by rw[List.getElem?_set];simp[hlt]
  have hv1:∀ (j:Nat) (z:Int),(a.set i d)[j]?=some z->(0 < z↔j < i+1):=by
   intro j z hz
   rw[List.getElem?_set] at hz
   split at hz
   ·rename_i e;subst e
    simp[hlt] at hz;subst hz
    exact⟨fun _=>by omega,fun _=>hd⟩
   ·rename_i e
    rw[hv j z hz];omega
  have hdd:=hdp i y d hy (hp i d (hc.keep i d (hb.keep i d hset hd) hd) hd)
  have hsy:=hg.good.s y (List.mem_of_getElem? hy)
  rw[hky] at hb ih1
  obtain⟨m1,met1,q1,v1,s1,mo1,⟨f1,k1⟩,sm1,le1,tr1,L1⟩:=ih1 (m:=i+1) (r:=t++r) (met:=Xtc met i) (by omega) (by simp[hl]) hv1 hst1
   (fun hne=>Int.not_lt.1 fun hh=>hne (hdd.2 (by omega))) (fun j z hz hz0=>hp j z (hc.keep j z hz hz0) hz0) hm.next
  obtain⟨m2,met2,q2,v2,s2,mo2,⟨f2,k2⟩,sm2,le2,tr2,L2⟩:=ih2 (m:=m1) (r:=r) (met:=met1) hd (by rw[hb.len];simp[hl]) v1 s1 (fun _=>h24 (by simp)) hp mo1
  have hq1:=Xql (k1 f1 (Nat.le_refl _))
  have himet:(i:Int) ∉ met:=fun e=>by have:=(hm i).1 e;omega
  have hT1:Tre g i ((i:Int)::t++r)->Tre g (i+1) (y.kids++(t++r)):=by
   intro hT
   unfold Tre at hT ⊢
   rw[Xna hy] at hT
   simp only[List.length_cons,List.length_append] at hT ⊢
   omega
  have hale:=Yy0 hiN
  obtain⟨hsh,hnd,hk3⟩:=Xou hg hy (n:=anc g i) hq1 (by omega)
  refine⟨m2,met2,.mk y.k (Xbd (anc g i)) y.x y.keys q1::q2,v2,s2,mo2,⟨max f1 f2+1,fun f hf=>?_⟩,?_,by omega,fun hT=>tr2 (tr1 (hT1 hT)),fun F nm hL=>?_⟩
  ·obtain⟨f,rfl⟩:∃ f',f=f'+1:=⟨f - 1,by omega⟩
   simp only[ofL]
   rw[Xz1 hy hiN (fun hh=>himet hh.2) (k1 f (by omega)),Option.bind_some]
   simp only
   rw[k2 (f+1) (by omega)];rfl
  ·intro c hc
   rcases List.mem_cons.1 hc with rfl|hc
   ·rw[Xp3];exact⟨hsy.1,by show q1.length<=12;rw[hq1];exact hsy.2,sm1⟩
   ·exact sm2 c hc
  ·have hchk:Xp2 Xag (.mk y.k (Xbd (anc g i)) y.x y.keys q1) d F.length nm=if F.length=200 then 71 else 0:=by
    unfold Xp2
    rw[if_neg (by omega),if_neg (by rw[hsh];simp),if_neg (fun hh=>hh hnd),if_neg (fun hh=>hk3 hh.1)]
    by_cases h2:F.length=200
    ·rw[if_pos ⟨hk3,h2⟩,if_pos h2]
    ·rw[if_neg (fun hh=>h2 hh.2),if_neg h2]
   rw[Xbi]
   by_cases h2:F.length=200
   ·rw[if_pos h2] at hchk
    rw[Xda,hchk]
    refine⟨fun _ hF=>?_,.inl rfl⟩
    rw[hF,Xcy] at h2;omega
   ·rw[if_neg h2] at hchk
    have hL1:Ly g (i+1) (F++[(i:Int)]) (if Xbd (anc g i)=⟨#[]⟩ then nm else Xne nm (Xbd (anc g i)) F.length):=by
     intro j hj haj
     have hFi:(F++[(i:Int)])[F.length]?=some (i:Int):=by rw[List.getElem?_append_right (Nat.le_refl _),Nat.sub_self];rfl
     by_cases hji:j=i
     ·subst hji
      rw[if_neg (Xjd haj),Xm9,if_pos rfl]
      exact⟨F.length,rfl,hFi⟩
     ·obtain⟨p,hp1,hp2⟩:=hL.app [(i:Int)] j (by omega) haj
      refine⟨p,?_,hp2⟩
      split
      ·exact hp1
      ·rename_i hne
       have hi0:0 < anc g i:=Classical.byContradiction fun hh=>hne (Xfr hh)
       rw[Xm9,if_neg (fun e=>hji (Whp (by omega) hiN haj (Yhy haj hi0 e)))]
       exact hp1
    have hlt':=Xda Xag (.mk y.k (Xbd (anc g i)) y.x y.keys q1) d F.length nm
    rw[hchk,if_neg (by simp),if_neg (show ¬ (Tr.mk y.k (Xbd (anc g i)) y.x y.keys q1).k=3 from hk3)] at hlt'
    obtain⟨nm1,hnm1⟩:∃ z,z=(if Xbd (anc g i)=⟨#[]⟩ then nm else Xne nm (Xbd (anc g i)) F.length):=⟨_,rfl⟩
    rw[<- hnm1] at hL1
    have hlt2:Xch Xag (.mk y.k (Xbd (anc g i)) y.x y.keys q1) d F.length nm=⟨[if (Xcd Xag q1 (d+1) (F.length+1) nm1).e≠0 then 0 else (F.length:Int)],(Xcd Xag q1 (d+1) (F.length+1) nm1).e,⟨y.k,y.x,y.keys,(Xcd Xag q1 (d+1) (F.length+1) nm1).is⟩::(Xcd Xag q1 (d+1) (F.length+1) nm1).new,(Xcd Xag q1 (d+1) (F.length+1) nm1).nm⟩:=by
     rw[hnm1];exact hlt'
    rw[hlt2]
    obtain⟨A1,A2⟩:=L1 (F++[(i:Int)]) nm1 hL1
    rw[show (F++[(i:Int)]).length=F.length+1 from by simp] at A1 A2
    generalize Xcd Xag q1 (d+1) (F.length+1) nm1=r1 at *
    have hrng:F=Xd2 i->F++[(i:Int)]=Xd2 (i+1):=fun e=>by rw[e,Xm7]
    rcases A2 with A2|⟨A2,org1,R1,T1⟩
    ·simp only
     rw[if_pos (show r1.e≠0 by omega)]
     refine⟨fun hT hF=>?_,.inl A2⟩
     have:=A1 (hT1 hT) (hrng hF)
     exact this
    ·simp only[A2,ne_eq,not_true,if_false]
     obtain⟨B1,B2⟩:=L2 (F++[(i:Int)]++org1) r1.nm R1.nm
     rw[show (F++[(i:Int)]++org1).length=F.length+(r1.new.length+1) from by simp[R1.len]] at B1 B2
     simp only[List.length_cons]
     generalize Xcd Xag q2 d (F.length+(r1.new.length+1)) r1.nm=r2 at *
     refine⟨fun hT hF=>B1 (tr1 (hT1 hT)) (T1 (hT1 hT) (hrng hF)),?_⟩
     rcases B2 with B2|⟨B2,org2,R2,T2⟩
     ·exact .inl B2
     ·have he:F++(i:Int)::(org1++org2)=F++[(i:Int)]++org1++org2:=by simp
      refine .inr ⟨B2,(i:Int)::(org1++org2),⟨?_,?_,?_,?_⟩,fun hT hF=>?_⟩
      ·simp[R1.len,R2.len]
      ·rw[he]
       refine⟨⟨F.length,rfl,by rw[List.append_assoc,List.append_assoc,List.getElem?_append_right (Nat.le_refl _),Nat.sub_self];rfl⟩,R2.is⟩
      ·rw[he]
       exact⟨⟨i,y,rfl,hy,rfl,rfl,rfl,R1.is.app org2⟩,Xan.append (R1.new.app org2) R2.new⟩
      ·rw[he];exact R2.nm
      ·rw[he];exact T2 (tr1 (hT1 hT)) (T1 (hT1 hT) (hrng hF))
theorem Ypn {R:ByteArray->Bool} (c:Tr) (d:Int) (n:Nat) (nm:Nm):Xcd R [c] d n nm=Xch R c d n nm:=by
 rw[Xbi]
 split
 ·rfl
 ·rename_i h
  simp only[Xcd,List.append_nil]
  have he:(Xch R c d n nm).e=0:=by omega
  generalize Xch R c d n nm=r at *
  cases r
  simp only at he
  subst he
  rfl
theorem X1p {g:Gr} (hg:Tdy g) (hdp:Xos g) (hN:g.l.length < 100):∃ (t:Tr) (met:List Int) (f:Nat),ofF g (Xuz g) f 0 []=some (t,met)/\smT t/\Lay18 g 0 g.l.length [0] (Tre g 0 [0]) [] (Xch Xag t 1 0 []):=by
 have h0:∀ (i:Nat) (x:Int),(List.replicate g.l.length (0:Int))[i]?=some x->(0 < x↔i < 0):=by
  intro i x hx
  rw[List.getElem?_replicate] at hx
  split at hx
  ·cases hx;simp
  ·cases hx
 obtain⟨m',met',q,e1,e2,e3,⟨f0,e4⟩,e5,e6,e7,e8⟩:=Yh4 hg hdp hN hg.dep (m:=0) (r:=[]) (met:=[]) (by omega) (by simp) h0 (St18.first hg) (fun _=>by omega) (fun _ _ h _=>h) (fun j=>by constructor <;> intro h <;> simp at h;omega)
 have hm':m'=g.l.length:=by
  have:=e2.w.nil_inv
  have h2:=congrArg List.length this
  simp only[Xcy] at h2
  omega
 subst hm'
 have h4:=e4 f0 (Nat.le_refl _)
 simp only[ofL] at h4
 obtain⟨p,h5,h6⟩:=Option.bind_eq_some_iff.1 h4
 simp only[Option.map_some,Option.some.injEq,Prod.mk.injEq] at h6
 obtain⟨rfl,h7⟩:=h6
 refine⟨p.1,p.2,f0,h5,e5 _ (by simp),?_⟩
 have h8:=e8 [] [] (fun j hj _=>by omega)
 rw[List.length_nil,Ypn] at h8
 exact h8
open Go.Proofs.Tryz renaming prog->QP
variable {gp:Xaj} {ua:Addr}
abbrev Wxj (g:Gr) (i:Nat):Prop:=∀ (x:Nd) (d:Int),g.l[i]?=some x->(Xgi g)[i]?=some d->d<=24/\(d=24->x.kids=[])
set_option maxHeartbeats 2000000 in
theorem Yh5 (h:Env18 gp ua) {g:Gr} (hg:Tdy g) (hd:¬ Xos g):Xao QP gp 11 [g.v] (.tup [Tr0.v,vi 73]):=by
 have c1:=Xp0 h.e g hg.good.s
 rw[decide_eq_true ⟨hg.good.c,hg.self⟩] at c1
 have c2:=Xzw h.e hg
 have hdl:=hg.dep_len
 have hlen:=hg.good.len
 refine X32 ?_
 simp only[go_sem]
 repeat' first|refine Kn rfl ?_|((first|refine Ka ?_|refine Kv ?_);simp only[Xc6,go_sem])|refine Kf ?_|refine⟨_,c1,Kg ?_⟩|refine⟨_,⟨c1,rfl⟩,Kg ?_⟩|refine⟨_,c2,Kg ?_⟩|refine⟨_,⟨c2,rfl⟩,Kg ?_⟩|(apply Kp<;>intro _<;>try (exfalso;omega))
 refine Kt (fr 57 [(1,.one (.d (gBx g))),(2,.one (.ptr 0 0)),(3,vi 0),(21,.one (.d (.sl (Xai (Xgi g))))),(22,vi (Xgi g).length),(23,vi (0:Nat))]) ?_
 refine Km (fun mz sz=>∃ i:Nat,i<=(Xgi g).length/\mz=(Xgi g).length - i/\(∀ j,j < i->Wxj g j)/\sz=⟨fr 57 [(1,.one (.d (gBx g))),(2,.one (.ptr 0 0)),(3,vi 0),(21,.one (.d (.sl (Xai (Xgi g))))),(22,vi (Xgi g).length),(23,vi i)],[_]⟩) ((Xgi g).length) ⟨0,Nat.zero_le _,(Nat.sub_zero _).symm,?_,rfl⟩ ?_
 ·intro j hj;omega
 rintro _ _ ⟨i,hi,rfl,hok,rfl⟩
 simp only[go_sem]
 by_cases hil:i < (Xgi g).length
 ·obtain⟨d,hdi⟩:=Xaq hil
  obtain⟨x,hx⟩:=Xaq (l:=g.l) (i:=i) (by omega)
  have hik:inK .i64 ((i:Int)+1):=by simp[inK,IntKind.min,IntKind.max,IntKind.signed,IntKind.bits];omega
  by_cases hbig:d > 24
  ·have e0:decide (d > 24)=true:=by simp;omega
   repeat' first|refine Kn rfl ?_|((first|refine Ka ?_|refine Kv ?_);simp only[Xc6,e0,go_sem])|refine Kf ?_|refine⟨_,⟨Kq _,(by first|exact Xae hdi|(rw[Int.toNat_natCast];exact Xae hdi)),rfl⟩,Kg ?_⟩|refine⟨_,⟨Kq _,(by first|exact Xae hx|(rw[Int.toNat_natCast];exact Xae hx)),rfl⟩,Kg ?_⟩|refine⟨hik,?_⟩|(apply Kp<;>intro _<;>try (exfalso;omega))
   repeat' first|refine Kn rfl ?_|((first|refine Kw ?_|refine Kv ?_);simp only[Xc6,go_sem])|refine Kf ?_|(apply Kp<;>intro _<;>try (exfalso;omega))
   all_goals exact⟨rfl,rfl,rfl,rfl,rfl,rfl,rfl⟩
  ·have e0:decide (d > 24)=false:=by simp;omega
   by_cases h24:d=24
   ·have e1:(d==24)=true:=by simp[h24]
    by_cases hk:x.kids=[]
    ·have e2:decide ((x.kids.length:Int) > 0)=false:=by simp[hk]
     repeat' first|refine Kn rfl ?_|((first|refine Ka ?_|refine Kv ?_);simp only[Xc6,e0,e1,e2,go_sem])|refine Kf ?_|refine⟨_,⟨Kq _,(by first|exact Xae hdi|(rw[Int.toNat_natCast];exact Xae hdi)),rfl⟩,Kg ?_⟩|refine⟨_,⟨Kq _,(by first|exact Xae hx|(rw[Int.toNat_natCast];exact Xae hx)),rfl⟩,Kg ?_⟩|refine⟨hik,?_⟩|(apply Kp<;>intro _<;>try (exfalso;omega))
     refine Kt (fr 57 [(1,.one (.d (gBx g))),(2,.one (.ptr 0 0)),(3,vi 0),(21,.one (.d (.sl (Xai (Xgi g))))),(22,vi (Xgi g).length),(23,vi (i+1))]) ?_
     refine Kl ⟨(Xgi g).length - (i+1),by omega,i+1,by omega,rfl,?_,rfl⟩
     intro j hj
     by_cases e:j=i
     ·subst e
      intro y z hy hz
      rw[hx] at hy;rw[hdi] at hz
      cases hy;cases hz
      exact⟨by omega,fun _=>hk⟩
     ·exact hok j (by omega)
    ·have e2:decide ((x.kids.length:Int) > 0)=true:=by
      have:=List.length_pos_iff.2 hk
      simp;omega
     repeat' first|refine Kn rfl ?_|((first|refine Ka ?_|refine Kv ?_);simp only[Xc6,e0,e1,e2,go_sem])|refine Kf ?_|refine⟨_,⟨Kq _,(by first|exact Xae hdi|(rw[Int.toNat_natCast];exact Xae hdi)),rfl⟩,Kg ?_⟩|refine⟨_,⟨Kq _,(by first|exact Xae hx|(rw[Int.toNat_natCast];exact Xae hx)),rfl⟩,Kg ?_⟩|refine⟨hik,?_⟩|(apply Kp<;>intro _<;>try (exfalso;omega))
     repeat' first|refine Kn rfl ?_|((first|refine Kw ?_|refine Kv ?_);simp only[Xc6,go_sem])|refine Kf ?_|(apply Kp<;>intro _<;>try (exfalso;omega))
     all_goals exact⟨rfl,rfl,rfl,rfl,rfl,rfl,rfl⟩
   ·have e1:(d==24)=false:=by simp[h24]
    repeat' first|refine Kn rfl ?_|((first|refine Ka ?_|refine Kv ?_);simp only[Xc6,e0,e1,go_sem])|refine Kf ?_|refine⟨_,⟨Kq _,(by first|exact Xae hdi|(rw[Int.toNat_natCast];exact Xae hdi)),rfl⟩,Kg ?_⟩|refine⟨_,⟨Kq _,(by first|exact Xae hx|(rw[Int.toNat_natCast];exact Xae hx)),rfl⟩,Kg ?_⟩|refine⟨hik,?_⟩|(apply Kp<;>intro _<;>try (exfalso;omega))
    refine Kt (fr 57 [(1,.one (.d (gBx g))),(2,.one (.ptr 0 0)),(3,vi 0),(21,.one (.d (.sl (Xai (Xgi g))))),(22,vi (Xgi g).length),(23,vi (i+1))]) ?_
    refine Kl ⟨(Xgi g).length - (i+1),by omega,i+1,by omega,rfl,?_,rfl⟩
    intro j hj
    by_cases e:j=i
    ·subst e
     intro y z hy hz
     rw[hx] at hy;rw[hdi] at hz
     cases hy;cases hz
     exact⟨by omega,fun hh=>absurd hh h24⟩
    ·exact hok j (by omega)
 ·exfalso
  exact hd fun j x d hx hdj=>hok j (by have:=(Kr.1 hdj).1;omega) x d hx hdj
noncomputable def Yh6 (g:Gr):Gr:=if chk (Xbe g 40)=none then Xbl (Xbe g 40) else Xbe g 40
theorem Xif (g:Gr):Xe3 (Xbe g 40)/\(Xbe g 40).l.length<=40:=by
 unfold Xbe
 split
 ·exact⟨fun x hx=>(by cases hx),by simp⟩
 ·rename_i h
  refine⟨g.cut_small,?_⟩
  have:g.cut.l.length<=g.l.length:=by
   unfold Gr.cut
   simp only[List.length_map,List.length_take]
   omega
  omega
theorem Ypo (h:Env gp) (g:Gr):Xao QP gp 10 [g.v] (Yh6 g).v:=by
 have c1:=Whj (gp:=gp) g 40
 obtain⟨hs,_⟩:=Xif g
 have c2:=Yb7 h (Xbe g 40) hs
 refine Wjz ?_
 simp only[go_sem]
 unfold Yh6
 by_cases hc:chk (Xbe g 40)=none
 ·rw[if_pos hc]
  rw[Xe4 hc,show tOf (Xbe g 40)=Xbl (Xbe g 40) from by unfold tOf;rw[if_pos hc]] at c2
  repeat' first|refine Kn rfl ?_|((first|refine Kw ?_|refine Kv ?_);simp only[go_sem])|refine Kf ?_|refine⟨_,c1,Kg ?_⟩|refine⟨_,⟨c1,rfl⟩,Kg ?_⟩|refine⟨_,c2,Kg ?_⟩|refine⟨_,⟨c2,rfl⟩,Kg ?_⟩|(apply Kp<;>intro _<;>try (exfalso;omega))
  all_goals (try exact⟨rfl,rfl⟩)
 ·rw[if_neg hc]
  have e1:(Xmv (Xbe g 40)==0)=false:=by simpa using Xky hc
  repeat' first|refine Kn rfl ?_|((first|refine Kw ?_|refine Kv ?_);simp only[e1,go_sem])|refine Kf ?_|refine⟨_,c1,Kg ?_⟩|refine⟨_,⟨c1,rfl⟩,Kg ?_⟩|refine⟨_,c2,Kg ?_⟩|refine⟨_,⟨c2,rfl⟩,Kg ?_⟩|(apply Kp<;>intro _<;>try (exfalso;omega))
  all_goals (try exact⟨rfl,rfl⟩)
theorem Whs (g:Gr):(Tdy (Yh6 g)/\(Yh6 g).l.length<=40)\/(Xe3 (Yh6 g)/\¬ chk (Yh6 g)=none/\(Yh6 g).l.length<=40):=by
 obtain⟨hs,hl⟩:=Xif g
 unfold Yh6
 by_cases hc:chk (Xbe g 40)=none
 ·rw[if_pos hc]
  have hg:Good (Xbe g 40):=⟨hc,hs⟩
  exact .inl ⟨hg.tdy,by rw[Xeo];have:=hg.wlen;omega⟩
 ·rw[if_neg hc]
  exact .inr ⟨hs,hc,hl⟩
end Go.Fw.L07
