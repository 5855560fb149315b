/- Chapter 9,plain: pairs. -/
import Derived.Test.YtakgmpkfpkmkaaaGreatDoorEa
import Derived.Test.YtakgmpkfpkmkaaaGreatDoorL07L09Mini
set_option linter.all false
namespace Go.Fw.L07
open Go Go.Fw
open List renaming getElem?_eq_some_iff->Kr
set_option maxRecDepth 4000
abbrev Pp:=Int × Int
def X1j (x y:Nd):Bool:=decide (x.k=y.k) && (decide (x.x=y.x) && (decide (Xai x=Xai y) && decide (x.kids.length=y.kids.length)))
theorem Xbv {x y:Nd}:X1j x y=true↔x.k=y.k/\x.x=y.x/\Xai x=Xai y/\x.kids.length=y.kids.length:=by simp[X1j]
def Wsk (g h:Gr) (p:Pp):Bool:=X1j (Xbb g.l p.1) (Xbb h.l p.2)
def kdP (g h:Gr) (p:Pp):List Pp:=List.zip (kd g p.1) (kd h p.2)
inductive PW (f:Pp->Bool) (k:Pp->List Pp):List Pp->List Pp->List Pp->Bool->Prop
 | nil (out:List Pp):PW f k [] out out true
 | skip {p:Pp} {r out w:List Pp} {b:Bool}:p∈out->PW f k r out w b->PW f k (p::r) out w b
 | stop {p:Pp} {r out:List Pp}:p ∉ out->f p=false->PW f k (p::r) out (out++[p]) false
 | step {p:Pp} {r out w:List Pp} {b:Bool}:p ∉ out->f p=true->PW f k (k p++r) (out++[p]) w b->PW f k (p::r) out w b
section
variable {f:Pp->Bool} {k:Pp->List Pp}
theorem PW.det {t o w v:List Pp} {b c:Bool} (h:PW f k t o w b) (h':PW f k t o v c):w=v/\b=c:=by
 induction h with
 | nil=>cases h';exact⟨rfl,rfl⟩
 | skip hm _ ih =>
  cases h' with
  | skip _ h2=>exact ih h2
  | stop hn _=>exact absurd hm hn
  | step hn _ _=>exact absurd hm hn
 | stop hn hf =>
  cases h' with
  | skip hm _=>exact absurd hm hn
  | stop _ _=>exact⟨rfl,rfl⟩
  | step _ h2 _=>rw[hf] at h2;cases h2
 | step hn hf _ ih =>
  cases h' with
  | skip hm _=>exact absurd hm hn
  | stop _ h2=>rw[hf] at h2;cases h2
  | step _ _ h3=>exact ih h3
theorem PW.nil_inv {o w:List Pp} {b:Bool} (h:PW f k [] o w b):w=o/\b=true:=by cases h;exact⟨rfl,rfl⟩
theorem PW.skip_inv {p:Pp} {r o w:List Pp} {b:Bool} (h:PW f k (p::r) o w b) (hm:p∈o):PW f k r o w b:=by
 cases h with
 | skip _ h=>exact h
 | stop hn _=>exact absurd hm hn
 | step hn _ _=>exact absurd hm hn
theorem PW.step_inv {p:Pp} {r o w:List Pp} {b:Bool} (h:PW f k (p::r) o w b) (hm:p ∉ o) (hf:f p=true):PW f k (k p++r) (o++[p]) w b:=by
 cases h with
 | skip hn _=>exact absurd hn hm
 | stop _ h2=>rw[hf] at h2;cases h2
 | step _ _ h=>exact h
theorem PW.pre {t o w:List Pp} {b:Bool} (h:PW f k t o w b):∃ r,w=o++r:=by
 induction h with
 | nil out=>exact⟨[],by simp⟩
 | skip _ _ ih=>exact ih
 | stop _ _=>exact⟨_,rfl⟩
 | step _ _ _ ih =>
  obtain⟨r,hr⟩:=ih
  exact⟨_::r,by rw[hr,List.append_assoc];rfl⟩
theorem PW.sub {t o w:List Pp} {b:Bool} (h:PW f k t o w b) {p:Pp} (hp:p∈o):p∈w:=by
 obtain⟨r,rfl⟩:=h.pre
 exact List.mem_append_left _ hp
theorem Xjs {o:List Pp} {p:Pp} (ho:o.Nodup) (hn:p ∉ o):(o++[p]).Nodup:=by
 refine List.nodup_append.2 ⟨ho,by simp,?_⟩
 intro a ha b hb;simp at hb;subst hb;rintro rfl;exact hn ha
theorem PW.nodup {t o w:List Pp} {b:Bool} (h:PW f k t o w b) (ho:o.Nodup):w.Nodup:=by
 induction h with
 | nil=>exact ho
 | skip _ _ ih=>exact ih ho
 | stop hn _=>exact Xjs ho hn
 | step hn _ _ ih=>exact ih (Xjs ho hn)
theorem PW.all {P:Pp->Prop} {t o w:List Pp} {b:Bool} (h:PW f k t o w b) (ht:∀ p∈t,P p) (ho:∀ p∈o,P p) (hk:∀ p,P p->∀ q∈k p,P q):∀ p∈w,P p:=by
 induction h with
 | nil=>exact ho
 | skip _ _ ih=>exact ih (fun i hi=>ht i (List.mem_cons_of_mem _ hi)) ho
 | stop _ _ =>
  intro q hq
  rcases List.mem_append.1 hq with hq|hq
  ·exact ho q hq
  ·simp only[List.mem_singleton] at hq;subst hq;exact ht _ (by simp)
 | @step p r out w b _ _ _ ih =>
  refine ih (fun j hj=>?_) (fun j hj=>?_)
  ·rcases List.mem_append.1 hj with hj|hj
   ·exact hk p (ht p (by simp)) j hj
   ·exact ht j (List.mem_cons_of_mem _ hj)
  ·rcases List.mem_append.1 hj with hj|hj
   ·exact ho j hj
   ·simp only[List.mem_singleton] at hj;subst hj;exact ht _ (by simp)
theorem PW.fits {t o w:List Pp} {b:Bool} (h:PW f k t o w b) (ho:∀ p∈o,f p=true):(b=true/\∀ p∈w,f p=true)\/(b=false/\∃ v p,w=v++[p]/\f p=false/\∀ q∈v,f q=true):=by
 induction h with
 | nil=>exact .inl ⟨rfl,ho⟩
 | skip _ _ ih=>exact ih ho
 | @stop p r out hn hf=>exact .inr ⟨rfl,out,p,rfl,hf,ho⟩
 | @step p r out w b hn hf _ ih =>
  refine ih fun q hq=>?_
  rcases List.mem_append.1 hq with hq|hq
  ·exact ho q hq
  ·simp only[List.mem_singleton] at hq;subst hq;exact hf
theorem PW.todo {t o w:List Pp} {b:Bool} (h:PW f k t o w b) (hb:b=true):∀ p∈t,p∈w:=by
 induction h with
 | nil=>intro i hi;cases hi
 | skip hm h ih =>
  intro i hi
  rcases List.mem_cons.1 hi with rfl|hi
  ·exact h.sub hm
  ·exact ih hb i hi
 | stop _ _=>cases hb
 | step hn hf h ih =>
  intro i hi
  rcases List.mem_cons.1 hi with rfl|hi
  ·exact h.sub (by simp)
  ·exact ih hb i (List.mem_append_right _ hi)
theorem PW.closed {t o w:List Pp} {b:Bool} (h:PW f k t o w b) (hb:b=true):∀ p∈w,p ∉ o->∀ q∈k p,q∈w:=by
 induction h with
 | nil=>intro i hi hn;exact absurd hi hn
 | skip _ _ ih=>exact ih hb
 | stop _ _=>cases hb
 | @step p r out w b hn hf h ih =>
  intro x hx hxo j hj
  by_cases e:x=p
  ·subst e;exact h.todo hb j (List.mem_append_left _ hj)
  ·exact ih hb x hx (by simp[hxo,e]) j hj
theorem PW.walks {k':Int->List Int} {φ:Pp->Int} {t o w:List Pp} {b:Bool} (h:PW f k t o w b) (hb:b=true) (hi:∀ p∈w,∀ q∈w,φ p=φ q->p=q) (hk:∀ p∈w,k' (φ p)=(k p).map φ):Walks k' (t.map φ) (o.map φ) (w.map φ):=by
 induction h with
 | nil=>exact .nil _
 | skip hm _ ih=>exact .skip (List.mem_map_of_mem hm) (ih hb hi hk)
 | stop _ _=>cases hb
 | @step p r out w b hn hf h ih =>
  have hpw:p∈w:=h.sub (by simp)
  refine .step ?_ ?_
  ·intro hm
   obtain⟨q,hq,e⟩:=List.mem_map.1 hm
   have:q=p:=hi q (h.sub (List.mem_append_left _ hq)) p hpw e
   subst this
   exact hn hq
  ·have:=ih hb hi hk
   rw[hk p hpw]
   simpa using this
theorem X1k {n:Nat} {l:List Pp} (hn:l.Nodup) (h:∀ p∈l,(0<=p.1/\p.1 < 200)/\(0<=p.2/\p.2 < 200)):l.length<=200000:=by
 have:=Xd0 (n:=200000) (l:=l.map fun p=>p.1*1000+p.2) (by
  rw[List.Nodup,List.pairwise_map]
  refine List.Pairwise.imp_of_mem ?_ hn
  intro a b ha hb hab e
  have h1:=h a ha
  have h2:=h b hb
  exact hab (Prod.ext (by omega) (by omega))) (by
  intro i hi
  obtain⟨p,hp,rfl⟩:=List.mem_map.1 hi
  have:=h p hp
  omega)
 simpa using this
theorem PW.ex (c:Nat) (hc:∀ p,(k p).length<=c) (hk:∀ p,∀ q∈k p,(0<=q.1/\q.1 < 200)/\(0<=q.2/\q.2 < 200)):∀ (z:Nat) (t o:List Pp),(200000 - o.length)*(c+1)+t.length<=z->o.Nodup->(∀ p∈o,(0<=p.1/\p.1 < 200)/\(0<=p.2/\p.2 < 200))->(∀ p∈t,(0<=p.1/\p.1 < 200)/\(0<=p.2/\p.2 < 200))->∃ w b,PW f k t o w b
 | z,[],o,_,_,_,_=>⟨o,true,.nil o⟩
 | 0,i::t,o,hf,_,_,_=>by simp at hf
 | z+1,i::t,o,hf,hn,ho,ht=>by
  by_cases hm:i∈o
  ·obtain⟨w,b,hw⟩:=PW.ex c hc hk z t o (by simp at hf;omega) hn ho fun j hj=>ht j (List.mem_cons_of_mem _ hj)
   exact⟨w,b,.skip hm hw⟩
  ·cases hfi:f i with
   | false=>exact⟨_,_,.stop hm hfi⟩
   | true =>
    have hn':(o++[i]).Nodup:=Xjs hn hm
    have ho':∀ p∈o++[i],(0<=p.1/\p.1 < 200)/\(0<=p.2/\p.2 < 200):=fun j hj=>by
     rcases List.mem_append.1 hj with hj|hj
     ·exact ho j hj
     ·simp only[List.mem_singleton] at hj;subst hj;exact ht _ (by simp)
    have hlen:o.length+1<=200000:=by
     have:=X1k (n:=0) hn' ho'
     simpa using this
    obtain⟨w,b,hw⟩:=PW.ex c hc hk z (k i++t) (o++[i]) (by
     have h1:=hc i
     simp only[List.length_append,List.length_cons,List.length_nil] at hf ⊢
     have h2:200000 - o.length=(200000 - (o.length+(0+1)))+1:=by omega
     rw[h2,Nat.add_mul] at hf
     omega) hn' ho' fun j hj=>by
     rcases List.mem_append.1 hj with hj|hj
     ·exact hk i j hj
     ·exact ht j (List.mem_cons_of_mem _ hj)
    exact⟨w,b,.step hm hfi hw⟩
end
open Classical in
noncomputable def Yd1 (f:Pp->Bool) (k:Pp->List Pp) (t:List Pp):List Pp × Bool:=if h:∃ r:List Pp × Bool,PW f k t [] r.1 r.2 then Classical.choose h else ([],false)
theorem PW.eq {f:Pp->Bool} {k:Pp->List Pp} {t w:List Pp} {b:Bool} (h:PW f k t [] w b):Yd1 f k t=(w,b):=by
 unfold Yd1
 have hx:∃ r:List Pp × Bool,PW f k t [] r.1 r.2:=⟨(w,b),h⟩
 rw[dif_pos hx]
 have:=(Classical.choose_spec hx).det h
 exact Prod.ext this.1 this.2
noncomputable def Xdm (g h:Gr):List Pp × Bool:=Yd1 (Wsk g h) (kdP g h) [(g.root,h.root)]
theorem Yn4 {A B:List Int} {q:Pp} (h:q∈List.zip A B):∃ i:Nat,A[i]?=some q.1/\B[i]?=some q.2:=by
 obtain⟨i,hi⟩:=List.mem_iff_getElem?.1 h
 exact⟨i,List.getElem?_zip_eq_some.1 hi⟩
theorem Yn5 {A B:List Int} {i:Nat} {a b:Int} (h:A[i]?=some a) (h':B[i]?=some b):(a,b)∈List.zip A B :=
 List.mem_of_getElem? (List.getElem?_zip_eq_some.2 ⟨h,h'⟩)
theorem Yd2 {g h:Gr} (hg:Good g) (hh:Good h) (p:Pp):∀ q∈kdP g h p,(0<=q.1/\q.1 < 200)/\(0<=q.2/\q.2 < 200):=by
 intro q hq
 obtain⟨i,h1,h2⟩:=Yn4 hq
 have h3:=hg.kid _ _ (List.mem_of_getElem? h1)
 have h4:=hh.kid _ _ (List.mem_of_getElem? h2)
 have h5:=hg.len
 have h6:=hh.len
 omega
theorem Wcu {g h:Gr} (hg:Good g) (p:Pp):(kdP g h p).length<=12:=by
 have:=Ydq hg.s p.1
 simp only[kdP,List.length_zip];omega
theorem Xps {g h:Gr} (hg:Good g) (hh:Good h):PW (Wsk g h) (kdP g h) [(g.root,h.root)] [] (Xdm g h).1 (Xdm g h).2:=by
 have h1:=hg.root
 have h2:=hh.root
 have h3:=hg.len
 have h4:=hh.len
 obtain⟨w,b,hw⟩:=PW.ex (f:=Wsk g h) 12 (Wcu hg) (Yd2 hg hh) _ [(g.root,h.root)] [] (Nat.le_refl _) (by simp) (by simp) (by simp;omega)
 have:=hw.eq
 unfold Xdm
 rw[this]
 exact hw
noncomputable def Xmn (g h:Gr):Bool:=(Xdm g h).2 && (decide (((Xdm g h).1.map Prod.fst).Nodup) && decide (((Xdm g h).1.map Prod.snd).Nodup))
structure Iso (g h:Gr) (R:Int->Int->Prop):Prop where
 root:R g.root h.root
 fit:∀ a b,R a b->Wsk g h (a,b)=true
 kid:∀ a b,R a b->∀ q∈kdP g h (a,b),R q.1 q.2
 one:∀ a b c,R a b->R a c->b=c
 inj:∀ a b c,R a c->R b c->a=b
theorem Xip {α:Type} {φ:Pp->α} {l:List Pp} (h:(l.map φ).Nodup):∀ p∈l,∀ q∈l,φ p=φ q->p=q:=by
 rw[List.Nodup,List.pairwise_map] at h
 intro p hp q hq e
 obtain⟨i,hi⟩:=List.mem_iff_getElem?.1 hp
 obtain⟨j,hj⟩:=List.mem_iff_getElem?.1 hq
 obtain⟨hi1,hi2⟩:=Kr.1 hi
 obtain⟨hj1,hj2⟩:=Kr.1 hj
 rw[List.pairwise_iff_getElem] at h
 rcases Nat.lt_trichotomy i j with hij|hij|hij
 ·exact absurd (by rw[hi2,hj2];exact e) (h i j hi1 hj1 hij)
 ·subst hij;rw[<- hi2,<- hj2]
 ·exact absurd (by rw[hi2,hj2];exact e.symm) (h j i hj1 hi1 hij)
theorem Xrz {α:Type} {φ:Pp->α} {l:List Pp} (hn:l.Nodup) (h:∀ p∈l,∀ q∈l,φ p=φ q->p=q):(l.map φ).Nodup:=by
 rw[List.Nodup,List.pairwise_map]
 exact List.Pairwise.imp_of_mem (fun {a b} ha hb hab e=>hab (h a ha b hb e)) hn
theorem Xiq {g h:Gr}:Xmn g h=true↔(Xdm g h).2=true/\((Xdm g h).1.map Prod.fst).Nodup/\((Xdm g h).1.map Prod.snd).Nodup:=by
 unfold Xmn;simp
theorem Yxn {g h:Gr} (hg:Good g) (hh:Good h) (ha:Xmn g h=true):Iso g h fun a b=>(a,b)∈(Xdm g h).1:=by
 obtain⟨hb,h1,h2⟩:=Xiq.1 ha
 have hw:=Xps hg hh
 generalize (Xdm g h).1=w at *
 refine⟨hw.todo hb _ (by simp),fun a b hm=>?_,fun a b hm q hq=>?_,fun a b c hm hm'=>?_,fun a b c hm hm'=>?_⟩
 ·rcases hw.fits (by simp) with ⟨_,h3⟩|⟨h3,_⟩
  ·exact h3 _ hm
  ·rw[hb] at h3;cases h3
 ·exact hw.closed hb _ hm (by simp) q hq
 ·have:=Xip h1 _ hm _ hm' rfl
  exact (Prod.mk.inj this).2
 ·have:=Xip h2 _ hm _ hm' rfl
  exact (Prod.mk.inj this).1
theorem Yn6 {g h:Gr} (hg:Good g) (hh:Good h) {R:Int->Int->Prop} (hR:Iso g h R):Xmn g h=true:=by
 have hw:=Xps hg hh
 have hin:∀ p∈(Xdm g h).1,R p.1 p.2:=hw.all (P:=fun p=>R p.1 p.2) (by simpa using hR.root) (by simp) fun p hp q hq=>hR.kid p.1 p.2 hp q hq
 have hn:=hw.nodup (by simp)
 refine Xiq.2 ⟨?_,Xrz hn fun p hp q hq e=>?_,Xrz hn fun p hp q hq e=>?_⟩
 ·rcases hw.fits (by simp) with ⟨h3,_⟩|⟨h3,v,p,h4,h5,_⟩
  ·exact h3
  ·have:=hR.fit _ _ (hin p (by rw[h4];simp))
   rw[h5] at this;cases this
 ·have h1:=hin p hp
  have h2:=hin q hq
  rw[e] at h1
  exact Prod.ext e (hR.one _ _ _ h1 h2)
 ·have h1:=hin p hp
  have h2:=hin q hq
  rw[e] at h1
  exact Prod.ext (hR.inj _ _ _ h1 h2) e
theorem Wcv {g:Gr} {a:Int} (h:¬ (0<=a/\a < g.l.length)):kd g a=[]:=by
 rw[kd,Xil h];simp[Xae,Xac,Nd.zero]
theorem Xt6 {g:Gr} (hg:Good g) (a:Int):(kd g a).length=(Xbb g.l a).kids.length:=by
 by_cases h:0<=a/\a < g.l.length
 ·exact (Xmi (hg.node h)).len
 ·rw[Wcv h,Xil h];rfl
theorem Yd3 {g h:Gr} (hg:Good g) (hh:Good h) {p:Pp} (hf:Wsk g h p=true):(kd g p.1).length=(kd h p.2).length:=by
 rw[Xt6 hg,Xt6 hh]
 exact (Xbv.1 hf).2.2.2
theorem Iso.trans {g h k:Gr} (hg:Good g) (hh:Good h) {R S:Int->Int->Prop} (H:Iso g h R) (K:Iso h k S):Iso g k fun a c=>∃ b,R a b/\S b c where
 root:=⟨_,H.root,K.root⟩
 fit:=by
  rintro a c ⟨b,e,e'⟩
  obtain⟨h1,h2,h3,h4⟩:=Xbv.1 (H.fit a b e)
  obtain⟨k1,k2,k3,k4⟩:=Xbv.1 (K.fit b c e')
  exact Xbv.2 ⟨h1.trans k1,h2.trans k2,h3.trans k3,h4.trans k4⟩
 kid:=by
  rintro a c ⟨b,e,e'⟩ q hq
  obtain⟨i,h1,h2⟩:=Yn4 hq
  have hl:=Yd3 hg hh (H.fit a b e)
  have hi:=(Kr.1 h1).1
  obtain⟨m,hm⟩:=Xal (l:=kd h b) (i:=i) (by rw[<- hl];exact hi)
  exact⟨m,H.kid a b e _ (Yn5 h1 hm),K.kid b c e' _ (Yn5 hm h2)⟩
 one:=by
  rintro a c d ⟨b,e,e'⟩ ⟨b',f,f'⟩
  obtain rfl:=H.one _ _ _ e f
  exact K.one _ _ _ e' f'
 inj:=by
  rintro a a' c ⟨b,e,e'⟩ ⟨b',f,f'⟩
  obtain rfl:=K.inj _ _ _ e' f'
  exact H.inj _ _ _ e f
theorem Yn7 {g:Gr} (hg:Good g):Iso g (Xau g) fun a b=>a∈Xa9 g/\b=((Xa9 g).idxOf a:Int) where
 root:=by
  refine⟨hg.wroot,?_⟩
  obtain⟨r,hr⟩:=hg.whead
  rw[hr];simp[Xau]
 fit:=by
  rintro a b ⟨ha,rfl⟩
  have h1:=Xpn (g:=g) (Xpm ha)
  have hn:=hg.node (hg.wIn a ha)
  show X1j (Xbb g.l a) (Xbb (Xau g).l ((Xa9 g).idxOf a:Int))=true
  rw[h1]
  refine Xbv.2 ⟨rfl,rfl,(Xeu hn _).2.symm,?_⟩
  have:=Xt6 hg a
  simp only[Xbk,List.length_map]
  exact this.symm
 kid:=by
  rintro a b ⟨ha,rfl⟩ q hq
  obtain⟨i,h1,h2⟩:=Yn4 hq
  dsimp only at h1 h2
  rw[Ydu hg ha,List.getElem?_map,h1] at h2
  refine⟨hg.wclosed a ha _ (List.mem_of_getElem? h1),?_⟩
  exact (Option.some.inj h2).symm
 one:=by rintro a b c ⟨_,rfl⟩ ⟨_,rfl⟩;rfl
 inj:=by
  rintro a b c ⟨ha,rfl⟩ ⟨hb,e⟩
  exact Ydr ha hb (by exact Int.ofNat.inj e)
theorem Iso.sub {g h:Gr} {R:Int->Int->Prop} (H:Iso g h R) {a b:Int} (e:R a b):Iso ⟨a,g.l⟩ ⟨b,h.l⟩ R:=⟨e,H.fit,H.kid,H.one,H.inj⟩
theorem Xt7 {g h:Gr} (hg:Good g) (hh:Good h) (ha:Xmn g h=true):Xa9 g=(Xdm g h).1.map Prod.fst/\Xa9 h=(Xdm g h).1.map Prod.snd:=by
 have hi:=Yxn hg hh ha
 obtain⟨hb,h1,h2⟩:=Xiq.1 ha
 have hw:=Xps hg hh
 have hk:∀ p∈(Xdm g h).1,(kd g p.1).length=(kd h p.2).length:=fun p hp=>Yd3 hg hh (hi.fit p.1 p.2 hp)
 constructor
 ·have:=hw.walks (k':=kd g) (φ:=Prod.fst) hb (Xip h1) fun p hp=>by
   show _=(List.zip (kd g p.1) (kd h p.2)).map Prod.fst
   rw[List.map_fst_zip (by have:=hk p hp;omega)]
  exact this.eq
 ·have:=hw.walks (k':=kd h) (φ:=Prod.snd) hb (Xip h2) fun p hp=>by
   show _=(List.zip (kd g p.1) (kd h p.2)).map Prod.snd
   rw[List.map_snd_zip (by have:=hk p hp;omega)]
  exact this.eq
theorem Xn7 {g h:Gr} (hg:Good g) (hh:Good h) (ha:Xmn g h=true):Xau g=Xau h:=by
 have hi:=Yxn hg hh ha
 obtain⟨hb,h1,h2⟩:=Xiq.1 ha
 obtain⟨e1,e2⟩:=Xt7 hg hh ha
 unfold Xau
 rw[e1,e2]
 generalize (Xdm g h).1=w at *
 congr 1
 rw[List.map_map,List.map_map]
 apply List.map_congr_left
 intro p hp
 obtain⟨f1,f2,f3,f4⟩:=Xbv.1 (hi.fit p.1 p.2 hp)
 show Xbk _ (Xbb g.l p.1)=Xbk _ (Xbb h.l p.2)
 unfold Xbk
 rw[f1,f2,f3]
 congr 1
 have hl:(kd g p.1).length=(kd h p.2).length:=Yd3 hg hh (hi.fit p.1 p.2 hp)
 apply List.ext_getElem?
 intro i
 rw[List.getElem?_map,List.getElem?_map]
 by_cases hil:i < (kd g p.1).length
 ·obtain⟨c,hc⟩:=Xal hil
  obtain⟨d,hd⟩:=Xal (l:=kd h p.2) (i:=i) (by omega)
  have hm:=hi.kid p.1 p.2 hp _ (Yn5 hc hd)
  obtain⟨j,hj⟩:=List.mem_iff_getElem?.1 hm
  show Option.map _ (kd g p.1)[i]?=Option.map _ (kd h p.2)[i]?
  rw[hc,hd]
  have i1:=Xn6 h1 (j:=j) (i:=c) (by rw[List.getElem?_map,hj];rfl)
  have i2:=Xn6 h2 (j:=j) (i:=d) (by rw[List.getElem?_map,hj];rfl)
  simp only[Option.map_some,i1,i2]
 ·show Option.map _ (kd g p.1)[i]?=Option.map _ (kd h p.2)[i]?
  rw[List.getElem?_eq_none (by omega),List.getElem?_eq_none (by omega)]
  rfl
variable {gp:Heap}
def W0u (x y:Sc):Int:=if x.k < y.k then -1 else if y.k < x.k then 1 else if x.n < y.n then -1 else if y.n < x.n then 1 else if Op.bytesLess x.s.toList y.s.toList then -1 else if !(Op.bytesLess x.s.toList y.s.toList || decide (x.s=y.s)) then 1 else 0
def kyO (x:Nd) (k:Int):Sc:=(x.keys[k.toNat]?).getD ⟨0,0,⟨#[]⟩⟩
def Wz4 (f:Int->Bool) (out:List Int):Nat:=(out.takeWhile fun k=>!f k).length
def ltO (x:Nd) (i:Nat) (k:Int):Bool:=decide (W0u (kyO x i) (kyO x k) < 0)
def Wwc (x:Nd):Nat->List Int
 | 0=>[]
 | i+1=>(Wwc x i).take (Wz4 (ltO x i) (Wwc x i))++(i:Int)::(Wwc x i).drop (Wz4 (ltO x i) (Wwc x i))
def W07 (out:List Int) (p:Nat) (i:Int) (j:Nat):List Int:=if p < j then out.take p++i::(out.take j).drop p else out.take j
end Go.Fw.L07
