/- Chapter 8,plain: walks. -/
import Derived.Test.YtejnfjophhnaeaaGreatDoorLc
import Derived.Test.YtejnfjophhnaeaaGreatDoorL07L08Mini
set_option linter.all false
namespace Go.Fw.L07
open Go Go.Fw
set_option maxRecDepth 4000
theorem Xfo:∀ {n:Nat} {l:List Int},l.Nodup->(∀ i∈l,0<=i/\i < n)->l.length<=n
 | 0,l,_,h=>by
  cases l with
  | nil=>simp
  | cons a l=>have:=h a (by simp);omega
 | n+1,l,hn,h=>by
  by_cases hm:(n:Int)∈l
  ·have:=Xfo (n:=n) (hn.erase (n:Int)) (fun i hi=>by rw[hn.mem_erase_iff] at hi;have:=h i hi.2;omega)
   rw[List.length_erase_of_mem hm] at this;omega
  ·have:=Xfo (n:=n) hn (fun i hi=>by
    have h1:=h i hi
    have:i≠n:=fun e=>hm (e ▸ hi)
    omega)
   omega
inductive Walks (k:Int->List Int):List Int->List Int->List Int->Prop
 | nil (out:List Int):Walks k [] out out
 | skip {i:Int} {r out w:List Int}:i∈out->Walks k r out w->Walks k (i::r) out w
 | step {i:Int} {r out w:List Int}:i ∉ out->Walks k (k i++r) (out++[i]) w->Walks k (i::r) out w
section
variable {k:Int->List Int}
theorem Walks.det {t o w v:List Int} (h:Walks k t o w) (h':Walks k t o v):w=v:=by
 induction h with
 | nil=>cases h';rfl
 | skip hm _ ih =>
  cases h' with
  | skip _ h2=>exact ih h2
  | step hn _=>exact absurd hm hn
 | step hn _ ih =>
  cases h' with
  | skip hm _=>exact absurd hm hn
  | step _ h2=>exact ih h2
theorem Walks.step_inv {i:Int} {r o w:List Int} (h:Walks k (i::r) o w) (hm:i ∉ o):Walks k (k i++r) (o++[i]) w:=by
 cases h with
 | skip hn _=>exact absurd hn hm
 | step _ h=>exact h
theorem Walks.app {t o m:List Int} (h:Walks k t o m) {r w:List Int} (h':Walks k r m w):Walks k (t++r) o w:=by
 induction h with
 | nil=>exact h'
 | skip hm _ ih=>exact .skip hm (ih h')
 | step hn _ ih =>
  have e:=ih h'
  rw[List.append_assoc] at e
  exact .step hn e
theorem Walks.split {t o w:List Int} (h:Walks k t o w):∀ {a b:List Int},t=a++b->∃ m,Walks k a o m/\Walks k b m w:=by
 induction h with
 | nil out =>
  intro a b e
  obtain⟨rfl,rfl⟩:=List.append_eq_nil_iff.1 e.symm
  exact⟨out,.nil _,.nil _⟩
 | @skip i r out w hm h ih =>
  intro a b e
  cases a with
  | nil =>
   simp only[List.nil_append] at e
   exact⟨out,.nil _,e ▸ .skip hm h⟩
  | cons x a =>
   simp only[List.cons_append,List.cons.injEq] at e
   obtain⟨rfl,e⟩:=e
   obtain⟨m,h1,h2⟩:=ih e
   exact⟨m,.skip hm h1,h2⟩
 | @step i r out w hn h ih =>
  intro a b e
  cases a with
  | nil =>
   simp only[List.nil_append] at e
   exact⟨out,.nil _,e ▸ .step hn h⟩
  | cons x a =>
   simp only[List.cons_append,List.cons.injEq] at e
   obtain⟨rfl,e⟩:=e
   obtain⟨m,h1,h2⟩:=ih (a:=k i++a) (b:=b) (by rw[e,List.append_assoc])
   exact⟨m,.step hn h1,h2⟩
theorem Walks.pre {t o w:List Int} (h:Walks k t o w):∃ r,w=o++r:=by
 induction h with
 | nil out=>exact⟨[],by simp⟩
 | skip _ _ ih=>exact ih
 | step _ _ ih =>
  obtain⟨r,hr⟩:=ih
  exact⟨_::r,by rw[hr,List.append_assoc];rfl⟩
theorem Walks.sub {t o w:List Int} (h:Walks k t o w) {i:Int} (hi:i∈o):i∈w:=by
 obtain⟨r,rfl⟩:=h.pre
 exact List.mem_append_left _ hi
theorem Walks.nodup {t o w:List Int} (h:Walks k t o w) (ho:o.Nodup):w.Nodup:=by
 induction h with
 | nil=>exact ho
 | skip _ _ ih=>exact ih ho
 | step hn _ ih =>
  refine ih (List.nodup_append.2 ⟨ho,by simp,?_⟩)
  intro a ha b hb;simp at hb;subst hb;rintro rfl;exact hn ha
theorem Walks.all {P:Int->Prop} {t o w:List Int} (h:Walks k t o w) (ht:∀ i∈t,P i) (ho:∀ i∈o,P i) (hk:∀ i,P i->∀ j∈k i,P j):∀ i∈w,P i:=by
 induction h with
 | nil=>exact ho
 | skip _ _ ih=>exact ih (fun i hi=>ht i (List.mem_cons_of_mem _ hi)) ho
 | @step i r out w _ _ ih =>
  refine ih (fun j hj=>?_) (fun j hj=>?_)
  ·rcases List.mem_append.1 hj with hj|hj
   ·exact hk i (ht i (by simp)) j hj
   ·exact ht j (List.mem_cons_of_mem _ hj)
  ·rcases List.mem_append.1 hj with hj|hj
   ·exact ho j hj
   ·simp at hj;subst hj;exact ht j (by simp)
theorem Walks.todo {t o w:List Int} (h:Walks k t o w):∀ i∈t,i∈w:=by
 induction h with
 | nil=>intro i hi;cases hi
 | skip hm h ih =>
  intro i hi
  rcases List.mem_cons.1 hi with rfl|hi
  ·exact h.sub hm
  ·exact ih i hi
 | step hn h ih =>
  intro i hi
  rcases List.mem_cons.1 hi with rfl|hi
  ·exact h.sub (by simp)
  ·exact ih i (List.mem_append_right _ hi)
theorem Walks.closed {t o w:List Int} (h:Walks k t o w):∀ i∈w,i ∉ o->∀ j∈k i,j∈w:=by
 induction h with
 | nil=>intro i hi hn;exact absurd hi hn
 | skip _ _ ih=>exact ih
 | @step i r out w hn h ih =>
  intro x hx hxo j hj
  by_cases e:x=i
  ·subst e;exact h.todo j (List.mem_append_left _ hj)
  ·exact ih x hx (by simp[hxo,e]) j hj
theorem Walks.ex (n c:Nat) (hc:∀ i,(k i).length<=c) (hk:∀ i,∀ j∈k i,0<=j/\j < n):∀ (f:Nat) (t o:List Int),(n - o.length)*(c+1)+t.length<=f->o.Nodup->(∀ i∈o,0<=i/\i < n)->(∀ i∈t,0<=i/\i < n)->∃ w,Walks k t o w
 | f,[],o,_,_,_,_=>⟨o,.nil o⟩
 | 0,i::t,o,hf,_,_,_=>by simp at hf
 | f+1,i::t,o,hf,hn,ho,ht=>by
  by_cases hm:i∈o
  ·obtain⟨w,hw⟩:=Walks.ex n c hc hk f t o (by simp at hf;omega) hn ho fun j hj=>ht j (List.mem_cons_of_mem _ hj)
   exact⟨w,.skip hm hw⟩
  ·have hn':(o++[i]).Nodup:=by
    refine List.nodup_append.2 ⟨hn,by simp,?_⟩
    intro a ha b hb;simp at hb;subst hb;rintro rfl;exact hm ha
   have ho':∀ j∈o++[i],0<=j/\j < n:=fun j hj=>by
    rcases List.mem_append.1 hj with hj|hj
    ·exact ho j hj
    ·simp at hj;subst hj;exact ht j (by simp)
   have hlen:o.length+1<=n:=by
    have:=Xfo hn' ho'
    simpa using this
   obtain⟨w,hw⟩:=Walks.ex n c hc hk f (k i++t) (o++[i]) (by
    have h1:=hc i
    simp only[List.length_append,List.length_cons,List.length_nil] at hf ⊢
    have h2:n - o.length=(n - (o.length+(0+1)))+1:=by omega
    rw[h2,Nat.add_mul] at hf
    omega) hn' ho' fun j hj=>by
    rcases List.mem_append.1 hj with hj|hj
    ·exact hk i j hj
    ·exact ht j (List.mem_cons_of_mem _ hj)
   exact⟨w,.step hm hw⟩
theorem Walks.map {k':Int->List Int} {φ:Int->Int} {t o w:List Int} (h:Walks k t o w) (hi:∀ i∈w,∀ j∈w,φ i=φ j->i=j) (hk:∀ i∈w,k' (φ i)=(k i).map φ):Walks k' (t.map φ) (o.map φ) (w.map φ):=by
 induction h with
 | nil=>exact .nil _
 | skip hm _ ih=>exact .skip (List.mem_map_of_mem hm) (ih hi hk)
 | @step i r out w hn h ih =>
  have hiw:i∈w:=h.sub (by simp)
  refine .step ?_ ?_
  ·intro hm
   obtain⟨j,hj,e⟩:=List.mem_map.1 hm
   have:j=i:=hi j (h.sub (List.mem_append_left _ hj)) i hiw e
   subst this
   exact hn hj
  ·have:=ih hi hk
   rw[hk i hiw]
   simpa using this
end
abbrev kd (g:Gr) (i:Int):List Int:=Xak (Xbg g.l i)
open Classical in
noncomputable def Yb1 (k:Int->List Int) (t o:List Int):List Int:=if h:∃ w,Walks k t o w then Classical.choose h else o
theorem Walks.eq {k:Int->List Int} {t o w:List Int} (h:Walks k t o w):Yb1 k t o=w:=by
 unfold Yb1
 rw[dif_pos ⟨w,h⟩]
 exact (Classical.choose_spec (⟨w,h⟩:∃ w,Walks k t o w)).det h
theorem Yno {k:Int->List Int} {t o w:List Int} (h:Walks k t o w):Walks k t o (Yb1 k t o):=by rw[h.eq];exact h
noncomputable def Xe2 (g:Gr):List Int:=Yb1 (kd g) [g.root] []
theorem Xhd (x:Nd) (n:Nat) (h:x.keys.length<=n/\x.kids.length<=n):(Xak x).length<=n:=by
 unfold Xak
 split
 ·exact h.2
 ·have:=Xc0 x
  simp;omega
theorem Xri {g:Gr} (h:Xd9 g) (i:Int):(kd g i).length<=12:=Xhd _ 12 (h.at i)
structure Good (g:Gr):Prop where
 c:chk g=none
 s:Xd9 g
theorem Good.len {g:Gr} (h:Good g):g.l.length<=200:=(Xrb h.c).1
theorem Good.root {g:Gr} (h:Good g):0<=g.root/\g.root < g.l.length:=(Xrb h.c).2.1
theorem Good.node {g:Gr} (h:Good g) {i:Int} (hi:0<=i/\i < g.l.length):Xa9 Xal (Xbg g.l i) g.l.length=true:=(Xrb h.c).2.2 _ (Xo5 hi)
theorem Good.kid {g:Gr} (h:Good g) (i:Int):∀ j∈kd g i,0<=j/\j < g.l.length:=by
 by_cases hi:0<=i/\i < g.l.length
 ·exact (Xjw (h.node hi)).inn
 ·intro j hj
  rw[kd,Xf1 hi] at hj
  simp[Xak,Xac,Nd.zero] at hj
theorem Good.ex {g:Gr} (h:Good g) {t o:List Int} (hn:o.Nodup) (ho:∀ i∈o,0<=i/\i < g.l.length) (ht:∀ i∈t,0<=i/\i < g.l.length):Walks (kd g) t o (Yb1 (kd g) t o):=by
 obtain⟨w,hw⟩:=Walks.ex g.l.length 12 (Xri h.s) h.kid _ t o (Nat.le_refl _) hn ho ht
 exact Yno hw
theorem Good.walk {g:Gr} (h:Good g):Walks (kd g) [g.root] [] (Xe2 g):=h.ex (by simp) (by simp) (by simpa using h.root)
theorem Good.wnodup {g:Gr} (h:Good g):(Xe2 g).Nodup:=h.walk.nodup (by simp)
theorem Good.wIn {g:Gr} (h:Good g):∀ i∈Xe2 g,0<=i/\i < g.l.length:=h.walk.all (P:=fun i=>0<=i/\i < g.l.length) (by simpa using h.root) (by simp) fun i _=>h.kid i
theorem Good.wlen {g:Gr} (h:Good g):(Xe2 g).length<=g.l.length:=Xfo h.wnodup h.wIn
theorem Good.wclosed {g:Gr} (h:Good g):∀ i∈Xe2 g,∀ j∈kd g i,j∈Xe2 g:=fun i hi=>h.walk.closed i hi (by simp)
theorem Good.whead {g:Gr} (h:Good g):∃ r,Xe2 g=g.root::r:=by
 have:=(h.walk.step_inv (by simp)).pre
 simpa using this
theorem Ysf {l:List Int} (hn:l.Nodup) {j:Nat} {i:Int} (h:l[j]?=some i):l.idxOf i=j:=by
 obtain⟨hj,rfl⟩:=List.getElem?_eq_some_iff.1 h
 exact hn.idxOf_getElem j hj
theorem Wmr {l:List Int} {i:Int} (h:i∈l):l.idxOf i < l.length:=List.idxOf_lt_length_of_mem h
def Xgc (w:List Int) (x:Nd):Nd:=⟨x.k,x.x,Xap x,(Xak x).map fun i=>(w.idxOf i:Int)⟩
noncomputable def Xpd (g:Gr):Gr:=⟨0,(Xe2 g).map fun i=>Xgc (Xe2 g) (Xbg g.l i)⟩
theorem Xh4 {x:Nd} {n:Int} (h:Xa9 Xal x n=true) (hk:x.k=2):x.keys.all (prR Xal)=true/\isZ x.x=true:=by
 unfold Xa9 at h
 rw[hk] at h
 simp[X8f,Xo1] at h
 exact⟨by simpa using h.2.2.1.1,h.1⟩
theorem Xn2 {x:Nd} {n:Int} (h:Xa9 Xal x n=true) (hk:x.k=1):isZ x.x=true:=by
 unfold Xa9 at h
 rw[hk] at h
 simp[X8e] at h
 exact h.1
theorem Xn3 {x:Nd} {n:Int} (h:Xa9 Xal x n=true) (hk:x.k=0):prR Xal x.x=true:=by
 unfold Xa9 at h
 rw[if_pos hk] at h
 simp[Yg7] at h
 exact h.1
theorem Xrj {l:List Int} {m:Int} (h:∀ i∈l,0<=i/\i < m):Xc4 l m=true:=by
 unfold Xc4
 rw[List.all_eq_true]
 intro i hi
 have:=h i hi
 simp;exact this
theorem Xz2 {x:Nd} {n:Int} {w:List Int} (h:Xa9 Xal x n=true) (hw:∀ j∈Xak x,j∈w):Xa9 Xal (Xgc w x) w.length=true:=by
 have hin:Xc4 ((Xak x).map fun i=>(w.idxOf i:Int)) w.length=true:=Xrj fun i hi=>by
  obtain⟨j,hj,rfl⟩:=List.mem_map.1 hi
  have:=Wmr (hw j hj)
  omega
 obtain⟨_,k2,k3,k4,_,_⟩:=Xjw h
 rcases Xhc h with hk|hk|hk
 ·have h1:=Xn3 h hk
  have h2:=Xi7 h hk
  unfold Xa9
  rw[if_pos (show (Xgc w x).k=0 from hk)]
  have e1:Xap x=[]:=k4 (by omega)
  have e2:Xak x=[]:=by rw[<- List.length_eq_zero_iff,k2,h2.2];rfl
  simp[Yg7,Xgc,h1,e1,e2]
 ·have h1:=Xn2 h hk
  unfold Xa9
  rw[if_neg (show ¬ (Xgc w x).k=0 by simp only[Xgc];omega),if_pos (show (Xgc w x).k=1 from hk)]
  have e1:Xap x=[]:=k4 (by omega)
  simp only[X8e,Xgc,h1,e1,hin]
  rfl
 ·obtain⟨h0,h1⟩:=Xh4 h hk
  obtain⟨m1,m2,_⟩:=Xgx h hk
  unfold Xa9
  rw[if_neg (show ¬ (Xgc w x).k=0 by simp only[Xgc];omega),if_neg (show ¬ (Xgc w x).k=1 by simp only[Xgc];omega),if_pos (show (Xgc w x).k=2 from hk)]
  have hpk:(Xap x).Perm x.keys:=by
   unfold Xap
   rw[Xcp hk m1]
   have:=(Xek (Xdl x)).map Pr.key
   rwa [Xi6 m1] at this
  have e1:(Xap x).all (prR Xal)=true:=by
   rw[List.all_eq_true] at h0 ⊢
   exact fun a ha=>h0 a (hpk.mem_iff.1 ha)
  have e2:(Xap x).Nodup:=hpk.nodup_iff.2 m2
  have e3:(Xap x).length=(Xak x).length:=k3 hk
  simp only[X8f,Xo1,Xgc,h1,hin,e1,e3,List.length_map]
  simp[e2]
theorem Xs6 {x:Nd} (w:List Int) (h:x.keys.length<=12/\x.kids.length<=12):(Xgc w x).keys.length<=12/\(Xgc w x).kids.length<=12:=by
 have:=Xc0 x
 refine⟨?_,?_⟩
 ·simp only[Xgc,Xap,List.length_map];omega
 ·simp only[Xgc,List.length_map];exact Xhd x 12 h
theorem Xmk (g:Gr):(Xpd g).l.length=(Xe2 g).length:=by simp[Xpd]
theorem Good.tidy {g:Gr} (h:Good g):Good (Xpd g) where
 c:=by
  refine Xwu (by rw[Xmk];exact Nat.le_trans h.wlen h.len) ?_ ?_
  ·rw[Xmk]
   obtain⟨r,hr⟩:=h.whead
   simp[Xpd,hr]
  ·intro x hx
   rw[Xmk]
   simp only[Xpd,List.mem_map] at hx
   obtain⟨i,hi,rfl⟩:=hx
   exact Xz2 (h.node (h.wIn i hi)) (h.wclosed i hi)
 s:=by
  intro x hx
  simp only[Xpd,List.mem_map] at hx
  obtain⟨i,hi,rfl⟩:=hx
  exact Xs6 _ (h.s.at i)
def atF (k:Int->List Int):List Int->Int->Option Int
 | [],a=>some a
 | p::ps,a=>if 0<=p then ((k a)[p.toNat]?).bind (atF k ps) else none
theorem Xpe {k:Int->List Int}:∀ {ps:List Int} {p a:Int},atF k (ps++[p]) a=(atF k ps a).bind fun b=>if 0<=p then (k b)[p.toNat]? else none
 | [],p,a=>by
  simp only[List.nil_append,atF,Option.bind_some]
  split
  ·cases (k a)[p.toNat]? <;> rfl
  ·rfl
 | q::ps,p,a=>by
  simp only[List.cons_append,atF]
  split
  ·cases (k a)[q.toNat]? with
   | none=>rfl
   | some b=>exact Xpe
  ·rfl
def atG (g:Gr) (ps:List Int):Option Int:=atF (kd g) ps g.root
theorem Walks.from {k:Int->List Int} {r0:Int} {t o w:List Int} (h:Walks k t o w) (ht:∀ i∈t,i=r0\/∃ p∈o,i∈k p) :
  ∀ (j:Nat) (i:Int),o.length<=j->w[j]?=some i->i=r0\/∃ (m:Nat) (p:Int),m < j/\w[m]?=some p/\i∈k p:=by
 induction h with
 | nil out =>
  intro j i hj hi
  rw[List.getElem?_eq_none hj] at hi;cases hi
 | skip hm h ih=>exact ih fun i hi=>ht i (List.mem_cons_of_mem _ hi)
 | @step x r out w hn h ih =>
  intro j i hj hi
  by_cases e:j=out.length
  ·subst e
   obtain⟨q,hq⟩:=h.pre
   have hix:i=x:=by
    rw[hq,List.append_assoc,List.getElem?_append_right (Nat.le_refl _)] at hi
    simp at hi;exact hi.symm
   subst hix
   rcases ht i (by simp) with h1|⟨p,hp,hk⟩
   ·exact .inl h1
   ·obtain⟨m,hm⟩:=List.mem_iff_getElem?.1 hp
    have hml:=(List.getElem?_eq_some_iff.1 hm).1
    refine .inr ⟨m,p,hml,?_,hk⟩
    rw[hq,List.append_assoc,List.getElem?_append_left hml,hm]
  ·refine ih (fun y hy=>?_) j i (by simp;omega) hi
   rcases List.mem_append.1 hy with hy|hy
   ·exact .inr ⟨x,by simp,hy⟩
   ·rcases ht y (List.mem_cons_of_mem _ hy) with h1|⟨p,hp,hk⟩
    ·exact .inl h1
    ·exact .inr ⟨p,List.mem_append_left _ hp,hk⟩
theorem Good.from {g:Gr} (h:Good g) {j:Nat} {i:Int} (hi:(Xe2 g)[j]?=some i) (hj:0 < j):∃ (m:Nat) (p:Int),m < j/\(Xe2 g)[m]?=some p/\i∈kd g p:=by
 rcases h.walk.from (r0:=g.root) (by simp) j i (Nat.zero_le _) hi with e|e
 ·subst e
  obtain⟨r,hr⟩:=h.whead
  have h0:(Xe2 g)[0]?=some g.root:=by rw[hr];rfl
  have h1:=Ysf h.wnodup hi
  have h2:=Ysf h.wnodup h0
  omega
 ·exact e
theorem Xml {x:Nd} {n:Int} (h:Xa9 Xal x n=true) (i:Int):i∈Xak x↔i∈x.kids:=by
 rcases Xhc h with h0|h1|h2
 ·have h3:=Xi7 h h0
  have h4:=(Xjw h).len
  rw[h3.2] at h4
  rw[List.eq_nil_of_length_eq_zero h4,h3.2]
 ·unfold Xak;rw[if_pos h1]
 ·obtain⟨m1,_,_⟩:=Xgx h h2
  unfold Xak
  rw[if_neg (by omega),Xcp h2 m1]
  have:=(Xek (Xdl x)).map Pr.kid
  rw[Xwx m1] at this
  exact this.mem_iff
theorem Good.reroot {g:Gr} (h:Good g) {r:Int} (hr:0<=r/\r < g.l.length):Good ⟨r,g.l⟩ where
 c:=Xwu h.len hr (Xrb h.c).2.2
 s:=h.s
theorem Good.sub {g:Gr} (h:Good g) {r:Int} (hr:r∈Xe2 g):∀ i∈Xe2 ⟨r,g.l⟩,i∈Xe2 g :=
 (h.reroot (h.wIn r hr)).walk.all (P:=fun i=>i∈Xe2 g) (by simpa using hr) (by simp) fun i hi=>h.wclosed i hi
def Wtf (g:Gr):Prop:=chk g=none/\g=Xpd g
theorem Xmm:chk ⟨0,[]⟩=some (-1,70):=Y5h (by simp) (by simp)
variable {gp:Xag}
def Wvf (k:Nat) (l:List Int):List (V × V):=(l.zipIdx k).map fun p=>(vi p.1,vi (p.2:Int))
def ent (l:List Int):List (V × V):=Wvf 0 l
abbrev wkC (g:Gr):Ch:=.cells [.d (.int .i64 g.root),.d (.sl (nds g.l)),.own 0 0]
def Wvg (g:Gr):Prop:=chk g=none
noncomputable section
def Xf3 (g:Gr):Int:=((chk g).getD (0,0)).2
def wOf (g:Gr):List Int:=if chk g=none then Xe2 g else []
def tOf (g:Gr):Gr:=if chk g=none then Xpd g else ⟨0,[]⟩
def aOf (g:Gr) (ps:List Int):Option Int:=if chk g=none then atG g ps else none
end
theorem Xcu {g:Gr} (h:chk g=none):Xf3 g=0:=by unfold Xf3;rw[h];rfl
theorem Xk1 {g:Gr} (h:chk g≠none):Xf3 g≠0:=by
 obtain⟨a,e,hs,he⟩:=Xwv h
 unfold Xf3;rw[hs];exact he
end Go.Fw.L07
