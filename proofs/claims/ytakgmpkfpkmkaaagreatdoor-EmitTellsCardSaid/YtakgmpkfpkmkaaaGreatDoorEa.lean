/- Chapter 8,plain: walks. -/
import Derived.Test.YtakgmpkfpkmkaaaGreatDoorLc
import Derived.Test.YtakgmpkfpkmkaaaGreatDoorL07L08Mini
set_option linter.all false
namespace Go.Fw.L07
open Go Go.Fw
open Go.Fw.Sh renaming intro->Kg
open Go.Fw renaming Xdt->Ka,Xd2->Kf,Y9n->Ki,Xcp->Kt,Xlj->Kk,Xco->Kl,Xeg->Km,Gx->Kn,Gw->Ko
open Go.Fw renaming Xbs->Ka, Xbw->Ka, Xby->Ka, Xbz->Ka
open Go.Fw renaming Xdt->Kw, Xbs->Kw, Xbw->Kw, Xby->Kw, Xbz->Kw, Xhh->Kw, Xd3->Kw
open Go.Fw.Sh renaming intro->Kf
open Int renaming natCast_nonneg->Kq
open List renaming getElem?_eq_some_iff->Kr
open And renaming intro->Kp
open Nat renaming reduceAdd->Qa,reduceSub->Qb,reduceMul->Qc,reduceLeDiff->Qd,reduceLT->Qe,reduceEqDiff->Qf
open Int renaming reduceToNat->Qg,reduceLT->Qh,reduceLE->Qi,reduceGT->Qj,reduceGE->Qk,reduceEq->Ql,reduceNe->Qm,reduceBEq->Qn,reduceBNe->Qo,reduceAdd->Qp,reduceSub->Qq,reduceNeg->Qr
open Go.Fw.V.one renaming injEq->Qs
open Go.Fw.V.agg renaming injEq->Qt
open Go.Fw.V.tup renaming injEq->Qu
open Go.Fw.A.d renaming injEq->Qv
open Go.Fw.D.bool renaming injEq->Qw
open Go.Fw.D.int renaming injEq->Qx
open Go.Fw.D.str renaming injEq->Qy
open Go.Fw.D.sl renaming injEq->Qz
open List.cons renaming injEq->Za
set_option maxRecDepth 4000
theorem Xb9:∀ {n:Nat} {l:List Int},l.Nodup->(∀ i∈l,0<=i/\i < n)->l.length<=n
 | 0,l,_,h=>by
  cases l with
  | nil=>simp
  | cons a l=>have:=h a (by simp);omega
 | n+1,l,hn,h=>by
  by_cases hm:(n:Int)∈l
  ·have:=Xb9 (n:=n) (hn.erase (n:Int)) (fun i hi=>by rw[hn.mem_erase_iff] at hi;have:=h i hi.2;omega)
   rw[List.length_erase_of_mem hm] at this;omega
  ·have:=Xb9 (n:=n) hn (fun i hi=>by
    have h1:=h i hi
    have:i≠n:=fun e=>hm (e ▸ hi)
    omega)
   omega
inductive Walks (k:Int->List Int):List Int->List Int->List Int->Prop
 | nil (out:List Int):Walks k [] out out
 | skip {i:Int} {r out w:List Int}:i∈out->Walks k r out w->Walks k (i::r) out w
 | step {i:Int} {r out w:List Int}:i ∉ out->Walks k (k i++r) (out++[i]) w->Walks k (i::r) out w
section
variable {k:Int->List Int}
theorem Walks.det {t o w v:List Int} (h:Walks k t o w) (h':Walks k t o v):w=v:=by
 induction h with
 | nil=>cases h';rfl
 | skip hm _ ih =>
  cases h' with
  | skip _ h2=>exact ih h2
  | step hn _=>exact absurd hm hn
 | step hn _ ih =>
  cases h' with
  | skip hm _=>exact absurd hm hn
  | step _ h2=>exact ih h2
theorem Walks.nil_inv {o w:List Int} (h:Walks k [] o w):w=o:=by cases h;rfl
theorem Walks.skip_inv {i:Int} {r o w:List Int} (h:Walks k (i::r) o w) (hm:i∈o):Walks k r o w:=by
 cases h with
 | skip _ h=>exact h
 | step hn _=>exact absurd hm hn
theorem Walks.step_inv {i:Int} {r o w:List Int} (h:Walks k (i::r) o w) (hm:i ∉ o):Walks k (k i++r) (o++[i]) w:=by
 cases h with
 | skip hn _=>exact absurd hn hm
 | step _ h=>exact h
theorem Walks.app {t o m:List Int} (h:Walks k t o m) {r w:List Int} (h':Walks k r m w):Walks k (t++r) o w:=by
 induction h with
 | nil=>exact h'
 | skip hm _ ih=>exact .skip hm (ih h')
 | step hn _ ih =>
  have e:=ih h'
  rw[List.append_assoc] at e
  exact .step hn e
theorem Walks.split {t o w:List Int} (h:Walks k t o w):∀ {a b:List Int},t=a++b->∃ m,Walks k a o m/\Walks k b m w:=by
 induction h with
 | nil out =>
  intro a b e
  obtain⟨rfl,rfl⟩:=List.append_eq_nil_iff.1 e.symm
  exact⟨out,.nil _,.nil _⟩
 | @skip i r out w hm h ih =>
  intro a b e
  cases a with
  | nil =>
   simp only[List.nil_append] at e
   exact⟨out,.nil _,e ▸ .skip hm h⟩
  | cons x a =>
   simp only[List.cons_append,List.cons.injEq] at e
   obtain⟨rfl,e⟩:=e
   obtain⟨m,h1,h2⟩:=ih e
   exact⟨m,.skip hm h1,h2⟩
 | @step i r out w hn h ih =>
  intro a b e
  cases a with
  | nil =>
   simp only[List.nil_append] at e
   exact⟨out,.nil _,e ▸ .step hn h⟩
  | cons x a =>
   simp only[List.cons_append,List.cons.injEq] at e
   obtain⟨rfl,e⟩:=e
   obtain⟨m,h1,h2⟩:=ih (a:=k i++a) (b:=b) (by rw[e,List.append_assoc])
   exact⟨m,.step hn h1,h2⟩
theorem Walks.pre {t o w:List Int} (h:Walks k t o w):∃ r,w=o++r:=by
 induction h with
 | nil out=>exact⟨[],by simp⟩
 | skip _ _ ih=>exact ih
 | step _ _ ih =>
  obtain⟨r,hr⟩:=ih
  exact⟨_::r,by rw[hr,List.append_assoc];rfl⟩
theorem Walks.sub {t o w:List Int} (h:Walks k t o w) {i:Int} (hi:i∈o):i∈w:=by
 obtain⟨r,rfl⟩:=h.pre
 exact List.mem_append_left _ hi
theorem Walks.nodup {t o w:List Int} (h:Walks k t o w) (ho:o.Nodup):w.Nodup:=by
 induction h with
 | nil=>exact ho
 | skip _ _ ih=>exact ih ho
 | step hn _ ih =>
  refine ih (List.nodup_append.2 ⟨ho,by simp,?_⟩)
  intro a ha b hb;simp at hb;subst hb;rintro rfl;exact hn ha
theorem Walks.all {P:Int->Prop} {t o w:List Int} (h:Walks k t o w) (ht:∀ i∈t,P i) (ho:∀ i∈o,P i) (hk:∀ i,P i->∀ j∈k i,P j):∀ i∈w,P i:=by
 induction h with
 | nil=>exact ho
 | skip _ _ ih=>exact ih (fun i hi=>ht i (List.mem_cons_of_mem _ hi)) ho
 | @step i r out w _ _ ih =>
  refine ih (fun j hj=>?_) (fun j hj=>?_)
  ·rcases List.mem_append.1 hj with hj|hj
   ·exact hk i (ht i (by simp)) j hj
   ·exact ht j (List.mem_cons_of_mem _ hj)
  ·rcases List.mem_append.1 hj with hj|hj
   ·exact ho j hj
   ·simp at hj;subst hj;exact ht j (by simp)
theorem Walks.todo {t o w:List Int} (h:Walks k t o w):∀ i∈t,i∈w:=by
 induction h with
 | nil=>intro i hi;cases hi
 | skip hm h ih =>
  intro i hi
  rcases List.mem_cons.1 hi with rfl|hi
  ·exact h.sub hm
  ·exact ih i hi
 | step hn h ih =>
  intro i hi
  rcases List.mem_cons.1 hi with rfl|hi
  ·exact h.sub (by simp)
  ·exact ih i (List.mem_append_right _ hi)
theorem Walks.closed {t o w:List Int} (h:Walks k t o w):∀ i∈w,i ∉ o->∀ j∈k i,j∈w:=by
 induction h with
 | nil=>intro i hi hn;exact absurd hi hn
 | skip _ _ ih=>exact ih
 | @step i r out w hn h ih =>
  intro x hx hxo j hj
  by_cases e:x=i
  ·subst e;exact h.todo j (List.mem_append_left _ hj)
  ·exact ih x hx (by simp[hxo,e]) j hj
theorem Walks.ex (n c:Nat) (hc:∀ i,(k i).length<=c) (hk:∀ i,∀ j∈k i,0<=j/\j < n):∀ (f:Nat) (t o:List Int),(n - o.length)*(c+1)+t.length<=f->o.Nodup->(∀ i∈o,0<=i/\i < n)->(∀ i∈t,0<=i/\i < n)->∃ w,Walks k t o w
 | f,[],o,_,_,_,_=>⟨o,.nil o⟩
 | 0,i::t,o,hf,_,_,_=>by simp at hf
 | f+1,i::t,o,hf,hn,ho,ht=>by
  by_cases hm:i∈o
  ·obtain⟨w,hw⟩:=Walks.ex n c hc hk f t o (by simp at hf;omega) hn ho fun j hj=>ht j (List.mem_cons_of_mem _ hj)
   exact⟨w,.skip hm hw⟩
  ·have hn':(o++[i]).Nodup:=by
    refine List.nodup_append.2 ⟨hn,by simp,?_⟩
    intro a ha b hb;simp at hb;subst hb;rintro rfl;exact hm ha
   have ho':∀ j∈o++[i],0<=j/\j < n:=fun j hj=>by
    rcases List.mem_append.1 hj with hj|hj
    ·exact ho j hj
    ·simp at hj;subst hj;exact ht j (by simp)
   have hlen:o.length+1<=n:=by
    have:=Xb9 hn' ho'
    simpa using this
   obtain⟨w,hw⟩:=Walks.ex n c hc hk f (k i++t) (o++[i]) (by
    have h1:=hc i
    simp only[List.length_append,List.length_cons,List.length_nil] at hf ⊢
    have h2:n - o.length=(n - (o.length+(0+1)))+1:=by omega
    rw[h2,Nat.add_mul] at hf
    omega) hn' ho' fun j hj=>by
    rcases List.mem_append.1 hj with hj|hj
    ·exact hk i j hj
    ·exact ht j (List.mem_cons_of_mem _ hj)
   exact⟨w,.step hm hw⟩
theorem Walks.map {k':Int->List Int} {φ:Int->Int} {t o w:List Int} (h:Walks k t o w) (hi:∀ i∈w,∀ j∈w,φ i=φ j->i=j) (hk:∀ i∈w,k' (φ i)=(k i).map φ):Walks k' (t.map φ) (o.map φ) (w.map φ):=by
 induction h with
 | nil=>exact .nil _
 | skip hm _ ih=>exact .skip (List.mem_map_of_mem hm) (ih hi hk)
 | @step i r out w hn h ih =>
  have hiw:i∈w:=h.sub (by simp)
  refine .step ?_ ?_
  ·intro hm
   obtain⟨j,hj,e⟩:=List.mem_map.1 hm
   have:j=i:=hi j (h.sub (List.mem_append_left _ hj)) i hiw e
   subst this
   exact hn hj
  ·have:=ih hi hk
   rw[hk i hiw]
   simpa using this
end
abbrev kd (g:Gr) (i:Int):List Int:=Xan (Xbr g.l i)
open Classical in
noncomputable def Xrk (k:Int->List Int) (t o:List Int):List Int:=if h:∃ w,Walks k t o w then Classical.choose h else o
theorem Walks.eq {k:Int->List Int} {t o w:List Int} (h:Walks k t o w):Xrk k t o=w:=by
 unfold Xrk
 rw[dif_pos ⟨w,h⟩]
 exact (Classical.choose_spec (⟨w,h⟩:∃ w,Walks k t o w)).det h
theorem Ywv {k:Int->List Int} {t o w:List Int} (h:Walks k t o w):Walks k t o (Xrk k t o):=by rw[h.eq];exact h
noncomputable def Xbe (g:Gr):List Int:=Xrk (kd g) [g.root] []
theorem Xgx (x:Nd) (n:Nat) (h:x.keys.length<=n/\x.kids.length<=n):(Xan x).length<=n:=by
 unfold Xan
 split
 ·exact h.2
 ·have:=Xfo x
  simp;omega
theorem X0q {g:Gr} (h:Xc9 g) (i:Int):(kd g i).length<=12:=Xgx _ 12 (h.at i)
structure Good (g:Gr):Prop where
 c:chk g=none
 s:Xc9 g
theorem Good.len {g:Gr} (h:Good g):g.l.length<=200:=(Xjo h.c).1
theorem Good.root {g:Gr} (h:Good g):0<=g.root/\g.root < g.l.length:=(Xjo h.c).2.1
theorem Good.node {g:Gr} (h:Good g) {i:Int} (hi:0<=i/\i < g.l.length):Xa6 Xas (Xbr g.l i) g.l.length=true:=(Xjo h.c).2.2 _ (Xo3 hi)
theorem Good.kid {g:Gr} (h:Good g) (i:Int):∀ j∈kd g i,0<=j/\j < g.l.length:=by
 by_cases hi:0<=i/\i < g.l.length
 ·exact (Xo4 (h.node hi)).inn
 ·intro j hj
  rw[kd,Xfp hi] at hj
  simp[Xan,Xae,Nd.zero] at hj
theorem Good.ex {g:Gr} (h:Good g) {t o:List Int} (hn:o.Nodup) (ho:∀ i∈o,0<=i/\i < g.l.length) (ht:∀ i∈t,0<=i/\i < g.l.length):Walks (kd g) t o (Xrk (kd g) t o):=by
 obtain⟨w,hw⟩:=Walks.ex g.l.length 12 (X0q h.s) h.kid _ t o (Nat.le_refl _) hn ho ht
 exact Ywv hw
theorem Good.walk {g:Gr} (h:Good g):Walks (kd g) [g.root] [] (Xbe g):=h.ex (by simp) (by simp) (by simpa using h.root)
theorem Good.wnodup {g:Gr} (h:Good g):(Xbe g).Nodup:=h.walk.nodup (by simp)
theorem Good.wIn {g:Gr} (h:Good g):∀ i∈Xbe g,0<=i/\i < g.l.length:=h.walk.all (P:=fun i=>0<=i/\i < g.l.length) (by simpa using h.root) (by simp) fun i _=>h.kid i
theorem Good.wlen {g:Gr} (h:Good g):(Xbe g).length<=g.l.length:=Xb9 h.wnodup h.wIn
theorem Good.wclosed {g:Gr} (h:Good g):∀ i∈Xbe g,∀ j∈kd g i,j∈Xbe g:=fun i hi=>h.walk.closed i hi (by simp)
theorem Good.whead {g:Gr} (h:Good g):∃ r,Xbe g=g.root::r:=by
 have:=(h.walk.step_inv (by simp)).pre
 simpa using this
theorem Yj2 {l:List Int} (hn:l.Nodup) {j:Nat} {i:Int} (h:l[j]?=some i):l.idxOf i=j:=by
 obtain⟨hj,rfl⟩:=Kr.1 h
 exact hn.idxOf_getElem j hj
theorem X0r {l:List Int} {i:Int} (h:i∈l):l.idxOf i < l.length:=List.idxOf_lt_length_of_mem h
theorem Xtn {l:List Int} {i:Int} (h:i∈l):l[l.idxOf i]?=some i:=by
 rw[List.getElem?_eq_getElem (X0r h),List.getElem_idxOf (X0r h)]
theorem Wtd {l:List Int} {i j:Int} (hi:i∈l) (hj:j∈l) (e:l.idxOf i=l.idxOf j):i=j:=by
 have h1:=Xtn hi
 rw[e,Xtn hj] at h1
 exact (Option.some.inj h1).symm
theorem Wte {l:List Int} (hn:l.Nodup):l.map (fun i=>(l.idxOf i:Int))=(List.range l.length).map (fun n:Nat=>(n:Int)):=by
 apply List.ext_getElem?
 intro j
 rw[List.getElem?_map,List.getElem?_map]
 by_cases hj:j < l.length
 ·rw[List.getElem?_eq_getElem hj,List.getElem?_range hj]
  simp[hn.idxOf_getElem j hj]
 ·rw[List.getElem?_eq_none (by omega),List.getElem?_eq_none (by simpa using hj)];rfl
def Xbc (w:List Int) (x:Nd):Nd:=⟨x.k,x.x,Xaq x,(Xan x).map fun i=>(w.idxOf i:Int)⟩
noncomputable def Xa0 (g:Gr):Gr:=⟨0,(Xbe g).map fun i=>Xbc (Xbe g) (Xbr g.l i)⟩
theorem Jbo {l:List Pr} (h:l.Pairwise lt1):srt l=l:=by
 have hn:(l.map Pr.key).Nodup:=by
  rw[List.Nodup,List.pairwise_map]
  refine h.imp ?_
  intro a b hab e
  have h2:lex a.key b.key:=hab
  rw[show a.key=b.key from e] at h2
  exact Xo2 b.key h2
 exact Xrf (Yf3 hn) h (Xdv l)
theorem Wtf {l:List Pr} {f:Int->Int}:Xb5 ⟨2,⟨0,0,⟨#[]⟩⟩,l.map Pr.key,(l.map Pr.kid).map f⟩=l.map fun p=>⟨p.key,f p.kid⟩:=by
 unfold Xb5
 induction l with
 | nil=>rfl
 | cons a l ih=>simp only[List.map_cons,List.zipWith_cons_cons];rw[ih]
theorem Wtg (x:Nd):Xb5 x=List.zipWith Pr.mk x.keys x.kids:=rfl
theorem Xib {x:Nd} {n:Int} (h:Xa6 Xas x n=true) (w:List Int):Xan (Xbc w x)=(Xan x).map (fun i=>(w.idxOf i:Int))/\Xaq (Xbc w x)=Xaq x:=by
 by_cases hk:x.k=2
 ·obtain⟨h1,h2,_⟩:=Xgc h hk
  have hp:=Xb3 hk h1
  have hlt:(srt (Xb5 x)).Pairwise lt1:=Yf3 (by rw[Xgu h1];exact h2)
  have hkeys:Xaq x=(srt (Xb5 x)).map Pr.key:=by unfold Xaq;rw[hp]
  have hkids:Xan x=(srt (Xb5 x)).map Pr.kid:=by unfold Xan;rw[if_neg (by omega),hp]
  have hz:Xb5 (Xbc w x)=(srt (Xb5 x)).map fun p=>⟨p.key,(w.idxOf p.kid:Int)⟩:=by
   have:=Wtf (l:=srt (Xb5 x)) (f:=fun i=>(w.idxOf i:Int))
   rw[Wtg] at this ⊢
   simp only[Xbc]
   rw[hkeys,hkids]
   exact this
  have hlt2:((srt (Xb5 x)).map fun p=>(⟨p.key,(w.idxOf p.kid:Int)⟩:Pr)).Pairwise lt1:=by
   rw[List.pairwise_map]
   exact hlt.imp fun {a b} hab=>hab
  have hp2:Xae (Xbc w x)=(srt (Xb5 x)).map fun p=>⟨p.key,(w.idxOf p.kid:Int)⟩:=by
   have hlen:(Xbc w x).keys.length=(Xbc w x).kids.length:=by simp only[Xbc];rw[hkeys,hkids];simp
   rw[Xb3 (x:=Xbc w x) hk hlen,hz,Jbo hlt2]
  constructor
  ·unfold Xan
   rw[if_neg (show ¬ (Xbc w x).k=1 by simp only[Xbc];omega),if_neg (show ¬ x.k=1 by omega),hp2,hp]
   simp
  ·unfold Xaq
   rw[hp2,hp]
   simp
 ·have hp:=Xcr hk
  have hp2:Xae (Xbc w x)=[]:=Xcr (x:=Xbc w x) hk
  constructor
  ·unfold Xan
   rw[hp2,hp]
   show (if x.k=1 then (Xan x).map _ else _)=_
   unfold Xan
   rw[hp]
   split
   ·rfl
   ·rfl
  ·unfold Xaq;rw[hp2,hp]
theorem Xhj {x:Nd} {n:Int} (h:Xa6 Xas x n=true) (hk:x.k=2):x.keys.all (prR Xas)=true/\isZ x.x=true:=by
 unfold Xa6 at h
 rw[hk] at h
 simp[Ynt,Xra] at h
 exact⟨by simpa using h.2.2.1.1,h.1⟩
theorem Xnm {x:Nd} {n:Int} (h:Xa6 Xas x n=true) (hk:x.k=1):isZ x.x=true:=by
 unfold Xa6 at h
 rw[hk] at h
 simp[Yfk] at h
 exact h.1
theorem Xnn {x:Nd} {n:Int} (h:Xa6 Xas x n=true) (hk:x.k=0):prR Xas x.x=true:=by
 unfold Xa6 at h
 rw[if_pos hk] at h
 simp[Yns] at h
 exact h.1
theorem Yj3 {l:List Int} {m:Int} (h:∀ i∈l,0<=i/\i < m):Xcq l m=true:=by
 unfold Xcq
 rw[List.all_eq_true]
 intro i hi
 have:=h i hi
 simp;exact this
theorem X2n {x:Nd} {n:Int} {w:List Int} (h:Xa6 Xas x n=true) (hw:∀ j∈Xan x,j∈w):Xa6 Xas (Xbc w x) w.length=true:=by
 have hin:Xcq ((Xan x).map fun i=>(w.idxOf i:Int)) w.length=true:=Yj3 fun i hi=>by
  obtain⟨j,hj,rfl⟩:=List.mem_map.1 hi
  have:=X0r (hw j hj)
  omega
 obtain⟨_,k2,k3,k4,_,_⟩:=Xo4 h
 rcases Xiy h with hk|hk|hk
 ·have h1:=Xnn h hk
  have h2:=Xlu h hk
  unfold Xa6
  rw[if_pos (show (Xbc w x).k=0 from hk)]
  have e1:Xaq x=[]:=k4 (by omega)
  have e2:Xan x=[]:=by rw[<- List.length_eq_zero_iff,k2,h2.2];rfl
  simp[Yns,Xbc,h1,e1,e2]
 ·have h1:=Xnm h hk
  unfold Xa6
  rw[if_neg (show ¬ (Xbc w x).k=0 by simp only[Xbc];omega),if_pos (show (Xbc w x).k=1 from hk)]
  have e1:Xaq x=[]:=k4 (by omega)
  simp only[Yfk,Xbc,h1,e1,hin]
  rfl
 ·obtain⟨h0,h1⟩:=Xhj h hk
  obtain⟨m1,m2,_⟩:=Xgc h hk
  unfold Xa6
  rw[if_neg (show ¬ (Xbc w x).k=0 by simp only[Xbc];omega),if_neg (show ¬ (Xbc w x).k=1 by simp only[Xbc];omega),if_pos (show (Xbc w x).k=2 from hk)]
  have hpk:(Xaq x).Perm x.keys:=by
   unfold Xaq
   rw[Xb3 hk m1]
   have:=(Xdv (Xb5 x)).map Pr.key
   rwa [Xgu m1] at this
  have e1:(Xaq x).all (prR Xas)=true:=by
   rw[List.all_eq_true] at h0 ⊢
   exact fun a ha=>h0 a (hpk.mem_iff.1 ha)
  have e2:(Xaq x).Nodup:=hpk.nodup_iff.2 m2
  have e3:(Xaq x).length=(Xan x).length:=k3 hk
  simp only[Ynt,Xra,Xbc,h1,hin,e1,e3,List.length_map]
  simp[e2]
theorem Xto {x:Nd} (w:List Int) (h:x.keys.length<=12/\x.kids.length<=12):(Xbc w x).keys.length<=12/\(Xbc w x).kids.length<=12:=by
 have:=Xfo x
 refine⟨?_,?_⟩
 ·simp only[Xbc,Xaq,List.length_map];omega
 ·simp only[Xbc,List.length_map];exact Xgx x 12 h
theorem Xd6 (g:Gr):(Xa0 g).l.length=(Xbe g).length:=by simp[Xa0]
theorem X0s {g:Gr} {j:Nat} {i:Int} (h:(Xbe g)[j]?=some i):Xbr (Xa0 g).l j=Xbc (Xbe g) (Xbr g.l i):=by
 have hj:=(Kr.1 h).1
 unfold Xbr
 rw[if_pos (by rw[Xd6];omega),Int.toNat_natCast]
 simp only[Xa0,List.getElem?_map,h,Option.map_some,Option.getD_some]
 rfl
theorem Good.tidy {g:Gr} (h:Good g):Good (Xa0 g) where
 c:=by
  refine Y4a (by rw[Xd6];exact Nat.le_trans h.wlen h.len) ?_ ?_
  ·rw[Xd6]
   obtain⟨r,hr⟩:=h.whead
   simp[Xa0,hr]
  ·intro x hx
   rw[Xd6]
   simp only[Xa0,List.mem_map] at hx
   obtain⟨i,hi,rfl⟩:=hx
   exact X2n (h.node (h.wIn i hi)) (h.wclosed i hi)
 s:=by
  intro x hx
  simp only[Xa0,List.mem_map] at hx
  obtain⟨i,hi,rfl⟩:=hx
  exact Xto _ (h.s.at i)
theorem Wth {g:Gr} (h:Good g) {i:Int} (hi:i∈Xbe g):kd (Xa0 g) ((Xbe g).idxOf i)=(kd g i).map fun j=>((Xbe g).idxOf j:Int):=by
 have:=X0s (g:=g) (Xtn hi)
 rw[kd,this]
 exact (Xib (h.node (h.wIn i hi)) _).1
theorem Xrl {g:Gr} (h:Good g):Xbe (Xa0 g)=(List.range (Xbe g).length).map (fun n:Nat=>(n:Int)):=by
 have h1:=h.walk.map (k':=kd (Xa0 g)) (φ:=fun i=>((Xbe g).idxOf i:Int)) (fun i hi j hj e=>Wtd hi hj (by exact Int.ofNat.inj e)) fun i hi=>Wth h hi
 rw[Wte h.wnodup] at h1
 have h2:[g.root].map (fun i=>((Xbe g).idxOf i:Int))=[(Xa0 g).root]:=by
  obtain⟨r,hr⟩:=h.whead
  simp[Xa0,hr]
 rw[h2] at h1
 exact h1.eq
theorem Yj4 {n:Nat} {j:Int} (h:0<=j/\j < n):((List.range n).map (fun m:Nat=>(m:Int))).idxOf j=j.toNat:=by
 apply Yj2
 ·rw[List.Nodup,List.pairwise_map]
  exact List.nodup_range.imp fun {a b} hab e=>hab (by omega)
 ·rw[List.getElem?_map,List.getElem?_range (by omega)]
  simp;omega
theorem Yj5 {g:Gr} (h:Good g):Xa0 (Xa0 g)=Xa0 g:=by
 have hw:=Xrl h
 have hl:=Xd6 g
 have e:(Xa0 (Xa0 g)).l=(Xa0 g).l:=by
  apply List.ext_getElem?
  intro j
  show ((Xbe (Xa0 g)).map _)[j]?=_
  rw[hw,List.getElem?_map,List.getElem?_map]
  by_cases hj:j < (Xbe g).length
  ·rw[List.getElem?_range hj]
   obtain⟨i,hi⟩:=Xaf hj
   have hm:=List.mem_of_getElem? hi
   have hn:=h.node (h.wIn i hm)
   have h3:(Xa0 g).l[j]?=some (Xbc (Xbe g) (Xbr g.l i)):=by simp only[Xa0,List.getElem?_map,hi,Option.map_some]
   rw[h3]
   simp only[Option.map_some,Option.some.injEq]
   rw[X0s hi]
   obtain⟨t1,t2⟩:=Xib hn (Xbe g)
   show Nd.mk _ _ _ _=Nd.mk _ _ _ _
   rw[t1,t2]
   congr 1
   rw[List.map_map]
   apply List.map_congr_left
   intro c hc
   have:=X0r (h.wclosed i hm c hc)
   show ((List.idxOf ((Xbe g).idxOf c:Int) _:Nat):Int)=_
   rw[Yj4 (j:=((Xbe g).idxOf c:Int)) (by omega)]
   simp
  ·rw[List.getElem?_eq_none (by simpa using hj),List.getElem?_eq_none (by omega)]
   rfl
 have e0:(Xa0 (Xa0 g)).root=(Xa0 g).root:=rfl
 cases hA:Xa0 (Xa0 g);cases hB:Xa0 g
 rw[hA,hB] at e e0
 simp only at e e0
 rw[e,e0]
def atF (k:Int->List Int):List Int->Int->Option Int
 | [],a=>some a
 | p::ps,a=>if 0<=p then ((k a)[p.toNat]?).bind (atF k ps) else none
def atG (g:Gr) (ps:List Int):Option Int:=atF (kd g) ps g.root
theorem Walks.from {k:Int->List Int} {r0:Int} {t o w:List Int} (h:Walks k t o w) (ht:∀ i∈t,i=r0\/∃ p∈o,i∈k p) :
  ∀ (j:Nat) (i:Int),o.length<=j->w[j]?=some i->i=r0\/∃ (m:Nat) (p:Int),m < j/\w[m]?=some p/\i∈k p:=by
 induction h with
 | nil out =>
  intro j i hj hi
  rw[List.getElem?_eq_none hj] at hi;cases hi
 | skip hm h ih=>exact ih fun i hi=>ht i (List.mem_cons_of_mem _ hi)
 | @step x r out w hn h ih =>
  intro j i hj hi
  by_cases e:j=out.length
  ·subst e
   obtain⟨q,hq⟩:=h.pre
   have hix:i=x:=by
    rw[hq,List.append_assoc,List.getElem?_append_right (Nat.le_refl _)] at hi
    simp at hi;exact hi.symm
   subst hix
   rcases ht i (by simp) with h1|⟨p,hp,hk⟩
   ·exact .inl h1
   ·obtain⟨m,hm⟩:=List.mem_iff_getElem?.1 hp
    have hml:=(Kr.1 hm).1
    refine .inr ⟨m,p,hml,?_,hk⟩
    rw[hq,List.append_assoc,List.getElem?_append_left hml,hm]
  ·refine ih (fun y hy=>?_) j i (by simp;omega) hi
   rcases List.mem_append.1 hy with hy|hy
   ·exact .inr ⟨x,by simp,hy⟩
   ·rcases ht y (List.mem_cons_of_mem _ hy) with h1|⟨p,hp,hk⟩
    ·exact .inl h1
    ·exact .inr ⟨p,List.mem_append_left _ hp,hk⟩
theorem Good.from {g:Gr} (h:Good g) {j:Nat} {i:Int} (hi:(Xbe g)[j]?=some i) (hj:0 < j):∃ (m:Nat) (p:Int),m < j/\(Xbe g)[m]?=some p/\i∈kd g p:=by
 rcases h.walk.from (r0:=g.root) (by simp) j i (Nat.zero_le _) hi with e|e
 ·subst e
  obtain⟨r,hr⟩:=h.whead
  have h0:(Xbe g)[0]?=some g.root:=by rw[hr];rfl
  have h1:=Yj2 h.wnodup hi
  have h2:=Yj2 h.wnodup h0
  omega
 ·exact e
theorem Good.reroot {g:Gr} (h:Good g) {r:Int} (hr:0<=r/\r < g.l.length):Good ⟨r,g.l⟩ where
 c:=Y4a h.len hr (Xjo h.c).2.2
 s:=h.s
theorem Good.sub {g:Gr} (h:Good g) {r:Int} (hr:r∈Xbe g):∀ i∈Xbe ⟨r,g.l⟩,i∈Xbe g :=
 (h.reroot (h.wIn r hr)).walk.all (P:=fun i=>i∈Xbe g) (by simpa using hr) (by simp) fun i hi=>h.wclosed i hi
def Jhp (g:Gr):Prop:=chk g=none/\g=Xa0 g
open Go.Proofs.Tryz renaming prog->QP
variable {gp:Heap}
def Ynv (k:Nat) (l:List Int):List (V × V):=(l.zipIdx k).map fun p=>(vi p.1,vi (p.2:Int))
def ent (l:List Int):List (V × V):=Ynv 0 l
theorem Xl3 (a b:Int):eqV false [.i] (vi a) (vi b)=some (decide (a=b)):=by
 simp only[go_sem]
 rw[Bool.eq_iff_iff.2 (show (a==b)=true↔decide (a=b)=true by simp)]
theorem Xl4 (k:Nat) (a:Int) (l:List Int):Ynv k (a::l)=(vi a,vi (k:Int))::Ynv (k+1) l:=by simp[Ynv,List.zipIdx_cons]
theorem Xrm:∀ (l:List Int) (k:Nat) (x:Int),Xdz false [.i] (Ynv k l) (vi x)=some (if x∈l then some (vi ((l.idxOf x+k:Nat):Int)) else none)
 | [],k,x=>by simp[Ynv,Xdz]
 | a::l,k,x=>by
  rw[Xl4]
  simp only[Xdz,Xl3]
  by_cases h:x=a
  ·subst h;simp
  ·have h':¬ a=x:=fun e=>h e.symm
   simp only[h,decide_false,Xrm l (k+1) x,List.mem_cons,false_or]
   split
   ·rw[List.idxOf_cons]
    have:(a==x)=false:=by simp[h']
    rw[this]
    simp;omega
   ·rfl
theorem Xpb (l:List Int) (x:Int):Xdz false [.i] (ent l) (vi x)=some (if x∈l then some (vi (l.idxOf x:Int)) else none):=Xrm l 0 x
theorem X0t:∀ (l:List Int) (k:Nat) (x:Int),x ∉ l->Xmx false [.i] (Ynv k l) (vi x) (vi ((k+l.length:Nat):Int))=some (Ynv k (l++[x]))
 | [],k,x,_=>by simp[Ynv,Xmx]
 | a::l,k,x,h=>by
  simp only[List.mem_cons,not_or] at h
  rw[Xl4,List.cons_append,Xl4]
  have ih:=X0t l (k+1) x h.2
  rw[show k+1+l.length=k+(a::l).length from by simp;omega] at ih
  simp only[Xmx,Xl3,h.1,decide_false,ih]
theorem Wti {l:List Int} {x:Int} (h:x ∉ l):Xmx false [.i] (ent l) (vi x) (vi (l.length:Int))=some (ent (l++[x])):=by
 have:=X0t l 0 x h
 rwa [Nat.zero_add] at this
theorem Wtj (l:List Int):(ent l).length=l.length:=by simp[ent,Ynv]
theorem Xek (l:List Int):(Ch.map (ent l)).refs=[]:=by
 simp only[Ch.refs]
 rw[List.flatMap_eq_nil_iff]
 intro e he
 obtain⟨a,_,rfl⟩:=List.mem_map.1 he
 rfl
theorem Xpc (l:List Int) (j:Nat) (c:Ch):Yyj j c (.map (ent l))=.map (ent l):=by
 simp only[Yyj,Ch.map.injEq]
 conv=>rhs;rw[<- List.map_id (ent l)]
 apply List.map_congr_left
 intro e he
 obtain⟨a,_,rfl⟩:=List.mem_map.1 he
 rfl
theorem Yj6:ent []=[]:=rfl
abbrev wkC (g:Gr):Ch:=.cells [.d (.int .i64 g.root),.d (.sl (nds g.l)),.own 0 0]
theorem Jjp (g:Gr):Tri QP gp 48 [g.v] [] fun r post=>r=.one (.ptr 1 0)/\post=[.map (ent []),wkC g]:=by
 refine Wrw ?_
 simp only[go_sem]
 repeat' first|refine Kn rfl ?_|(refine Kw ?_;simp only[go_sem])|refine Kf ?_|apply Kp<;>intro _
 rfl
theorem Wtk (es:List (V × V)) (cs:List A):Tri QP gp 73 [.one (.ptr 1 0)] [.map es,.cells cs] fun r post =>
  r=.one (.clo (.func 111) [.ptr 2 0])/\post=[.map es,.cells cs,.cells [.ptr 1 0]]:=by
 refine Wr4 ?_
 simp only[go_sem]
 repeat' first|refine Kn rfl ?_|(refine Kw ?_;simp only[go_sem])|refine Kf ?_|apply Kp<;>intro _
theorem Wtl (l st:List Int) (v:Nat) (hb:st.length+l.length < 1000000):Tri QP gp 112 [.one (.d (.sl (Xad l))),.one (.ptr 1 0)] [.row 1 v (Xad st),.cells [.own 0 v]] fun r post =>
  r=.tup []/\post=[.row 1 (v+l.length) (Xad (st++l.reverse)),.cells [.own 0 (v+l.length)]]:=by
 refine Ywm ?_
 simp only[go_sem]
 have hd0:inK .i64 ((l.length:Int) - 1):=Xtb (by unfold lenMax;omega)
 repeat' first|refine Kn rfl ?_|(refine Kw ?_;simp only[go_sem])|refine Kf ?_|refine⟨hd0,?_⟩|apply Kp<;>intro _
 have e0:(l.length:Int) - 1=(l.length:Int) - 1 - ((0:Nat):Int):=by omega
 rw[e0]
 refine Kt (fr 18 [(0,.one (.d (.sl (Xad l)))),(1,.one (.ptr 1 0)),(3,vi ((l.length:Int) - 1 - ((0:Nat):Int)))]) ?_
 refine Km (fun mz sz=>∃ i:Nat,i<=l.length/\mz=l.length - i/\sz=⟨fr 18 [(0,.one (.d (.sl (Xad l)))),(1,.one (.ptr 1 0)),(3,vi ((l.length:Int) - 1 - (i:Int)))],[.row 1 (v+i) (Xad (st++l.reverse.take i)),.cells [.own 0 (v+i)]]⟩) l.length ⟨0,Nat.zero_le _,rfl,by simp⟩ ?_
 rintro _ _ ⟨i,hi,rfl,rfl⟩
 simp only[go_sem]
 by_cases hil:i < l.length
 ·obtain⟨x,hx⟩:=Xaf (l:=l.reverse) (i:=i) (by simpa using hil)
  have hx2:l[((l.length:Int) - 1 - (i:Int)).toNat]?=some x:=by
   rw[List.getElem?_reverse hil] at hx
   rw[show ((l.length:Int) - 1 - (i:Int)).toNat=l.length - 1 - i from by omega]
   exact hx
  have hl2:(st++l.reverse.take i).length=st.length+i:=by simp;omega
  repeat' first|refine Kn rfl ?_|(refine Kw ?_;simp only[go_sem])|refine Kf ?_|refine⟨_,⟨by omega,Xab hx2,rfl⟩,Kg ?_⟩|(apply Kp<;>intro _<;>try (exfalso;omega))
  refine⟨by simp,by simp only[List.length_map,hl2];omega,by simp only[List.length_map,hl2];unfold lenMax;omega,?_⟩
  rw[show Xad (st++l.reverse.take i)++[_]=Xad (st++l.reverse.take (i+1)) from by rw[<- Xbx hx];simp[Xad]]
  repeat' first|refine Kn rfl ?_|(refine Kw ?_;simp only[go_sem])|refine Kf ?_|apply Kp<;>intro _
  have e1:(l.length:Int) - 1 - (i:Int) - 1=(l.length:Int) - 1 - ((i+1:Nat):Int):=by omega
  rw[e1]
  refine⟨by unfold inK;simp[IntKind.min,IntKind.max,IntKind.signed,IntKind.bits];omega,?_⟩
  refine Kt (fr 18 [(0,.one (.d (.sl (Xad l)))),(1,.one (.ptr 1 0)),(3,vi ((l.length:Int) - 1 - ((i+1:Nat):Int)))]) ?_
  exact Kl ⟨l.length - (i+1),by omega,i+1,by omega,rfl,rfl⟩
 ·obtain rfl:l.length=i:=by omega
  repeat' first|refine Kn rfl ?_|(refine Kw ?_;simp only[go_sem])|refine Kf ?_|(apply Kp<;>intro _<;>try (exfalso;omega))
  rw[List.take_of_length_le (by simp)]
theorem Jbp {g:Gr} (hg:Good g):Tri QP gp 49 [.one (.ptr 1 0)] [.map (ent []),wkC g] fun r post =>
  r=.one (.d (.sl (Xad (Xbe g))))/\post=[.map (ent (Xbe g)),wkC g]:=by
 have hw0:=hg.walk
 have hwn:=hg.wlen
 have hgl:=hg.len
 generalize Xbe g=W at *
 refine Wry ?_
 simp only[go_sem]
 repeat' first|refine Kn rfl ?_|(refine Kw ?_;simp only[go_sem])|refine Kf ?_|apply Kp<;>intro _
 refine Or.inr (Or.inr ⟨[0,1],.one (.clo (.func 111) [.ptr 2 0]),[.map (ent []),wkC g,.cells [.ptr 1 0]],(by simp only[Xay,go_sem];exact⟨Ja6,Wtk _ _⟩),Kg ?_⟩)
 simp only[Yj6,go_sem]
 repeat' first|refine Kn rfl ?_|(refine Kw ?_;simp only[go_sem])|refine Kf ?_|apply Kp<;>intro _
 refine Xeq 2 0 1 (by decide) rfl rfl ?_
 simp only[go_sem]
 refine Wxo (f2:=111) (caps:=[.one (.ptr 3 0)]) (fun pd own'=>pd=none/\∃ rest,own'=.map (ent W)::wkC g::.cells [.own 5 W.length]::.cells [.ptr 1 0]::.dead::.row 1 W.length (Xad W)::rest) rfl ?_ Wsv ?_ ?_ ?_
 ·intro y;simp only[go_sem]
 ·rintro b rc hps ⟨hs,hta,htb⟩
  refine Ywl ?_
  simp only[go_sem]
  repeat' first|refine Kn rfl ?_|(refine Kw ?_;simp only[go_sem])|refine Kf ?_|apply Kp<;>intro _
  refine Kt (fr 67 [(0,.one (.d (.raw (.func (.yield b) #[] #[])))),(1,.one (.ptr 3 0)),(3,.one (.ptr 8 0)),(4,.one (.clo (.func 112) [.ptr 8 0]))]) ?_
  refine Km (fun mz sz=>∃ (t out:List Int) (v:Nat),mz=(g.l.length - out.length)*13+t.length/\Walks (kd g) t out W/\out.Nodup/\(∀ i∈out,0<=i/\i < g.l.length)/\(∀ i∈t,0<=i/\i < g.l.length)/\t.length<=1+12*out.length/\sz=⟨fr 67 [(0,.one (.d (.raw (.func (.yield b) #[] #[])))),(1,.one (.ptr 3 0)),(3,.one (.ptr 8 0)),(4,.one (.clo (.func 112) [.ptr 8 0]))],[.map (ent out),wkC g,.cells [.own 5 out.length],.cells [.ptr 1 0],.dead,.row 1 out.length (Xad out),.lp b _ rc .ready none,.row 1 v (Xad t.reverse),.cells [.own 7 v]]⟩) _ ⟨[g.root],[],0,rfl,hw0,by simp,by simp,by simpa using hg.root,by simp,rfl⟩ ?_
  rintro _ _ ⟨t,out,v,rfl,hw,hn,hio,hit,ht,rfl⟩
  have hol:out.length<=g.l.length:=Xb9 hn hio
  cases t with
  | nil =>
   obtain rfl:=hw.nil_inv
   simp only[List.reverse_nil,go_sem]
   repeat' first|refine Kn rfl ?_|(refine Kw ?_;simp only[List.reverse_nil,go_sem])|refine Kf ?_|(apply Kp<;>intro _<;>try (exfalso;omega))
   exact⟨.ready,none,rfl,by simp,rfl,_,rfl⟩
  | cons i r =>
   have hlen:(r.reverse++[i]).length=r.length+1:=by simp
   have hm1:((r.length+1:Nat):Int) - 1=(r.length:Int):=by omega
   have hget:(Xad (r.reverse++[i]))[r.length]?=some [.int .i64 i]:=Xab (by rw[List.getElem?_append_right (by simp)];simp)
   have hik:inK .i64 (r.length:Int):=by rw[<- hm1];exact Xtb (by simp at ht;unfold lenMax;omega)
   have htk:(Xad (r.reverse++[i])).take r.length=Xad r.reverse:=by
    simp only[Xad,<- List.map_take]
    rw[List.take_append_of_le_length (by simp),List.take_of_length_le (by simp)]
   simp only[List.reverse_cons]
   simp only[go_sem]
   by_cases hm:i∈out
   ·have hf:=Xpb out i
    simp only[hm,if_true] at hf
    repeat' first|refine Kn rfl ?_|(refine Kw ?_;simp only[hlen,hm1,go_sem])|refine Kf ?_|refine⟨hik,?_⟩|refine⟨Kq _,Nat.lt_succ_self _,?_⟩|refine⟨_,⟨hget,Nat.le_refl _⟩,Kg ?_⟩|refine⟨0,r.length,⟨rfl,rfl,Nat.zero_le _,Nat.le_succ _⟩,Kg ?_⟩|refine⟨_,⟨hf,rfl⟩,Kg ?_⟩|(apply Kp<;>intro _<;>try (exfalso;omega))
    rw[htk]
    refine Kt (fr 67 [(0,.one (.d (.raw (.func (.yield b) #[] #[])))),(1,.one (.ptr 3 0)),(3,.one (.ptr 8 0)),(4,.one (.clo (.func 112) [.ptr 8 0]))]) ?_
    exact Kl ⟨(g.l.length - out.length)*13+r.length,by omega,r,out,v+1,rfl,hw.skip_inv hm,hn,hio,fun j hj=>hit j (List.mem_cons_of_mem _ hj),by simp at ht;omega,rfl⟩
   ·have hf:=Xpb out i
    simp only[hm,if_false] at hf
    have hput:=Wti hm
    have hii:=hit i (by simp)
    have hn':(out++[i]).Nodup:=by
     refine List.nodup_append.2 ⟨hn,by simp,?_⟩
     intro a ha c hc;simp at hc;subst hc;rintro rfl;exact hm ha
    have hio':∀ j∈out++[i],0<=j/\j < g.l.length:=fun j hj=>by
     rcases List.mem_append.1 hj with hj|hj
     ·exact hio j hj
     ·simp at hj;subst hj;exact hii
    have hol':out.length+1<=g.l.length:=by have:=Xb9 hn' hio';simpa using this
    repeat' first|refine Kn rfl ?_|(refine Kw ?_;simp only[hlen,hm1,Wtj,go_sem])|refine Kf ?_|refine⟨hik,?_⟩|refine⟨Kq _,Nat.lt_succ_self _,?_⟩|refine⟨_,⟨hget,Nat.le_refl _⟩,Kg ?_⟩|refine⟨0,r.length,⟨rfl,rfl,Nat.zero_le _,Nat.le_succ _⟩,Kg ?_⟩|refine⟨_,⟨hf,rfl⟩,Kg ?_⟩|refine⟨_,hput,Kg ?_⟩|(apply Kp<;>intro _<;>try (exfalso;omega))
    rw[htk]
    refine⟨[.map (ent (out++[i])),wkC g,.cells [.own 5 (out.length+1)],.cells [.ptr 1 0],.dead,.row 1 (out.length+1) (Xad (out++[i])),.lp b _ rc .ready none,.row 1 (v+1) (Xad r.reverse),.cells [.own 7 (v+1)]],true,by simp,⟨6,_,rc,hs,_,_,[.map (ent (out++[i])),wkC g,.cells [.own 5 (out.length+1)],.cells [.ptr 1 0],.dead,.row 1 (out.length+1) (Xad (out++[i])),.dead,.row 1 (v+1) (Xad r.reverse),.cells [.own 7 (v+1)]],none,rfl,by rw[<- Array.length_toList,hps];rfl,hta,htb,?_,rfl,rfl⟩,Kg ?_⟩
    ·rw[hps]
     simp only[go_sem]
     repeat' first|refine Kn rfl ?_|(refine Kw ?_;simp only[go_sem])|refine Kf ?_|apply Kp<;>intro _
     refine Xlh ⟨rfl,?_⟩
     repeat' first|refine Kn rfl ?_|(refine Kw ?_;simp only[go_sem])|refine Kf ?_|apply Kp<;>intro _
     refine⟨by simp,by omega,by unfold lenMax;omega,?_⟩
     rw[show Xad out++[[D.int IntKind.i64 i]]=Xad (out++[i]) from by simp[Xad]]
     repeat' first|refine Kn rfl ?_|(refine Kw ?_;simp only[go_sem])|refine Kf ?_|apply Kp<;>intro _
     exact Xlh ⟨⟨rfl,rfl⟩,rfl⟩
    ·simp only[go_sem]
     have hk:=kids (gp:=gp) g i hg.s
     have hkl:=X0q hg.s i
     repeat' first|refine Kn rfl ?_|(refine Kw ?_;simp only[go_sem])|refine Kf ?_|refine⟨_,hk,Kg ?_⟩|refine⟨_,⟨hk,rfl⟩,Kg ?_⟩|apply Kp<;>intro _
     refine Or.inr (Or.inr ⟨[7,8],.tup [],[.row 1 (v+1+(kd g i).length) (Xad (r.reverse++(kd g i).reverse)),.cells [.own 0 (v+1+(kd g i).length)]],(by simp only[Xay,go_sem];exact⟨Ws0,Wtl (kd g i) r.reverse (v+1) (by simp at ht ⊢;omega)⟩),Kg ?_⟩)
     simp only[go_sem]
     repeat' first|refine Kn rfl ?_|(refine Kw ?_;simp only[go_sem])|refine Kf ?_|apply Kp<;>intro _
     rw[show r.reverse++(kd g i).reverse=(kd g i++r).reverse from by rw[List.reverse_append]]
     refine Kt (fr 67 [(0,.one (.d (.raw (.func (.yield b) #[] #[])))),(1,.one (.ptr 3 0)),(3,.one (.ptr 8 0)),(4,.one (.clo (.func 112) [.ptr 8 0]))]) ?_
     refine Kk 9 (by simp only[List.length_nil,List.length_cons];decide) (by simp only[go_sem]) (by simp only[List.take_succ_cons,List.take_zero,List.all_cons,List.all_nil,Xek];simp only[go_sem]) ?_
     simp only[go_sem]
     have hlo:(out++[i]).length=out.length+1:=by simp
     rw[<- hlo]
     exact Kl ⟨(g.l.length - (out.length+1))*13+((kd g i).length+r.length),by omega,kd g i++r,out++[i],v+1+(kd g i).length,by rw[hlo,List.length_append],hw.step_inv hm,hn',hio',fun j hj=>by
      rcases List.mem_append.1 hj with hj|hj
      ·exact hg.kid i j hj
      ·exact hit j (List.mem_cons_of_mem _ hj),by simp only[List.length_append,List.length_cons,List.length_nil] at ht ⊢;omega,rfl⟩
 ·rintro own' ⟨_,rest,rfl⟩
  simp only[go_sem]
  refine Kk 6 (by simp only[List.length_nil,List.length_cons];decide) (by simp only[go_sem]) (by simp only[List.take_succ_cons,List.take_zero,List.all_cons,List.all_nil,Xek];simp only[go_sem]) ?_
  simp only[go_sem]
  refine Xap 5 ?_
  simp only[Y9q,Xak,List.map_cons,List.map_nil,Xpc]
  simp only[go_sem]
  repeat refine Ko rfl ?_
  refine Ka ?_
  simp only[go_sem]
  refine Kt (fr 13 [(2,.one (.d (.sl (Xad W))))]) ?_
  refine Kk 2 (by simp only[List.length_nil,List.length_cons];decide) (by simp only[go_sem]) (by simp only[List.take_succ_cons,List.take_zero,List.all_cons,List.all_nil,Xek];simp only[go_sem]) ?_
  simp only[go_sem]
  refine Ki rfl ?_
  simp only[or_self,Qs,Qt,Qu,Qv,Qw,Qx,Qy,Qz,Za,go_sem]
 ·rintro _ _ ⟨h,_⟩;cases h
def Jjq (g:Gr):Prop:=chk g=none
noncomputable section
def Xtp (g:Gr):Int:=((chk g).getD (0,0)).2
def wOf (g:Gr):List Int:=if chk g=none then Xbe g else []
def tOf (g:Gr):Gr:=if chk g=none then Xa0 g else ⟨0,[]⟩
def aOf (g:Gr) (ps:List Int):Option Int:=if chk g=none then atG g ps else none
end
theorem Xi0 {g:Gr} (h:chk g=none):Xtp g=0:=by unfold Xtp;rw[h];rfl
theorem Xgy {g:Gr} (h:chk g≠none):Xtp g≠0:=by
 obtain⟨a,e,hs,he⟩:=Yun h
 unfold Xtp;rw[hs];exact he
theorem Wtm {l:List Int} {φ:Int->Int} {i:Nat} {x:Int} (h:l[i]?=some x):((l.take i).map φ++l.drop i).set i (φ x)=(l.take (i+1)).map φ++l.drop (i+1):=by
 obtain⟨hi,rfl⟩:=Kr.1 h
 have hl:((l.take i).map φ).length=i:=by simp;omega
 rw[List.set_append_right _ _ (by omega),hl,Nat.sub_self,List.drop_eq_getElem_cons hi,List.set_cons_zero]
 have e:l.take (i+1)=l.take i++[l[i]]:=by rw[List.take_succ,List.getElem?_eq_getElem hi];rfl
 rw[e,List.map_append,List.append_assoc]
 rfl
theorem Yj7 {l:List Int} {φ:Int->Int} {i:Nat} {x:Int} (h:l[i]?=some x):((l.take i).map φ++l.drop i)[i]?=some x:=by
 obtain⟨hi,rfl⟩:=Kr.1 h
 have hl:((l.take i).map φ).length=i:=by simp;omega
 rw[List.getElem?_append_right (by omega),hl,Nat.sub_self,List.getElem?_drop,Nat.add_zero,List.getElem?_eq_getElem hi]
theorem Xj9 (l:List Int) (i:Nat) (x:Int):(Xad l).set i [.int .i64 x]=Xad (l.set i x):=by simp[Xad,List.map_set]
theorem Yww (l:List Int):∀ p∈Xad l,p.length=1:=by
 intro p hp
 obtain⟨a,_,rfl⟩:=List.mem_map.1 hp
 rfl
theorem Ywx {g:Gr} (W l:List Int) (hl:l.length<=1000) (hw:∀ i∈l,i∈W):Tri QP gp 52 [.one (.ptr 1 0),.one (.d (.sl (Xad l)))] [.map (ent W),wkC g] fun r post =>
  r=.one (.d (.sl (Xad (l.map fun i=>(W.idxOf i:Int)))))/\post=[.map (ent W),wkC g]:=by
 refine Wr3 ?_
 simp only[go_sem]
 have hlm:(l.length:Int) < (lenMax:Int):=by unfold lenMax;omega
 have hlb:(l.length:Int)*8<=140737488355328:=by omega
 have hrl:l.length=(List.replicate l.length [D.int .i64 0]).length:=by simp
 repeat' first|refine Kn rfl ?_|(refine Kw ?_;simp only[Xl2,go_sem])|refine Kf ?_|refine⟨Kq _,hlb,hlm,?_⟩|refine⟨Yww l,hrl,?_⟩|apply Kp<;>intro _
 rw[show Ch.row 1 0 (Xad l)=Ch.row 1 0 (Xad ((l.take 0).map (fun i=>(W.idxOf i:Int))++l.drop 0)) from by simp]
 refine Kt (fr 32 [(0,.one (.ptr 1 0)),(1,.one (.d (.sl (Xad l)))),(5,.one (.own 2 0)),(14,.one (.own 2 0)),(15,vi l.length),(16,vi (0:Nat))]) ?_
 refine Km (fun mz sz=>∃ i:Nat,i<=l.length/\mz=l.length - i/\(0<=i)/\sz=⟨fr 32 [(0,.one (.ptr 1 0)),(1,.one (.d (.sl (Xad l)))),(5,.one (.own 2 0)),(14,.one (.own 2 0)),(15,vi l.length),(16,vi i)],[.map (ent W),wkC g,.row 1 0 (Xad ((l.take i).map (fun i=>(W.idxOf i:Int))++l.drop i))]⟩) (l.length) ⟨0,Nat.zero_le _,(Nat.sub_zero _).symm,?_,rfl⟩ ?_
 ·exact Nat.zero_le _
 rintro _ _ ⟨i,hi,rfl,-,rfl⟩
 simp only[go_sem]
 by_cases hil:i < l.length
 ·obtain⟨x,hx⟩:=Xaf hil
  have hm:=hw x (List.mem_of_getElem? hx)
  have hget:=Xab (f:=fun n:Int=>[D.int .i64 n]) (Yj7 (φ:=fun i=>(W.idxOf i:Int)) hx)
  have hset:=Wtm (φ:=fun i=>(W.idxOf i:Int)) hx
  have hml:i < ((l.take i).map (fun i=>(W.idxOf i:Int))++l.drop i).length:=(Kr.1 (Yj7 (φ:=fun i=>(W.idxOf i:Int)) hx)).1
  generalize hmd:(l.take i).map (fun i=>(W.idxOf i:Int))++l.drop i=md at *
  have hf:=Xpb W x
  simp only[hm,if_true] at hf
  repeat' first|refine Kn rfl ?_|(refine Kw ?_;simp only[Xl2,go_sem])|refine Kf ?_|refine⟨Kq _,hml,?_⟩|refine⟨_,⟨hget,Nat.le_refl _⟩,Kg ?_⟩|refine⟨_,⟨hf,rfl⟩,Kg ?_⟩|(apply Kp<;>intro _<;>try (exfalso;omega))
  rw[show (Xad md).set i _=Xad (md.set i (W.idxOf x:Int)) from Xj9 md i _,hset]
  repeat' first|refine Kn rfl ?_|(refine Kw ?_;simp only[Xl2,go_sem])|refine Kf ?_|apply Kp<;>intro _
  refine⟨Xai hil (by unfold lenMax;omega),?_⟩
  refine Kt (fr 32 [(0,.one (.ptr 1 0)),(1,.one (.d (.sl (Xad l)))),(5,.one (.own 2 0)),(14,.one (.own 2 0)),(15,vi l.length),(16,vi (i+1))]) ?_
  refine Kl ⟨l.length - (i+1),by omega,i+1,by omega,rfl,?_,rfl⟩
  exact Nat.zero_le _
 ·obtain rfl:l.length=i:=by omega
  rw[List.take_of_length_le (Nat.le_refl l.length),List.drop_of_length_le (Nat.le_refl l.length),List.append_nil]
  repeat' first|refine Kn rfl ?_|(refine Kw ?_;simp only[go_sem])|refine Kf ?_|(apply Kp<;>intro _<;>try (exfalso;omega))
  refine Xap 2 ?_
  simp only[Y9q,Xak,List.map_cons,List.map_nil,Xpc]
  simp only[go_sem]
  repeat refine Ko rfl ?_
  refine Ka ?_
  simp only[Xl2,go_sem]
  refine Kt (fr 32 [(4,.one (.d (.sl (Xad (l.map fun i=>(W.idxOf i:Int))))))]) ?_
  refine Kk 2 (by simp only[List.length_nil,List.length_cons];decide) (by simp only[go_sem]) (by simp only[List.take_succ_cons,List.take_zero,List.all_cons,List.all_nil,Xek];simp only[go_sem]) ?_
  simp only[go_sem]
  refine Ki rfl ?_
  simp only[or_self,Qs,Qt,Qu,Qv,Qw,Qx,Qy,Qz,Za,go_sem]
set_option maxHeartbeats 1000000 in
theorem Yj8 (h:Env gp) (g:Gr) (hs:Xc9 g):Does QP gp 25 [g.v] (.tup [(tOf g).v,vi (Xtp g)]):=by
 refine Jaa ?_
 simp only[go_sem]
 have c1:Does QP gp 47 [g.v] (.tup [vi ((chk g).getD (0,0)).1,vi (Xtp g)]):=W69 h g
 by_cases hc:chk g=none
 ·have he:=Xi0 hc
  have ht:tOf g=Xa0 g:=by unfold tOf;rw[if_pos hc]
  rw[he] at c1 ⊢
  rw[ht]
  have hg:Good g:=⟨hc,hs⟩
  have hwn:=hg.wlen
  have hgl:=hg.len
  have hwi:=hg.wIn
  have hcl:=hg.wclosed
  have hT:Xa0 g=⟨0,(Xbe g).map fun i=>Xbc (Xbe g) (Xbr g.l i)⟩:=rfl
  have hww:=Jbp (gp:=gp) hg
  rw[hT]
  generalize Xbe g=W at *
  repeat' first|refine Kn rfl ?_|(refine Kw ?_;simp only[go_sem])|refine Kf ?_|refine⟨_,c1,Kg ?_⟩|refine⟨_,⟨c1,rfl⟩,Kg ?_⟩|apply Kp<;>intro _
  refine Xha 23 ?_
  simp only[go_sem]
  repeat' first|refine Kn rfl ?_|(refine Kw ?_;simp only[Xgf,go_sem])|refine Kf ?_|apply Kp<;>intro _
  refine Or.inr ⟨[],.one (.ptr 1 0),[.map (ent []),wkC g],(by simp only[Xay,go_sem];exact⟨Jad,Jjp g⟩),Kg ?_⟩
  simp only[Yj6,go_sem]
  repeat' first|refine Kn rfl ?_|(refine Kw ?_;simp only[Xgf,go_sem])|refine Kf ?_|apply Kp<;>intro _
  refine Or.inr (Or.inr ⟨[1,2],.one (.d (.sl (Xad W))),[.map (ent W),wkC g],(by simp only[Xay,go_sem];exact⟨Jal,hww⟩),Kg ?_⟩)
  simp only[bkO,bkC,Xek]
  simp only[go_sem]
  repeat' first|refine Kn rfl ?_|(refine Kw ?_;simp only[Xgf,go_sem])|refine Kf ?_|apply Kp<;>intro _
  refine Xeq 4 1 6 (by decide) rfl rfl ?_
  simp only[go_sem]
  refine Kt (fr 69 [(1,.one (.d (.bx [.int .i64 g.root,.sl (nds g.l)]))),(2,.one (.ptr 0 0)),(6,.one (.ptr 2 0)),(7,.one (.ptr 4 0)),(25,.one (.d (.sl (Xad W)))),(26,vi W.length),(27,vi (0:Nat))]) ?_
  refine Km (fun mz sz=>∃ i:Nat,i<=W.length/\mz=W.length - i/\(0<=i)/\sz=⟨fr 69 [(1,.one (.d (.bx [.int .i64 g.root,.sl (nds g.l)]))),(2,.one (.ptr 0 0)),(6,.one (.ptr 2 0)),(7,.one (.ptr 4 0)),(25,.one (.d (.sl (Xad W)))),(26,vi W.length),(27,vi i)],[.cells [.d (.int .i64 0),.nil],.map (ent W),.cells [.d (.int .i64 g.root),.d (.sl (nds g.l)),.own 1 0],.dead,.cells [.d (.int .i64 0),.own 6 i],.dead,.row 6 i (nds ((W.map fun i=>Xbc W (Xbr g.l i)).take i))]⟩) (W.length) ⟨0,Nat.zero_le _,(Nat.sub_zero _).symm,?_,rfl⟩ ?_
  ·exact Nat.zero_le _
  rintro _ _ ⟨i,hi,rfl,-,rfl⟩
  simp only[go_sem]
  by_cases hil:i < W.length
  ·obtain⟨j,hj⟩:=Xaf hil
   have hjm:=List.mem_of_getElem? hj
   have hjr:=hwi j hjm
   obtain⟨n,rfl⟩:=Int.eq_ofNat_of_zero_le hjr.1
   obtain⟨x,hx⟩:=Xaf (l:=g.l) (i:=n) (by omega)
   have hnd:Xbr g.l n=x:=by unfold Xbr;rw[if_pos hjr,Int.toNat_natCast,hx];rfl
   have hTj:(W.map fun i=>Xbc W (Xbr g.l i))[i]?=some (Xbc W x):=by rw[List.getElem?_map,hj,<- hnd];rfl
   have k1:=keys (gp:=gp) g n hs
   have k2:=kids (gp:=gp) g n hs
   rw[hnd] at k1 k2
   have hkl:=Xgx x 12 (hs x (List.mem_of_getElem? hx))
   have hkw:∀ i∈Xan x,i∈W:=by
    have:=hcl n hjm
    rw[kd,hnd] at this
    exact this
   repeat' first|refine Kn rfl ?_|(refine Kw ?_;simp only[Xgf,go_sem])|refine Kf ?_|refine⟨_,k1,Kg ?_⟩|refine⟨_,⟨k1,rfl⟩,Kg ?_⟩|refine⟨_,k2,Kg ?_⟩|refine⟨_,⟨k2,rfl⟩,Kg ?_⟩|refine⟨_,⟨Kq _,(Xab hj),rfl⟩,Kg ?_⟩|refine⟨_,⟨Kq _,(Xab hx),rfl⟩,Kg ?_⟩|(apply Kp<;>intro _<;>try (exfalso;omega))
   refine Or.inr (Or.inr ⟨[1,2],.one (.d (.sl (Xad ((Xan x).map fun i=>(W.idxOf i:Int))))),[.map (ent W),wkC g],(by simp only[Xay,Xcl,rnV,rnA,Xcx,rn0,Xcw,Xbo,Xcm,rnC,Xak,List.isEmpty_nil,Xek,reduceCtorEq,↓reduceIte,Qa,Qb,Qc,Qd,Qe,Qf,Qg,Qh,Qi,Qj,Qk,Ql,Qm,Qn,Qo,Qp,Qq,Qr];simp only[go_sem];exact⟨Jat,Ywx W (Xan x) (by omega) hkw⟩),Kg ?_⟩)
   simp only[bkO,bkC,Xek]
   simp only[go_sem]
   have htl:((W.map fun i=>Xbc W (Xbr g.l i)).take i).length=i:=by simp;omega
   have h88:(((W.map fun i=>Xbc W (Xbr g.l i)).take i).length+1)*88<=140737488355328:=by rw[htl];omega
   have hlm:((W.map fun i=>Xbc W (Xbr g.l i)).take i).length+1 < lenMax:=by rw[htl];unfold lenMax;omega
   repeat' first|refine Kn rfl ?_|(refine Kw ?_;simp only[Xgf,go_sem])|refine Kf ?_|refine⟨by simp,h88,hlm,?_⟩|(apply Kp<;>intro _<;>try (exfalso;omega))
   rw[show nds ((W.map fun i=>Xbc W (Xbr g.l i)).take i)++[[D.int .i64 x.k,.int .i64 x.x.k,.int .i64 x.x.n,.str x.x.s,.sl (scs (Xaq x)),.sl (Xad ((Xan x).map fun i=>(W.idxOf i:Int)))]]=nds ((W.map fun i=>Xbc W (Xbr g.l i)).take (i+1)) from Xo1 hTj]
   refine⟨Xai hil (by unfold lenMax;omega),?_⟩
   refine Kt (fr 69 [(1,.one (.d (.bx [.int .i64 g.root,.sl (nds g.l)]))),(2,.one (.ptr 0 0)),(6,.one (.ptr 2 0)),(7,.one (.ptr 4 0)),(25,.one (.d (.sl (Xad W)))),(26,vi W.length),(27,vi (i+1))]) ?_
   refine Kk 7 (by simp only[List.length_nil,List.length_cons];decide) (by simp only[go_sem]) (by simp only[List.take_succ_cons,List.take_zero,List.all_cons,List.all_nil,Xek];try simp only[go_sem]) ?_
   simp only[go_sem]
   refine Kl ⟨W.length - (i+1),by omega,i+1,by omega,rfl,?_,rfl⟩
   exact Nat.zero_le _
  ·obtain rfl:W.length=i:=by omega
   rw[List.take_of_length_le (by simp)]
   refine Xap 6 ?_
   simp only[Y9q,Xak,List.map_cons,List.map_nil,Xpc]
   simp only[go_sem]
   repeat' first|refine Kn rfl ?_|(refine Kw ?_;simp only[Xgf,go_sem])|refine Kf ?_|(apply Kp<;>intro _<;>try (exfalso;omega))
   all_goals trace_state
 ·have he:=Xgy hc
  have ht:tOf g=⟨0,[]⟩:=by unfold tOf;rw[if_neg hc]
  rw[ht]
  generalize Xtp g=e at *
  repeat' first|refine Kn rfl ?_|(refine Kw ?_;simp only[Xgf,go_sem])|refine Kf ?_|refine⟨_,c1,Kg ?_⟩|refine⟨_,⟨c1,rfl⟩,Kg ?_⟩|apply Kp<;>intro _
  all_goals first|rfl|(exfalso;simp_all;done)|exact⟨rfl,rfl⟩
theorem Xpd {g:Gr} (h:Good g):tOf g=Xa0 g:=by unfold tOf;rw[if_pos h.c]
theorem X0u {g:Gr} (h:Good g):wOf g=Xbe g:=by unfold wOf;rw[if_pos h.c]
theorem Xpe (h:Env gp) (g:Gr) (hs:Xc9 g):Does QP gp 53 [g.v] (vb (decide (chk g=none/\g=Xa0 g))):=by
 refine Jay ?_
 simp only[go_sem]
 have c1:=Yj8 h g hs
 by_cases hc:chk g=none
 ·rw[Xi0 hc,Xpd ⟨hc,hs⟩] at c1
  repeat' first|refine Kn rfl ?_|(refine Kw ?_;simp only[go_sem])|refine Kf ?_|refine⟨_,c1,Kg ?_⟩|refine⟨_,⟨c1,rfl⟩,Kg ?_⟩|refine⟨_,Xow g (Xa0 g),Kg ?_⟩|refine⟨_,⟨Xow g (Xa0 g),rfl⟩,Kg ?_⟩|apply Kp<;>intro _
  simp[hc]
 ·have he:=Xgy hc
  generalize Xtp g=e at *
  repeat' first|refine Kn rfl ?_|(refine Kw ?_;simp only[go_sem])|refine Kf ?_|refine⟨_,c1,Kg ?_⟩|refine⟨_,⟨c1,rfl⟩,Kg ?_⟩|refine⟨_,Xow g (tOf g),Kg ?_⟩|refine⟨_,⟨Xow g (tOf g),rfl⟩,Kg ?_⟩|apply Kp<;>intro _
  all_goals simp_all
end Go.Fw.L07
