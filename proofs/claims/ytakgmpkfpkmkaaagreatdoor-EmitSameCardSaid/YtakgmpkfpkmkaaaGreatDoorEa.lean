/- Chapter 8,plain: walks. -/
import Derived.Test.YtakgmpkfpkmkaaaGreatDoorLc
import Derived.Test.YtakgmpkfpkmkaaaGreatDoorL07L08Mini
set_option linter.all false
namespace Go.Fw.L07
open Go Go.Fw
open Go.Fw.Sh renaming intro->Kg
open Go.Fw renaming Xkl->Ka,Xfi->Kb,Xko->Kv,Xfj->Ke,Xfl->Kf,Xkn->Kh,Xkm->Ki,Xdx->Kt,Xkg->Kk,Xdw->Kl,Xfz->Km,Gx->Kn,Gw->Ko
open Int renaming natCast_nonneg->Kq
open List renaming getElem?_eq_some_iff->Kr
open And renaming intro->Kp
open Nat renaming reduceAdd->Qa,reduceSub->Qb,reduceMul->Qc,reduceLeDiff->Qd,reduceLT->Qe,reduceEqDiff->Qf
open Int renaming reduceToNat->Qg,reduceLT->Qh,reduceLE->Qi,reduceGT->Qj,reduceGE->Qk,reduceEq->Ql,reduceNe->Qm,reduceBEq->Qn,reduceBNe->Qo,reduceAdd->Qp,reduceSub->Qq,reduceNeg->Qr
open Go.Fw.V.one renaming injEq->Qs
open Go.Fw.V.agg renaming injEq->Qt
open Go.Fw.V.tup renaming injEq->Qu
open Go.Fw.A.d renaming injEq->Qv
open Go.Fw.D.bool renaming injEq->Qw
open Go.Fw.D.int renaming injEq->Qx
open Go.Fw.D.str renaming injEq->Qy
open Go.Fw.D.sl renaming injEq->Qz
open List.cons renaming injEq->Za
set_option maxRecDepth 4000
theorem Xd0:∀ {n:Nat} {l:List Int},l.Nodup->(∀ i∈l,0<=i/\i < n)->l.length<=n
 | 0,l,_,h=>by
  cases l with
  | nil=>simp
  | cons a l=>have:=h a (by simp);omega
 | n+1,l,hn,h=>by
  by_cases hm:(n:Int)∈l
  ·have:=Xd0 (n:=n) (hn.erase (n:Int)) (fun i hi=>by rw[hn.mem_erase_iff] at hi;have:=h i hi.2;omega)
   rw[List.length_erase_of_mem hm] at this;omega
  ·have:=Xd0 (n:=n) hn (fun i hi=>by
    have h1:=h i hi
    have:i≠n:=fun e=>hm (e ▸ hi)
    omega)
   omega
inductive Walks (k:Int->List Int):List Int->List Int->List Int->Prop
 | nil (out:List Int):Walks k [] out out
 | skip {i:Int} {r out w:List Int}:i∈out->Walks k r out w->Walks k (i::r) out w
 | step {i:Int} {r out w:List Int}:i ∉ out->Walks k (k i++r) (out++[i]) w->Walks k (i::r) out w
section
variable {k:Int->List Int}
theorem Walks.det {t o w v:List Int} (h:Walks k t o w) (h':Walks k t o v):w=v:=by
 induction h with
 | nil=>cases h';rfl
 | skip hm _ ih =>
  cases h' with
  | skip _ h2=>exact ih h2
  | step hn _=>exact absurd hm hn
 | step hn _ ih =>
  cases h' with
  | skip hm _=>exact absurd hm hn
  | step _ h2=>exact ih h2
theorem Walks.nil_inv {o w:List Int} (h:Walks k [] o w):w=o:=by cases h;rfl
theorem Walks.skip_inv {i:Int} {r o w:List Int} (h:Walks k (i::r) o w) (hm:i∈o):Walks k r o w:=by
 cases h with
 | skip _ h=>exact h
 | step hn _=>exact absurd hm hn
theorem Walks.step_inv {i:Int} {r o w:List Int} (h:Walks k (i::r) o w) (hm:i ∉ o):Walks k (k i++r) (o++[i]) w:=by
 cases h with
 | skip hn _=>exact absurd hn hm
 | step _ h=>exact h
theorem Walks.app {t o m:List Int} (h:Walks k t o m) {r w:List Int} (h':Walks k r m w):Walks k (t++r) o w:=by
 induction h with
 | nil=>exact h'
 | skip hm _ ih=>exact .skip hm (ih h')
 | step hn _ ih =>
  have e:=ih h'
  rw[List.append_assoc] at e
  exact .step hn e
theorem Walks.split {t o w:List Int} (h:Walks k t o w):∀ {a b:List Int},t=a++b->∃ m,Walks k a o m/\Walks k b m w:=by
 induction h with
 | nil out =>
  intro a b e
  obtain⟨rfl,rfl⟩:=List.append_eq_nil_iff.1 e.symm
  exact⟨out,.nil _,.nil _⟩
 | @skip i r out w hm h ih =>
  intro a b e
  cases a with
  | nil =>
   simp only[List.nil_append] at e
   exact⟨out,.nil _,e ▸ .skip hm h⟩
  | cons x a =>
   simp only[List.cons_append,List.cons.injEq] at e
   obtain⟨rfl,e⟩:=e
   obtain⟨m,h1,h2⟩:=ih e
   exact⟨m,.skip hm h1,h2⟩
 | @step i r out w hn h ih =>
  intro a b e
  cases a with
  | nil =>
   simp only[List.nil_append] at e
   exact⟨out,.nil _,e ▸ .step hn h⟩
  | cons x a =>
   simp only[List.cons_append,List.cons.injEq] at e
   obtain⟨rfl,e⟩:=e
   obtain⟨m,h1,h2⟩:=ih (a:=k i++a) (b:=b) (by rw[e,List.append_assoc])
   exact⟨m,.step hn h1,h2⟩
theorem Walks.pre {t o w:List Int} (h:Walks k t o w):∃ r,w=o++r:=by
 induction h with
 | nil out=>exact⟨[],by simp⟩
 | skip _ _ ih=>exact ih
 | step _ _ ih =>
  obtain⟨r,hr⟩:=ih
  exact⟨_::r,by rw[hr,List.append_assoc];rfl⟩
theorem Walks.sub {t o w:List Int} (h:Walks k t o w) {i:Int} (hi:i∈o):i∈w:=by
 obtain⟨r,rfl⟩:=h.pre
 exact List.mem_append_left _ hi
theorem Walks.nodup {t o w:List Int} (h:Walks k t o w) (ho:o.Nodup):w.Nodup:=by
 induction h with
 | nil=>exact ho
 | skip _ _ ih=>exact ih ho
 | step hn _ ih =>
  refine ih (List.nodup_append.2 ⟨ho,by simp,?_⟩)
  intro a ha b hb;simp at hb;subst hb;rintro rfl;exact hn ha
theorem Walks.all {P:Int->Prop} {t o w:List Int} (h:Walks k t o w) (ht:∀ i∈t,P i) (ho:∀ i∈o,P i) (hk:∀ i,P i->∀ j∈k i,P j):∀ i∈w,P i:=by
 induction h with
 | nil=>exact ho
 | skip _ _ ih=>exact ih (fun i hi=>ht i (List.mem_cons_of_mem _ hi)) ho
 | @step i r out w _ _ ih =>
  refine ih (fun j hj=>?_) (fun j hj=>?_)
  ·rcases List.mem_append.1 hj with hj|hj
   ·exact hk i (ht i (by simp)) j hj
   ·exact ht j (List.mem_cons_of_mem _ hj)
  ·rcases List.mem_append.1 hj with hj|hj
   ·exact ho j hj
   ·simp at hj;subst hj;exact ht j (by simp)
theorem Walks.todo {t o w:List Int} (h:Walks k t o w):∀ i∈t,i∈w:=by
 induction h with
 | nil=>intro i hi;cases hi
 | skip hm h ih =>
  intro i hi
  rcases List.mem_cons.1 hi with rfl|hi
  ·exact h.sub hm
  ·exact ih i hi
 | step hn h ih =>
  intro i hi
  rcases List.mem_cons.1 hi with rfl|hi
  ·exact h.sub (by simp)
  ·exact ih i (List.mem_append_right _ hi)
theorem Walks.closed {t o w:List Int} (h:Walks k t o w):∀ i∈w,i ∉ o->∀ j∈k i,j∈w:=by
 induction h with
 | nil=>intro i hi hn;exact absurd hi hn
 | skip _ _ ih=>exact ih
 | @step i r out w hn h ih =>
  intro x hx hxo j hj
  by_cases e:x=i
  ·subst e;exact h.todo j (List.mem_append_left _ hj)
  ·exact ih x hx (by simp[hxo,e]) j hj
theorem Walks.ex (n c:Nat) (hc:∀ i,(k i).length<=c) (hk:∀ i,∀ j∈k i,0<=j/\j < n):∀ (f:Nat) (t o:List Int),(n - o.length)*(c+1)+t.length<=f->o.Nodup->(∀ i∈o,0<=i/\i < n)->(∀ i∈t,0<=i/\i < n)->∃ w,Walks k t o w
 | f,[],o,_,_,_,_=>⟨o,.nil o⟩
 | 0,i::t,o,hf,_,_,_=>by simp at hf
 | f+1,i::t,o,hf,hn,ho,ht=>by
  by_cases hm:i∈o
  ·obtain⟨w,hw⟩:=Walks.ex n c hc hk f t o (by simp at hf;omega) hn ho fun j hj=>ht j (List.mem_cons_of_mem _ hj)
   exact⟨w,.skip hm hw⟩
  ·have hn':(o++[i]).Nodup:=by
    refine List.nodup_append.2 ⟨hn,by simp,?_⟩
    intro a ha b hb;simp at hb;subst hb;rintro rfl;exact hm ha
   have ho':∀ j∈o++[i],0<=j/\j < n:=fun j hj=>by
    rcases List.mem_append.1 hj with hj|hj
    ·exact ho j hj
    ·simp at hj;subst hj;exact ht j (by simp)
   have hlen:o.length+1<=n:=by
    have:=Xd0 hn' ho'
    simpa using this
   obtain⟨w,hw⟩:=Walks.ex n c hc hk f (k i++t) (o++[i]) (by
    have h1:=hc i
    simp only[List.length_append,List.length_cons,List.length_nil] at hf ⊢
    have h2:n - o.length=(n - (o.length+(0+1)))+1:=by omega
    rw[h2,Nat.add_mul] at hf
    omega) hn' ho' fun j hj=>by
    rcases List.mem_append.1 hj with hj|hj
    ·exact hk i j hj
    ·exact ht j (List.mem_cons_of_mem _ hj)
   exact⟨w,.step hm hw⟩
theorem Walks.map {k':Int->List Int} {φ:Int->Int} {t o w:List Int} (h:Walks k t o w) (hi:∀ i∈w,∀ j∈w,φ i=φ j->i=j) (hk:∀ i∈w,k' (φ i)=(k i).map φ):Walks k' (t.map φ) (o.map φ) (w.map φ):=by
 induction h with
 | nil=>exact .nil _
 | skip hm _ ih=>exact .skip (List.mem_map_of_mem hm) (ih hi hk)
 | @step i r out w hn h ih =>
  have hiw:i∈w:=h.sub (by simp)
  refine .step ?_ ?_
  ·intro hm
   obtain⟨j,hj,e⟩:=List.mem_map.1 hm
   have:j=i:=hi j (h.sub (List.mem_append_left _ hj)) i hiw e
   subst this
   exact hn hj
  ·have:=ih hi hk
   rw[hk i hiw]
   simpa using this
end
abbrev kd (g:Gr) (i:Int):List Int:=Xae (Xbb g.l i)
open Classical in
noncomputable def Ydp (k:Int->List Int) (t o:List Int):List Int:=if h:∃ w,Walks k t o w then Classical.choose h else o
theorem Walks.eq {k:Int->List Int} {t o w:List Int} (h:Walks k t o w):Ydp k t o=w:=by
 unfold Ydp
 rw[dif_pos ⟨w,h⟩]
 exact (Classical.choose_spec (⟨w,h⟩:∃ w,Walks k t o w)).det h
theorem Yn1 {k:Int->List Int} {t o w:List Int} (h:Walks k t o w):Walks k t o (Ydp k t o):=by rw[h.eq];exact h
noncomputable def Xa9 (g:Gr):List Int:=Ydp (kd g) [g.root] []
theorem Xdt (x:Nd) (n:Nat) (h:x.keys.length<=n/\x.kids.length<=n):(Xae x).length<=n:=by
 unfold Xae
 split
 ·exact h.2
 ·have:=Xcp x
  simp;omega
theorem Ydq {g:Gr} (h:Xc4 g) (i:Int):(kd g i).length<=12:=Xdt _ 12 (h.at i)
structure Good (g:Gr):Prop where
 c:chk g=none
 s:Xc4 g
theorem Good.len {g:Gr} (h:Good g):g.l.length<=200:=(Xki h.c).1
theorem Good.root {g:Gr} (h:Good g):0<=g.root/\g.root < g.l.length:=(Xki h.c).2.1
theorem Good.node {g:Gr} (h:Good g) {i:Int} (hi:0<=i/\i < g.l.length):Xbe Xak (Xbb g.l i) g.l.length=true:=(Xki h.c).2.2 _ (Xjo hi)
theorem Good.kid {g:Gr} (h:Good g) (i:Int):∀ j∈kd g i,0<=j/\j < g.l.length:=by
 by_cases hi:0<=i/\i < g.l.length
 ·exact (Xmi (h.node hi)).inn
 ·intro j hj
  rw[kd,Xil hi] at hj
  simp[Xae,Xac,Nd.zero] at hj
theorem Good.ex {g:Gr} (h:Good g) {t o:List Int} (hn:o.Nodup) (ho:∀ i∈o,0<=i/\i < g.l.length) (ht:∀ i∈t,0<=i/\i < g.l.length):Walks (kd g) t o (Ydp (kd g) t o):=by
 obtain⟨w,hw⟩:=Walks.ex g.l.length 12 (Ydq h.s) h.kid _ t o (Nat.le_refl _) hn ho ht
 exact Yn1 hw
theorem Good.walk {g:Gr} (h:Good g):Walks (kd g) [g.root] [] (Xa9 g):=h.ex (by simp) (by simp) (by simpa using h.root)
theorem Good.wnodup {g:Gr} (h:Good g):(Xa9 g).Nodup:=h.walk.nodup (by simp)
theorem Good.wIn {g:Gr} (h:Good g):∀ i∈Xa9 g,0<=i/\i < g.l.length:=h.walk.all (P:=fun i=>0<=i/\i < g.l.length) (by simpa using h.root) (by simp) fun i _=>h.kid i
theorem Good.wlen {g:Gr} (h:Good g):(Xa9 g).length<=g.l.length:=Xd0 h.wnodup h.wIn
theorem Good.wclosed {g:Gr} (h:Good g):∀ i∈Xa9 g,∀ j∈kd g i,j∈Xa9 g:=fun i hi=>h.walk.closed i hi (by simp)
theorem Good.whead {g:Gr} (h:Good g):∃ r,Xa9 g=g.root::r:=by
 have:=(h.walk.step_inv (by simp)).pre
 simpa using this
theorem Good.wroot {g:Gr} (h:Good g):g.root∈Xa9 g:=by obtain⟨r,hr⟩:=h.whead;rw[hr];simp
theorem Xn6 {l:List Int} (hn:l.Nodup) {j:Nat} {i:Int} (h:l[j]?=some i):l.idxOf i=j:=by
 obtain⟨hj,rfl⟩:=Kr.1 h
 exact hn.idxOf_getElem j hj
theorem Xru {l:List Int} {i:Int} (h:i∈l):l.idxOf i < l.length:=List.idxOf_lt_length_of_mem h
theorem Xpm {l:List Int} {i:Int} (h:i∈l):l[l.idxOf i]?=some i:=by
 rw[List.getElem?_eq_getElem (Xru h),List.getElem_idxOf (Xru h)]
theorem Ydr {l:List Int} {i j:Int} (hi:i∈l) (hj:j∈l) (e:l.idxOf i=l.idxOf j):i=j:=by
 have h1:=Xpm hi
 rw[e,Xpm hj] at h1
 exact (Option.some.inj h1).symm
theorem Wcp {l:List Int} (hn:l.Nodup):l.map (fun i=>(l.idxOf i:Int))=(List.range l.length).map (fun n:Nat=>(n:Int)):=by
 apply List.ext_getElem?
 intro j
 rw[List.getElem?_map,List.getElem?_map]
 by_cases hj:j < l.length
 ·rw[List.getElem?_eq_getElem hj,List.getElem?_range hj]
  simp[hn.idxOf_getElem j hj]
 ·rw[List.getElem?_eq_none (by omega),List.getElem?_eq_none (by simpa using hj)];rfl
def Xbk (w:List Int) (x:Nd):Nd:=⟨x.k,x.x,Xai x,(Xae x).map fun i=>(w.idxOf i:Int)⟩
noncomputable def Xau (g:Gr):Gr:=⟨0,(Xa9 g).map fun i=>Xbk (Xa9 g) (Xbb g.l i)⟩
theorem Yxi {l:List Pr} (h:l.Pairwise lt1):srt l=l:=by
 have hn:(l.map Pr.key).Nodup:=by
  rw[List.Nodup,List.pairwise_map]
  refine h.imp ?_
  intro a b hab e
  have h2:lex a.key b.key:=hab
  rw[show a.key=b.key from e] at h2
  exact Xph b.key h2
 exact Xrr (Xx3 hn) h (Xdr l)
theorem Yds {l:List Pr} {f:Int->Int}:Xdj ⟨2,⟨0,0,⟨#[]⟩⟩,l.map Pr.key,(l.map Pr.kid).map f⟩=l.map fun p=>⟨p.key,f p.kid⟩:=by
 unfold Xdj
 induction l with
 | nil=>rfl
 | cons a l ih=>simp only[List.map_cons,List.zipWith_cons_cons];rw[ih]
theorem Ydt (x:Nd):Xdj x=List.zipWith Pr.mk x.keys x.kids:=rfl
theorem Xeu {x:Nd} {n:Int} (h:Xbe Xak x n=true) (w:List Int):Xae (Xbk w x)=(Xae x).map (fun i=>(w.idxOf i:Int))/\Xai (Xbk w x)=Xai x:=by
 by_cases hk:x.k=2
 ·obtain⟨h1,h2,_⟩:=Xdz h hk
  have hp:=Xb4 hk h1
  have hlt:(srt (Xdj x)).Pairwise lt1:=Xx3 (by rw[Xe8 h1];exact h2)
  have hkeys:Xai x=(srt (Xdj x)).map Pr.key:=by unfold Xai;rw[hp]
  have hkids:Xae x=(srt (Xdj x)).map Pr.kid:=by unfold Xae;rw[if_neg (by omega),hp]
  have hz:Xdj (Xbk w x)=(srt (Xdj x)).map fun p=>⟨p.key,(w.idxOf p.kid:Int)⟩:=by
   have:=Yds (l:=srt (Xdj x)) (f:=fun i=>(w.idxOf i:Int))
   rw[Ydt] at this ⊢
   simp only[Xbk]
   rw[hkeys,hkids]
   exact this
  have hlt2:((srt (Xdj x)).map fun p=>(⟨p.key,(w.idxOf p.kid:Int)⟩:Pr)).Pairwise lt1:=by
   rw[List.pairwise_map]
   exact hlt.imp fun {a b} hab=>hab
  have hp2:Xac (Xbk w x)=(srt (Xdj x)).map fun p=>⟨p.key,(w.idxOf p.kid:Int)⟩:=by
   have hlen:(Xbk w x).keys.length=(Xbk w x).kids.length:=by simp only[Xbk];rw[hkeys,hkids];simp
   rw[Xb4 (x:=Xbk w x) hk hlen,hz,Yxi hlt2]
  constructor
  ·unfold Xae
   rw[if_neg (show ¬ (Xbk w x).k=1 by simp only[Xbk];omega),if_neg (show ¬ x.k=1 by omega),hp2,hp]
   simp
  ·unfold Xai
   rw[hp2,hp]
   simp
 ·have hp:=Xb5 hk
  have hp2:Xac (Xbk w x)=[]:=Xb5 (x:=Xbk w x) hk
  constructor
  ·unfold Xae
   rw[hp2,hp]
   show (if x.k=1 then (Xae x).map _ else _)=_
   unfold Xae
   rw[hp]
   split
   ·rfl
   ·rfl
  ·unfold Xai;rw[hp2,hp]
theorem Xe9 {x:Nd} {n:Int} (h:Xbe Xak x n=true) (hk:x.k=2):x.keys.all (prR Xak)=true/\isZ x.x=true:=by
 unfold Xbe at h
 rw[hk] at h
 simp[Ymx,Xty] at h
 exact⟨by simpa using h.2.2.1.1,h.1⟩
theorem Xjq {x:Nd} {n:Int} (h:Xbe Xak x n=true) (hk:x.k=1):isZ x.x=true:=by
 unfold Xbe at h
 rw[hk] at h
 simp[Yi7] at h
 exact h.1
theorem Xjr {x:Nd} {n:Int} (h:Xbe Xak x n=true) (hk:x.k=0):prR Xak x.x=true:=by
 unfold Xbe at h
 rw[if_pos hk] at h
 simp[Ymw] at h
 exact h.1
theorem Xrv {l:List Int} {m:Int} (h:∀ i∈l,0<=i/\i < m):Xdl l m=true:=by
 unfold Xdl
 rw[List.all_eq_true]
 intro i hi
 have:=h i hi
 simp;exact this
theorem X1i {x:Nd} {n:Int} {w:List Int} (h:Xbe Xak x n=true) (hw:∀ j∈Xae x,j∈w):Xbe Xak (Xbk w x) w.length=true:=by
 have hin:Xdl ((Xae x).map fun i=>(w.idxOf i:Int)) w.length=true:=Xrv fun i hi=>by
  obtain⟨j,hj,rfl⟩:=List.mem_map.1 hi
  have:=Xru (hw j hj)
  omega
 obtain⟨_,k2,k3,k4,_,_⟩:=Xmi h
 rcases Xgl h with hk|hk|hk
 ·have h1:=Xjr h hk
  have h2:=Xim h hk
  unfold Xbe
  rw[if_pos (show (Xbk w x).k=0 from hk)]
  have e1:Xai x=[]:=k4 (by omega)
  have e2:Xae x=[]:=by rw[<- List.length_eq_zero_iff,k2,h2.2];rfl
  simp[Ymw,Xbk,h1,e1,e2]
 ·have h1:=Xjq h hk
  unfold Xbe
  rw[if_neg (show ¬ (Xbk w x).k=0 by simp only[Xbk];omega),if_pos (show (Xbk w x).k=1 from hk)]
  have e1:Xai x=[]:=k4 (by omega)
  simp only[Yi7,Xbk,h1,e1,hin]
  rfl
 ·obtain⟨h0,h1⟩:=Xe9 h hk
  obtain⟨m1,m2,_⟩:=Xdz h hk
  unfold Xbe
  rw[if_neg (show ¬ (Xbk w x).k=0 by simp only[Xbk];omega),if_neg (show ¬ (Xbk w x).k=1 by simp only[Xbk];omega),if_pos (show (Xbk w x).k=2 from hk)]
  have hpk:(Xai x).Perm x.keys:=by
   unfold Xai
   rw[Xb4 hk m1]
   have:=(Xdr (Xdj x)).map Pr.key
   rwa [Xe8 m1] at this
  have e1:(Xai x).all (prR Xak)=true:=by
   rw[List.all_eq_true] at h0 ⊢
   exact fun a ha=>h0 a (hpk.mem_iff.1 ha)
  have e2:(Xai x).Nodup:=hpk.nodup_iff.2 m2
  have e3:(Xai x).length=(Xae x).length:=k3 hk
  simp only[Ymx,Xty,Xbk,h1,hin,e1,e3,List.length_map]
  simp[e2]
theorem Xt5 {x:Nd} (w:List Int) (h:x.keys.length<=12/\x.kids.length<=12):(Xbk w x).keys.length<=12/\(Xbk w x).kids.length<=12:=by
 have:=Xcp x
 refine⟨?_,?_⟩
 ·simp only[Xbk,Xai,List.length_map];omega
 ·simp only[Xbk,List.length_map];exact Xdt x 12 h
theorem Xdh (g:Gr):(Xau g).l.length=(Xa9 g).length:=by simp[Xau]
theorem Xpn {g:Gr} {j:Nat} {i:Int} (h:(Xa9 g)[j]?=some i):Xbb (Xau g).l j=Xbk (Xa9 g) (Xbb g.l i):=by
 have hj:=(Kr.1 h).1
 unfold Xbb
 rw[if_pos (by rw[Xdh];omega),Int.toNat_natCast]
 simp only[Xau,List.getElem?_map,h,Option.map_some,Option.getD_some]
 rfl
theorem Good.tidy {g:Gr} (h:Good g):Good (Xau g) where
 c:=by
  refine Ybm (by rw[Xdh];exact Nat.le_trans h.wlen h.len) ?_ ?_
  ·rw[Xdh]
   obtain⟨r,hr⟩:=h.whead
   simp[Xau,hr]
  ·intro x hx
   rw[Xdh]
   simp only[Xau,List.mem_map] at hx
   obtain⟨i,hi,rfl⟩:=hx
   exact X1i (h.node (h.wIn i hi)) (h.wclosed i hi)
 s:=by
  intro x hx
  simp only[Xau,List.mem_map] at hx
  obtain⟨i,hi,rfl⟩:=hx
  exact Xt5 _ (h.s.at i)
theorem Ydu {g:Gr} (h:Good g) {i:Int} (hi:i∈Xa9 g):kd (Xau g) ((Xa9 g).idxOf i)=(kd g i).map fun j=>((Xa9 g).idxOf j:Int):=by
 have:=Xpn (g:=g) (Xpm hi)
 rw[kd,this]
 exact (Xeu (h.node (h.wIn i hi)) _).1
theorem Xrw {g:Gr} (h:Good g):Xa9 (Xau g)=(List.range (Xa9 g).length).map (fun n:Nat=>(n:Int)):=by
 have h1:=h.walk.map (k':=kd (Xau g)) (φ:=fun i=>((Xa9 g).idxOf i:Int)) (fun i hi j hj e=>Ydr hi hj (by exact Int.ofNat.inj e)) fun i hi=>Ydu h hi
 rw[Wcp h.wnodup] at h1
 have h2:[g.root].map (fun i=>((Xa9 g).idxOf i:Int))=[(Xau g).root]:=by
  obtain⟨r,hr⟩:=h.whead
  simp[Xau,hr]
 rw[h2] at h1
 exact h1.eq
theorem Ydv {n:Nat} {j:Int} (h:0<=j/\j < n):((List.range n).map (fun m:Nat=>(m:Int))).idxOf j=j.toNat:=by
 apply Xn6
 ·rw[List.Nodup,List.pairwise_map]
  exact List.nodup_range.imp fun {a b} hab e=>hab (by omega)
 ·rw[List.getElem?_map,List.getElem?_range (by omega)]
  simp;omega
theorem Xrx {g:Gr} (h:Good g):Xau (Xau g)=Xau g:=by
 have hw:=Xrw h
 have hl:=Xdh g
 have e:(Xau (Xau g)).l=(Xau g).l:=by
  apply List.ext_getElem?
  intro j
  show ((Xa9 (Xau g)).map _)[j]?=_
  rw[hw,List.getElem?_map,List.getElem?_map]
  by_cases hj:j < (Xa9 g).length
  ·rw[List.getElem?_range hj]
   obtain⟨i,hi⟩:=Xal hj
   have hm:=List.mem_of_getElem? hi
   have hn:=h.node (h.wIn i hm)
   have h3:(Xau g).l[j]?=some (Xbk (Xa9 g) (Xbb g.l i)):=by simp only[Xau,List.getElem?_map,hi,Option.map_some]
   rw[h3]
   simp only[Option.map_some,Option.some.injEq]
   rw[Xpn hi]
   obtain⟨t1,t2⟩:=Xeu hn (Xa9 g)
   show Nd.mk _ _ _ _=Nd.mk _ _ _ _
   rw[t1,t2]
   congr 1
   rw[List.map_map]
   apply List.map_congr_left
   intro c hc
   have:=Xru (h.wclosed i hm c hc)
   show ((List.idxOf ((Xa9 g).idxOf c:Int) _:Nat):Int)=_
   rw[Ydv (j:=((Xa9 g).idxOf c:Int)) (by omega)]
   simp
  ·rw[List.getElem?_eq_none (by simpa using hj),List.getElem?_eq_none (by omega)]
   rfl
 have e0:(Xau (Xau g)).root=(Xau g).root:=rfl
 cases hA:Xau (Xau g);cases hB:Xau g
 rw[hA,hB] at e e0
 simp only at e e0
 rw[e,e0]
def atF (k:Int->List Int):List Int->Int->Option Int
 | [],a=>some a
 | p::ps,a=>if 0<=p then ((k a)[p.toNat]?).bind (atF k ps) else none
def atG (g:Gr) (ps:List Int):Option Int:=atF (kd g) ps g.root
theorem Walks.from {k:Int->List Int} {r0:Int} {t o w:List Int} (h:Walks k t o w) (ht:∀ i∈t,i=r0\/∃ p∈o,i∈k p) :
  ∀ (j:Nat) (i:Int),o.length<=j->w[j]?=some i->i=r0\/∃ (m:Nat) (p:Int),m < j/\w[m]?=some p/\i∈k p:=by
 induction h with
 | nil out =>
  intro j i hj hi
  rw[List.getElem?_eq_none hj] at hi;cases hi
 | skip hm h ih=>exact ih fun i hi=>ht i (List.mem_cons_of_mem _ hi)
 | @step x r out w hn h ih =>
  intro j i hj hi
  by_cases e:j=out.length
  ·subst e
   obtain⟨q,hq⟩:=h.pre
   have hix:i=x:=by
    rw[hq,List.append_assoc,List.getElem?_append_right (Nat.le_refl _)] at hi
    simp at hi;exact hi.symm
   subst hix
   rcases ht i (by simp) with h1|⟨p,hp,hk⟩
   ·exact .inl h1
   ·obtain⟨m,hm⟩:=List.mem_iff_getElem?.1 hp
    have hml:=(Kr.1 hm).1
    refine .inr ⟨m,p,hml,?_,hk⟩
    rw[hq,List.append_assoc,List.getElem?_append_left hml,hm]
  ·refine ih (fun y hy=>?_) j i (by simp;omega) hi
   rcases List.mem_append.1 hy with hy|hy
   ·exact .inr ⟨x,by simp,hy⟩
   ·rcases ht y (List.mem_cons_of_mem _ hy) with h1|⟨p,hp,hk⟩
    ·exact .inl h1
    ·exact .inr ⟨p,List.mem_append_left _ hp,hk⟩
theorem Good.from {g:Gr} (h:Good g) {j:Nat} {i:Int} (hi:(Xa9 g)[j]?=some i) (hj:0 < j):∃ (m:Nat) (p:Int),m < j/\(Xa9 g)[m]?=some p/\i∈kd g p:=by
 rcases h.walk.from (r0:=g.root) (by simp) j i (Nat.zero_le _) hi with e|e
 ·subst e
  obtain⟨r,hr⟩:=h.whead
  have h0:(Xa9 g)[0]?=some g.root:=by rw[hr];rfl
  have h1:=Xn6 h.wnodup hi
  have h2:=Xn6 h.wnodup h0
  omega
 ·exact e
theorem Good.reroot {g:Gr} (h:Good g) {r:Int} (hr:0<=r/\r < g.l.length):Good ⟨r,g.l⟩ where
 c:=Ybm h.len hr (Xki h.c).2.2
 s:=h.s
theorem Good.sub {g:Gr} (h:Good g) {r:Int} (hr:r∈Xa9 g):∀ i∈Xa9 ⟨r,g.l⟩,i∈Xa9 g :=
 (h.reroot (h.wIn r hr)).walk.all (P:=fun i=>i∈Xa9 g) (by simpa using hr) (by simp) fun i hi=>h.wclosed i hi
def Wyy (g:Gr):Prop:=chk g=none/\g=Xau g
open Go.Proofs.Tryz renaming prog->QP
variable {gp:Heap}
def Yi8 (k:Nat) (l:List Int):List (V × V):=(l.zipIdx k).map fun p=>(vi p.1,vi (p.2:Int))
def ent (l:List Int):List (V × V):=Yi8 0 l
theorem Xhh (a b:Int):eqV false [.i] (vi a) (vi b)=some (decide (a=b)):=by
 simp only[go_sem]
 rw[Bool.eq_iff_iff.2 (show (a==b)=true↔decide (a=b)=true by simp)]
theorem Xmm (k:Nat) (a:Int) (l:List Int):Yi8 k (a::l)=(vi a,vi (k:Int))::Yi8 (k+1) l:=by simp[Yi8,List.zipIdx_cons]
theorem Xry:∀ (l:List Int) (k:Nat) (x:Int),Xc9 false [.i] (Yi8 k l) (vi x)=some (if x∈l then some (vi ((l.idxOf x+k:Nat):Int)) else none)
 | [],k,x=>by simp[Yi8,Xc9]
 | a::l,k,x=>by
  rw[Xmm]
  simp only[Xc9,Xhh]
  by_cases h:x=a
  ·subst h;simp
  ·have h':¬ a=x:=fun e=>h e.symm
   simp only[h,decide_false,Xry l (k+1) x,List.mem_cons,false_or]
   split
   ·rw[List.idxOf_cons]
    have:(a==x)=false:=by simp[h']
    rw[this]
    simp;omega
   ·rfl
theorem Xpo (l:List Int) (x:Int):Xc9 false [.i] (ent l) (vi x)=some (if x∈l then some (vi (l.idxOf x:Int)) else none):=Xry l 0 x
theorem Xyk:∀ (l:List Int) (k:Nat) (x:Int),x ∉ l->Xkq false [.i] (Yi8 k l) (vi x) (vi ((k+l.length:Nat):Int))=some (Yi8 k (l++[x]))
 | [],k,x,_=>by simp[Yi8,Xkq]
 | a::l,k,x,h=>by
  simp only[List.mem_cons,not_or] at h
  rw[Xmm,List.cons_append,Xmm]
  have ih:=Xyk l (k+1) x h.2
  rw[show k+1+l.length=k+(a::l).length from by simp;omega] at ih
  simp only[Xkq,Xhh,h.1,decide_false,ih]
theorem Wcq {l:List Int} {x:Int} (h:x ∉ l):Xkq false [.i] (ent l) (vi x) (vi (l.length:Int))=some (ent (l++[x])):=by
 have:=Xyk l 0 x h
 rwa [Nat.zero_add] at this
theorem Ydw (l:List Int):(ent l).length=l.length:=by simp[ent,Yi8]
theorem Xed (l:List Int):(Ch.map (ent l)).refs=[]:=by
 simp only[Ch.refs]
 rw[List.flatMap_eq_nil_iff]
 intro e he
 obtain⟨a,_,rfl⟩:=List.mem_map.1 he
 rfl
theorem Xpp (l:List Int) (j:Nat) (c:Ch):Yi6 j c (.map (ent l))=.map (ent l):=by
 simp only[Yi6,Ch.map.injEq]
 conv=>rhs;rw[<- List.map_id (ent l)]
 apply List.map_congr_left
 intro e he
 obtain⟨a,_,rfl⟩:=List.mem_map.1 he
 rfl
theorem Ydx:ent []=[]:=rfl
abbrev wkC (g:Gr):Ch:=.cells [.d (.int .i64 g.root),.d (.sl (nds g.l)),.own 0 0]
theorem W0s (g:Gr):Tri QP gp 48 [g.v] [] fun r post=>r=.one (.ptr 1 0)/\post=[.map (ent []),wkC g]:=by
 refine Wb5 ?_
 simp only[go_sem]
 repeat' first|refine Kn rfl ?_|((first|refine Ka ?_|refine Kb ?_|refine Kv ?_|refine Ke ?_);simp only[go_sem])|refine Kf ?_|refine Kg ?_|apply Kp<;>intro _|((first|refine Kh ?_|refine Ki rfl ?_);simp only[or_self,Qs,Qt,Qu,Qv,Qw,Qx,Qy,Qz,Za,go_sem])
 rfl
theorem Wcr (es:List (V × V)) (cs:List A):Tri QP gp 73 [.one (.ptr 1 0)] [.map es,.cells cs] fun r post =>
  r=.one (.clo (.func 111) [.ptr 2 0])/\post=[.map es,.cells cs,.cells [.ptr 1 0]]:=by
 refine Wcd ?_
 simp only[go_sem]
 repeat' first|refine Kn rfl ?_|((first|refine Ka ?_|refine Kb ?_|refine Kv ?_|refine Ke ?_);simp only[go_sem])|refine Kf ?_|refine Kg ?_|apply Kp<;>intro _|((first|refine Kh ?_|refine Ki rfl ?_);simp only[or_self,Qs,Qt,Qu,Qv,Qw,Qx,Qy,Qz,Za,go_sem])
theorem Wcs (l st:List Int) (v:Nat) (hb:st.length+l.length < 1000000):Tri QP gp 112 [.one (.d (.sl (Xaf l))),.one (.ptr 1 0)] [.row 1 v (Xaf st),.cells [.own 0 v]] fun r post =>
  r=.tup []/\post=[.row 1 (v+l.length) (Xaf (st++l.reverse)),.cells [.own 0 (v+l.length)]]:=by
 refine Yn0 ?_
 simp only[go_sem]
 have hd0:inK .i64 ((l.length:Int) - 1):=Xtq (by unfold lenMax;omega)
 repeat' first|refine Kn rfl ?_|((first|refine Ka ?_|refine Kb ?_|refine Kv ?_|refine Ke ?_);simp only[go_sem])|refine Kf ?_|refine Kg ?_|refine⟨hd0,?_⟩|apply Kp<;>intro _|((first|refine Kh ?_|refine Ki rfl ?_);simp only[or_self,Qs,Qt,Qu,Qv,Qw,Qx,Qy,Qz,Za,go_sem])
 have e0:(l.length:Int) - 1=(l.length:Int) - 1 - ((0:Nat):Int):=by omega
 rw[e0]
 refine Kt (fr 18 [(0,.one (.d (.sl (Xaf l)))),(1,.one (.ptr 1 0)),(3,vi ((l.length:Int) - 1 - ((0:Nat):Int)))]) ?_
 refine Km (fun mz sz=>∃ i:Nat,i<=l.length/\mz=l.length - i/\sz=⟨fr 18 [(0,.one (.d (.sl (Xaf l)))),(1,.one (.ptr 1 0)),(3,vi ((l.length:Int) - 1 - (i:Int)))],[.row 1 (v+i) (Xaf (st++l.reverse.take i)),.cells [.own 0 (v+i)]]⟩) l.length ⟨0,Nat.zero_le _,rfl,by simp⟩ ?_
 rintro _ _ ⟨i,hi,rfl,rfl⟩
 simp only[go_sem]
 by_cases hil:i < l.length
 ·obtain⟨x,hx⟩:=Xal (l:=l.reverse) (i:=i) (by simpa using hil)
  have hx2:l[((l.length:Int) - 1 - (i:Int)).toNat]?=some x:=by
   rw[List.getElem?_reverse hil] at hx
   rw[show ((l.length:Int) - 1 - (i:Int)).toNat=l.length - 1 - i from by omega]
   exact hx
  have hl2:(st++l.reverse.take i).length=st.length+i:=by simp;omega
  repeat' first|refine Kn rfl ?_|((first|refine Ka ?_|refine Kb ?_|refine Kv ?_|refine Ke ?_);simp only[go_sem])|refine Kf ?_|refine Kg ?_|refine⟨_,⟨by omega,Xad hx2,rfl⟩,Kg ?_⟩|(apply Kp<;>intro _<;>try (exfalso;omega))|((first|refine Kh ?_|refine Ki rfl ?_);simp only[or_self,Qs,Qt,Qu,Qv,Qw,Qx,Qy,Qz,Za,go_sem])
  refine⟨by simp,by simp only[List.length_map,hl2];omega,by simp only[List.length_map,hl2];unfold lenMax;omega,?_⟩
  rw[show Xaf (st++l.reverse.take i)++[_]=Xaf (st++l.reverse.take (i+1)) from by rw[<- Xca hx];simp[Xaf]]
  repeat' first|refine Kn rfl ?_|((first|refine Ka ?_|refine Kb ?_|refine Kv ?_|refine Ke ?_);simp only[go_sem])|refine Kf ?_|refine Kg ?_|apply Kp<;>intro _|((first|refine Kh ?_|refine Ki rfl ?_);simp only[or_self,Qs,Qt,Qu,Qv,Qw,Qx,Qy,Qz,Za,go_sem])
  have e1:(l.length:Int) - 1 - (i:Int) - 1=(l.length:Int) - 1 - ((i+1:Nat):Int):=by omega
  rw[e1]
  refine⟨by unfold inK;simp[IntKind.min,IntKind.max,IntKind.signed,IntKind.bits];omega,?_⟩
  refine Kt (fr 18 [(0,.one (.d (.sl (Xaf l)))),(1,.one (.ptr 1 0)),(3,vi ((l.length:Int) - 1 - ((i+1:Nat):Int)))]) ?_
  exact Kl ⟨l.length - (i+1),by omega,i+1,by omega,rfl,rfl⟩
 ·obtain rfl:l.length=i:=by omega
  repeat' first|refine Kn rfl ?_|((first|refine Ka ?_|refine Kb ?_|refine Kv ?_|refine Ke ?_);simp only[go_sem])|refine Kf ?_|refine Kg ?_|(apply Kp<;>intro _<;>try (exfalso;omega))|((first|refine Kh ?_|refine Ki rfl ?_);simp only[or_self,Qs,Qt,Qu,Qv,Qw,Qx,Qy,Qz,Za,go_sem])
  rw[List.take_of_length_le (by simp)]
theorem Wsd {g:Gr} (hg:Good g):Tri QP gp 49 [.one (.ptr 1 0)] [.map (ent []),wkC g] fun r post =>
  r=.one (.d (.sl (Xaf (Xa9 g))))/\post=[.map (ent (Xa9 g)),wkC g]:=by
 have hw0:=hg.walk
 have hwn:=hg.wlen
 have hgl:=hg.len
 generalize Xa9 g=W at *
 refine Wb7 ?_
 simp only[go_sem]
 repeat' first|refine Kn rfl ?_|((first|refine Ka ?_|refine Kb ?_|refine Kv ?_|refine Ke ?_);simp only[go_sem])|refine Kf ?_|refine Kg ?_|apply Kp<;>intro _|((first|refine Kh ?_|refine Ki rfl ?_);simp only[or_self,Qs,Qt,Qu,Qv,Qw,Qx,Qy,Qz,Za,go_sem])
 refine Or.inr (Or.inr ⟨[0,1],.one (.clo (.func 111) [.ptr 2 0]),[.map (ent []),wkC g,.cells [.ptr 1 0]],(by simp only[Xaw,go_sem];exact⟨Wsa,Wcr _ _⟩),Kg ?_⟩)
 simp only[Ydx,go_sem]
 repeat' first|refine Kn rfl ?_|((first|refine Ka ?_|refine Kb ?_|refine Kv ?_|refine Ke ?_);simp only[go_sem])|refine Kf ?_|refine Kg ?_|apply Kp<;>intro _|((first|refine Kh ?_|refine Ki rfl ?_);simp only[or_self,Qs,Qt,Qu,Qv,Qw,Qx,Qy,Qz,Za,go_sem])
 refine Xhf 2 0 1 (by decide) rfl rfl ?_
 simp only[go_sem]
 refine Y0b (f2:=111) (caps:=[.one (.ptr 3 0)]) (fun pd own'=>pd=none/\∃ rest,own'=.map (ent W)::wkC g::.cells [.own 5 W.length]::.cells [.ptr 1 0]::.dead::.row 1 W.length (Xaf W)::rest) rfl ?_ Wcj ?_ ?_ ?_
 ·intro y;simp only[go_sem]
 ·rintro b rc hps ⟨hs,hta,htb⟩
  refine Ynz ?_
  simp only[go_sem]
  repeat' first|refine Kn rfl ?_|((first|refine Ka ?_|refine Kb ?_|refine Kv ?_|refine Ke ?_);simp only[go_sem])|refine Kf ?_|refine Kg ?_|apply Kp<;>intro _|((first|refine Kh ?_|refine Ki rfl ?_);simp only[or_self,Qs,Qt,Qu,Qv,Qw,Qx,Qy,Qz,Za,go_sem])
  refine Kt (fr 67 [(0,.one (.d (.raw (.func (.yield b) #[] #[])))),(1,.one (.ptr 3 0)),(3,.one (.ptr 8 0)),(4,.one (.clo (.func 112) [.ptr 8 0]))]) ?_
  refine Km (fun mz sz=>∃ (t out:List Int) (v:Nat),mz=(g.l.length - out.length)*13+t.length/\Walks (kd g) t out W/\out.Nodup/\(∀ i∈out,0<=i/\i < g.l.length)/\(∀ i∈t,0<=i/\i < g.l.length)/\t.length<=1+12*out.length/\sz=⟨fr 67 [(0,.one (.d (.raw (.func (.yield b) #[] #[])))),(1,.one (.ptr 3 0)),(3,.one (.ptr 8 0)),(4,.one (.clo (.func 112) [.ptr 8 0]))],[.map (ent out),wkC g,.cells [.own 5 out.length],.cells [.ptr 1 0],.dead,.row 1 out.length (Xaf out),.lp b _ rc .ready none,.row 1 v (Xaf t.reverse),.cells [.own 7 v]]⟩) _ ⟨[g.root],[],0,rfl,hw0,by simp,by simp,by simpa using hg.root,by simp,rfl⟩ ?_
  rintro _ _ ⟨t,out,v,rfl,hw,hn,hio,hit,ht,rfl⟩
  have hol:out.length<=g.l.length:=Xd0 hn hio
  cases t with
  | nil =>
   obtain rfl:=hw.nil_inv
   simp only[List.reverse_nil,go_sem]
   repeat' first|refine Kn rfl ?_|((first|refine Ka ?_|refine Kb ?_|refine Kv ?_|refine Ke ?_);simp only[List.reverse_nil,go_sem])|refine Kf ?_|refine Kg ?_|(apply Kp<;>intro _<;>try (exfalso;omega))|((first|refine Kh ?_|refine Ki rfl ?_);simp only[List.reverse_nil,or_self,Qs,Qt,Qu,Qv,Qw,Qx,Qy,Qz,Za,go_sem])
   exact⟨.ready,none,rfl,by simp,rfl,_,rfl⟩
  | cons i r =>
   have hlen:(r.reverse++[i]).length=r.length+1:=by simp
   have hm1:((r.length+1:Nat):Int) - 1=(r.length:Int):=by omega
   have hget:(Xaf (r.reverse++[i]))[r.length]?=some [.int .i64 i]:=Xad (by rw[List.getElem?_append_right (by simp)];simp)
   have hik:inK .i64 (r.length:Int):=by rw[<- hm1];exact Xtq (by simp at ht;unfold lenMax;omega)
   have htk:(Xaf (r.reverse++[i])).take r.length=Xaf r.reverse:=by
    simp only[Xaf,<- List.map_take]
    rw[List.take_append_of_le_length (by simp),List.take_of_length_le (by simp)]
   simp only[List.reverse_cons]
   simp only[go_sem]
   by_cases hm:i∈out
   ·have hf:=Xpo out i
    simp only[hm,if_true] at hf
    repeat' first|refine Kn rfl ?_|((first|refine Ka ?_|refine Kb ?_|refine Kv ?_|refine Ke ?_);simp only[hlen,hm1,go_sem])|refine Kf ?_|refine Kg ?_|refine⟨hik,?_⟩|refine⟨Kq _,Nat.lt_succ_self _,?_⟩|refine⟨_,⟨hget,Nat.le_refl _⟩,Kg ?_⟩|refine⟨0,r.length,⟨rfl,rfl,Nat.zero_le _,Nat.le_succ _⟩,Kg ?_⟩|refine⟨_,⟨hf,rfl⟩,Kg ?_⟩|(apply Kp<;>intro _<;>try (exfalso;omega))|((first|refine Kh ?_|refine Ki rfl ?_);simp only[hlen,hm1,or_self,Qs,Qt,Qu,Qv,Qw,Qx,Qy,Qz,Za,go_sem])
    rw[htk]
    refine Kt (fr 67 [(0,.one (.d (.raw (.func (.yield b) #[] #[])))),(1,.one (.ptr 3 0)),(3,.one (.ptr 8 0)),(4,.one (.clo (.func 112) [.ptr 8 0]))]) ?_
    exact Kl ⟨(g.l.length - out.length)*13+r.length,by omega,r,out,v+1,rfl,hw.skip_inv hm,hn,hio,fun j hj=>hit j (List.mem_cons_of_mem _ hj),by simp at ht;omega,rfl⟩
   ·have hf:=Xpo out i
    simp only[hm,if_false] at hf
    have hput:=Wcq hm
    have hii:=hit i (by simp)
    have hn':(out++[i]).Nodup:=by
     refine List.nodup_append.2 ⟨hn,by simp,?_⟩
     intro a ha c hc;simp at hc;subst hc;rintro rfl;exact hm ha
    have hio':∀ j∈out++[i],0<=j/\j < g.l.length:=fun j hj=>by
     rcases List.mem_append.1 hj with hj|hj
     ·exact hio j hj
     ·simp at hj;subst hj;exact hii
    have hol':out.length+1<=g.l.length:=by have:=Xd0 hn' hio';simpa using this
    repeat' first|refine Kn rfl ?_|((first|refine Ka ?_|refine Kb ?_|refine Kv ?_|refine Ke ?_);simp only[hlen,hm1,Ydw,go_sem])|refine Kf ?_|refine Kg ?_|refine⟨hik,?_⟩|refine⟨Kq _,Nat.lt_succ_self _,?_⟩|refine⟨_,⟨hget,Nat.le_refl _⟩,Kg ?_⟩|refine⟨0,r.length,⟨rfl,rfl,Nat.zero_le _,Nat.le_succ _⟩,Kg ?_⟩|refine⟨_,⟨hf,rfl⟩,Kg ?_⟩|refine⟨_,hput,Kg ?_⟩|(apply Kp<;>intro _<;>try (exfalso;omega))|((first|refine Kh ?_|refine Ki rfl ?_);simp only[hlen,hm1,Ydw,or_self,Qs,Qt,Qu,Qv,Qw,Qx,Qy,Qz,Za,go_sem])
    rw[htk]
    refine⟨[.map (ent (out++[i])),wkC g,.cells [.own 5 (out.length+1)],.cells [.ptr 1 0],.dead,.row 1 (out.length+1) (Xaf (out++[i])),.lp b _ rc .ready none,.row 1 (v+1) (Xaf r.reverse),.cells [.own 7 (v+1)]],true,by simp,⟨6,_,rc,hs,_,_,[.map (ent (out++[i])),wkC g,.cells [.own 5 (out.length+1)],.cells [.ptr 1 0],.dead,.row 1 (out.length+1) (Xaf (out++[i])),.dead,.row 1 (v+1) (Xaf r.reverse),.cells [.own 7 (v+1)]],none,rfl,by rw[<- Array.length_toList,hps];rfl,hta,htb,?_,rfl,rfl⟩,Kg ?_⟩
    ·rw[hps]
     simp only[go_sem]
     repeat' first|refine Kn rfl ?_|((first|refine Ka ?_|refine Kb ?_|refine Kv ?_|refine Ke ?_);simp only[go_sem])|refine Kf ?_|refine Kg ?_|apply Kp<;>intro _|((first|refine Kh ?_|refine Ki rfl ?_);simp only[or_self,Qs,Qt,Qu,Qv,Qw,Qx,Qy,Qz,Za,go_sem])
     refine Xfy ⟨rfl,?_⟩
     repeat' first|refine Kn rfl ?_|((first|refine Ka ?_|refine Kb ?_|refine Kv ?_|refine Ke ?_);simp only[go_sem])|refine Kf ?_|refine Kg ?_|apply Kp<;>intro _|((first|refine Kh ?_|refine Ki rfl ?_);simp only[or_self,Qs,Qt,Qu,Qv,Qw,Qx,Qy,Qz,Za,go_sem])
     refine⟨by simp,by omega,by unfold lenMax;omega,?_⟩
     rw[show Xaf out++[[D.int IntKind.i64 i]]=Xaf (out++[i]) from by simp[Xaf]]
     repeat' first|refine Kn rfl ?_|((first|refine Ka ?_|refine Kb ?_|refine Kv ?_|refine Ke ?_);simp only[go_sem])|refine Kf ?_|refine Kg ?_|apply Kp<;>intro _|((first|refine Kh ?_|refine Ki rfl ?_);simp only[or_self,Qs,Qt,Qu,Qv,Qw,Qx,Qy,Qz,Za,go_sem])
     exact Xfy ⟨⟨rfl,rfl⟩,rfl⟩
    ·simp only[go_sem]
     have hk:=kids (gp:=gp) g i hg.s
     have hkl:=Ydq hg.s i
     repeat' first|refine Kn rfl ?_|((first|refine Ka ?_|refine Kb ?_|refine Kv ?_|refine Ke ?_);simp only[go_sem])|refine Kf ?_|refine Kg ?_|refine⟨_,hk,Kg ?_⟩|refine⟨_,⟨hk,rfl⟩,Kg ?_⟩|apply Kp<;>intro _|((first|refine Kh ?_|refine Ki rfl ?_);simp only[or_self,Qs,Qt,Qu,Qv,Qw,Qx,Qy,Qz,Za,go_sem])
     refine Or.inr (Or.inr ⟨[7,8],.tup [],[.row 1 (v+1+(kd g i).length) (Xaf (r.reverse++(kd g i).reverse)),.cells [.own 0 (v+1+(kd g i).length)]],(by simp only[Xaw,go_sem];exact⟨Wco,Wcs (kd g i) r.reverse (v+1) (by simp at ht ⊢;omega)⟩),Kg ?_⟩)
     simp only[go_sem]
     repeat' first|refine Kn rfl ?_|((first|refine Ka ?_|refine Kb ?_|refine Kv ?_|refine Ke ?_);simp only[go_sem])|refine Kf ?_|refine Kg ?_|apply Kp<;>intro _|((first|refine Kh ?_|refine Ki rfl ?_);simp only[or_self,Qs,Qt,Qu,Qv,Qw,Qx,Qy,Qz,Za,go_sem])
     rw[show r.reverse++(kd g i).reverse=(kd g i++r).reverse from by rw[List.reverse_append]]
     refine Kt (fr 67 [(0,.one (.d (.raw (.func (.yield b) #[] #[])))),(1,.one (.ptr 3 0)),(3,.one (.ptr 8 0)),(4,.one (.clo (.func 112) [.ptr 8 0]))]) ?_
     refine Kk 9 (by simp only[List.length_nil,List.length_cons];decide) (by simp only[go_sem]) (by simp only[List.take_succ_cons,List.take_zero,List.all_cons,List.all_nil,Xed];simp only[go_sem]) ?_
     simp only[go_sem]
     have hlo:(out++[i]).length=out.length+1:=by simp
     rw[<- hlo]
     exact Kl ⟨(g.l.length - (out.length+1))*13+((kd g i).length+r.length),by omega,kd g i++r,out++[i],v+1+(kd g i).length,by rw[hlo,List.length_append],hw.step_inv hm,hn',hio',fun j hj=>by
      rcases List.mem_append.1 hj with hj|hj
      ·exact hg.kid i j hj
      ·exact hit j (List.mem_cons_of_mem _ hj),by simp only[List.length_append,List.length_cons,List.length_nil] at ht ⊢;omega,rfl⟩
 ·rintro own' ⟨_,rest,rfl⟩
  simp only[go_sem]
  refine Kk 6 (by simp only[List.length_nil,List.length_cons];decide) (by simp only[go_sem]) (by simp only[List.take_succ_cons,List.take_zero,List.all_cons,List.all_nil,Xed];simp only[go_sem]) ?_
  simp only[go_sem]
  refine Xa6 5 ?_
  simp only[Yq5,Xaj,List.map_cons,List.map_nil,Xpp]
  simp only[go_sem]
  repeat refine Ko rfl ?_
  refine Ka ?_
  simp only[go_sem]
  refine Kt (fr 13 [(2,.one (.d (.sl (Xaf W))))]) ?_
  refine Kk 2 (by simp only[List.length_nil,List.length_cons];decide) (by simp only[go_sem]) (by simp only[List.take_succ_cons,List.take_zero,List.all_cons,List.all_nil,Xed];simp only[go_sem]) ?_
  simp only[go_sem]
  refine Ki rfl ?_
  simp only[or_self,Qs,Qt,Qu,Qv,Qw,Qx,Qy,Qz,Za,go_sem]
 ·rintro _ _ ⟨h,_⟩;cases h
def W0t (g:Gr):Prop:=chk g=none
noncomputable section
def Xnf (g:Gr):Int:=((chk g).getD (0,0)).2
def wOf (g:Gr):List Int:=if chk g=none then Xa9 g else []
def tOf (g:Gr):Gr:=if chk g=none then Xau g else ⟨0,[]⟩
def aOf (g:Gr) (ps:List Int):Option Int:=if chk g=none then atG g ps else none
end
theorem Xhi {g:Gr} (h:chk g=none):Xnf g=0:=by unfold Xnf;rw[h];rfl
theorem Xio {g:Gr} (h:chk g≠none):Xnf g≠0:=by
 obtain⟨a,e,hs,he⟩:=Ym8 h
 unfold Xnf;rw[hs];exact he
theorem Wct {l:List Int} {φ:Int->Int} {i:Nat} {x:Int} (h:l[i]?=some x):((l.take i).map φ++l.drop i).set i (φ x)=(l.take (i+1)).map φ++l.drop (i+1):=by
 obtain⟨hi,rfl⟩:=Kr.1 h
 have hl:((l.take i).map φ).length=i:=by simp;omega
 rw[List.set_append_right _ _ (by omega),hl,Nat.sub_self,List.drop_eq_getElem_cons hi,List.set_cons_zero]
 have e:l.take (i+1)=l.take i++[l[i]]:=by rw[List.take_succ,List.getElem?_eq_getElem hi];rfl
 rw[e,List.map_append,List.append_assoc]
 rfl
theorem Ydy {l:List Int} {φ:Int->Int} {i:Nat} {x:Int} (h:l[i]?=some x):((l.take i).map φ++l.drop i)[i]?=some x:=by
 obtain⟨hi,rfl⟩:=Kr.1 h
 have hl:((l.take i).map φ).length=i:=by simp;omega
 rw[List.getElem?_append_right (by omega),hl,Nat.sub_self,List.getElem?_drop,Nat.add_zero,List.getElem?_eq_getElem hi]
theorem Xpq (l:List Int) (i:Nat) (x:Int):(Xaf l).set i [.int .i64 x]=Xaf (l.set i x):=by simp[Xaf,List.map_set]
theorem Yn2 (l:List Int):∀ p∈Xaf l,p.length=1:=by
 intro p hp
 obtain⟨a,_,rfl⟩:=List.mem_map.1 hp
 rfl
theorem Yn3 {g:Gr} (W l:List Int) (hl:l.length<=1000) (hw:∀ i∈l,i∈W):Tri QP gp 52 [.one (.ptr 1 0),.one (.d (.sl (Xaf l)))] [.map (ent W),wkC g] fun r post =>
  r=.one (.d (.sl (Xaf (l.map fun i=>(W.idxOf i:Int)))))/\post=[.map (ent W),wkC g]:=by
 refine Wcc ?_
 simp only[go_sem]
 have hlm:(l.length:Int) < (lenMax:Int):=by unfold lenMax;omega
 have hlb:(l.length:Int)*8<=140737488355328:=by omega
 have hrl:l.length=(List.replicate l.length [D.int .i64 0]).length:=by simp
 repeat' first|refine Kn rfl ?_|((first|refine Ka ?_|refine Kb ?_|refine Kv ?_|refine Ke ?_);simp only[Xf4,go_sem])|refine Kf ?_|refine Kg ?_|refine⟨Kq _,hlb,hlm,?_⟩|refine⟨Yn2 l,hrl,?_⟩|apply Kp<;>intro _|((first|refine Kh ?_|refine Ki rfl ?_);simp only[Xf4,or_self,Qs,Qt,Qu,Qv,Qw,Qx,Qy,Qz,Za,go_sem])
 rw[show Ch.row 1 0 (Xaf l)=Ch.row 1 0 (Xaf ((l.take 0).map (fun i=>(W.idxOf i:Int))++l.drop 0)) from by simp]
 refine Kt (fr 32 [(0,.one (.ptr 1 0)),(1,.one (.d (.sl (Xaf l)))),(5,.one (.own 2 0)),(14,.one (.own 2 0)),(15,vi l.length),(16,vi (0:Nat))]) ?_
 refine Km (fun mz sz=>∃ i:Nat,i<=l.length/\mz=l.length - i/\(0<=i)/\sz=⟨fr 32 [(0,.one (.ptr 1 0)),(1,.one (.d (.sl (Xaf l)))),(5,.one (.own 2 0)),(14,.one (.own 2 0)),(15,vi l.length),(16,vi i)],[.map (ent W),wkC g,.row 1 0 (Xaf ((l.take i).map (fun i=>(W.idxOf i:Int))++l.drop i))]⟩) (l.length) ⟨0,Nat.zero_le _,(Nat.sub_zero _).symm,?_,rfl⟩ ?_
 ·exact Nat.zero_le _
 rintro _ _ ⟨i,hi,rfl,-,rfl⟩
 simp only[go_sem]
 by_cases hil:i < l.length
 ·obtain⟨x,hx⟩:=Xal hil
  have hm:=hw x (List.mem_of_getElem? hx)
  have hget:=Xad (f:=fun n:Int=>[D.int .i64 n]) (Ydy (φ:=fun i=>(W.idxOf i:Int)) hx)
  have hset:=Wct (φ:=fun i=>(W.idxOf i:Int)) hx
  have hml:i < ((l.take i).map (fun i=>(W.idxOf i:Int))++l.drop i).length:=(Kr.1 (Ydy (φ:=fun i=>(W.idxOf i:Int)) hx)).1
  generalize hmd:(l.take i).map (fun i=>(W.idxOf i:Int))++l.drop i=md at *
  have hf:=Xpo W x
  simp only[hm,if_true] at hf
  repeat' first|refine Kn rfl ?_|((first|refine Ka ?_|refine Kb ?_|refine Kv ?_|refine Ke ?_);simp only[Xf4,go_sem])|refine Kf ?_|refine Kg ?_|refine⟨Kq _,hml,?_⟩|refine⟨_,⟨hget,Nat.le_refl _⟩,Kg ?_⟩|refine⟨_,⟨hf,rfl⟩,Kg ?_⟩|(apply Kp<;>intro _<;>try (exfalso;omega))|((first|refine Kh ?_|refine Ki rfl ?_);simp only[Xf4,or_self,Qs,Qt,Qu,Qv,Qw,Qx,Qy,Qz,Za,go_sem])
  rw[show (Xaf md).set i _=Xaf (md.set i (W.idxOf x:Int)) from Xpq md i _,hset]
  repeat' first|refine Kn rfl ?_|((first|refine Ka ?_|refine Kb ?_|refine Kv ?_|refine Ke ?_);simp only[Xf4,go_sem])|refine Kf ?_|refine Kg ?_|apply Kp<;>intro _|((first|refine Kh ?_|refine Ki rfl ?_);simp only[Xf4,or_self,Qs,Qt,Qu,Qv,Qw,Qx,Qy,Qz,Za,go_sem])
  refine⟨Xaq hil (by unfold lenMax;omega),?_⟩
  refine Kt (fr 32 [(0,.one (.ptr 1 0)),(1,.one (.d (.sl (Xaf l)))),(5,.one (.own 2 0)),(14,.one (.own 2 0)),(15,vi l.length),(16,vi (i+1))]) ?_
  refine Kl ⟨l.length - (i+1),by omega,i+1,by omega,rfl,?_,rfl⟩
  exact Nat.zero_le _
 ·obtain rfl:l.length=i:=by omega
  rw[List.take_of_length_le (Nat.le_refl l.length),List.drop_of_length_le (Nat.le_refl l.length),List.append_nil]
  repeat' first|refine Kn rfl ?_|((first|refine Ka ?_|refine Kb ?_|refine Kv ?_|refine Ke ?_);simp only[go_sem])|refine Kf ?_|refine Kg ?_|(apply Kp<;>intro _<;>try (exfalso;omega))|((first|refine Kh ?_|refine Ki rfl ?_);simp only[or_self,Qs,Qt,Qu,Qv,Qw,Qx,Qy,Qz,Za,go_sem])
  refine Xa6 2 ?_
  simp only[Yq5,Xaj,List.map_cons,List.map_nil,Xpp]
  simp only[go_sem]
  repeat refine Ko rfl ?_
  refine Ka ?_
  simp only[Xf4,go_sem]
  refine Kt (fr 32 [(4,.one (.d (.sl (Xaf (l.map fun i=>(W.idxOf i:Int))))))]) ?_
  refine Kk 2 (by simp only[List.length_nil,List.length_cons];decide) (by simp only[go_sem]) (by simp only[List.take_succ_cons,List.take_zero,List.all_cons,List.all_nil,Xed];simp only[go_sem]) ?_
  simp only[go_sem]
  refine Ki rfl ?_
  simp only[or_self,Qs,Qt,Qu,Qv,Qw,Qx,Qy,Qz,Za,go_sem]
set_option maxHeartbeats 1000000 in
theorem Ydz (h:Env gp) (g:Gr) (hs:Xc4 g):Does QP gp 25 [g.v] (.tup [(tOf g).v,vi (Xnf g)]):=by
 refine Wrj ?_
 simp only[go_sem]
 have c1:Does QP gp 47 [g.v] (.tup [vi ((chk g).getD (0,0)).1,vi (Xnf g)]):=Yu7 h g
 by_cases hc:chk g=none
 ·have he:=Xhi hc
  have ht:tOf g=Xau g:=by unfold tOf;rw[if_pos hc]
  rw[he] at c1 ⊢
  rw[ht]
  have hg:Good g:=⟨hc,hs⟩
  have hwn:=hg.wlen
  have hgl:=hg.len
  have hwi:=hg.wIn
  have hcl:=hg.wclosed
  have hT:Xau g=⟨0,(Xa9 g).map fun i=>Xbk (Xa9 g) (Xbb g.l i)⟩:=rfl
  have hww:=Wsd (gp:=gp) hg
  rw[hT]
  generalize Xa9 g=W at *
  repeat' first|refine Kn rfl ?_|((first|refine Ka ?_|refine Kb ?_|refine Kv ?_|refine Ke ?_);simp only[go_sem])|refine Kf ?_|refine Kg ?_|refine⟨_,c1,Kg ?_⟩|refine⟨_,⟨c1,rfl⟩,Kg ?_⟩|apply Kp<;>intro _|((first|refine Kh ?_|refine Ki rfl ?_);simp only[or_self,Qs,Qt,Qu,Qv,Qw,Qx,Qy,Qz,Za,go_sem])
  refine Xfk 23 ?_
  simp only[go_sem]
  repeat' first|refine Kn rfl ?_|((first|refine Ka ?_|refine Kb ?_|refine Kv ?_|refine Ke ?_);simp only[Xcq,go_sem])|refine Kf ?_|refine Kg ?_|apply Kp<;>intro _|((first|refine Kh ?_|refine Ki rfl ?_);simp only[Xcq,or_self,Qs,Qt,Qu,Qv,Qw,Qx,Qy,Qz,Za,go_sem])
  refine Or.inr ⟨[],.one (.ptr 1 0),[.map (ent []),wkC g],(by simp only[Xaw,go_sem];exact⟨Wrm,W0s g⟩),Kg ?_⟩
  simp only[Ydx,go_sem]
  repeat' first|refine Kn rfl ?_|((first|refine Ka ?_|refine Kb ?_|refine Kv ?_|refine Ke ?_);simp only[Xcq,go_sem])|refine Kf ?_|refine Kg ?_|apply Kp<;>intro _|((first|refine Kh ?_|refine Ki rfl ?_);simp only[Xcq,or_self,Qs,Qt,Qu,Qv,Qw,Qx,Qy,Qz,Za,go_sem])
  refine Or.inr (Or.inr ⟨[1,2],.one (.d (.sl (Xaf W))),[.map (ent W),wkC g],(by simp only[Xaw,go_sem];exact⟨Wru,hww⟩),Kg ?_⟩)
  simp only[bkO,bkC,Xed]
  simp only[go_sem]
  repeat' first|refine Kn rfl ?_|((first|refine Ka ?_|refine Kb ?_|refine Kv ?_|refine Ke ?_);simp only[Xcq,go_sem])|refine Kf ?_|refine Kg ?_|apply Kp<;>intro _|((first|refine Kh ?_|refine Ki rfl ?_);simp only[Xcq,or_self,Qs,Qt,Qu,Qv,Qw,Qx,Qy,Qz,Za,go_sem])
  refine Xhf 4 1 6 (by decide) rfl rfl ?_
  simp only[go_sem]
  refine Kt (fr 69 [(1,.one (.d (.bx [.int .i64 g.root,.sl (nds g.l)]))),(2,.one (.ptr 0 0)),(6,.one (.ptr 2 0)),(7,.one (.ptr 4 0)),(25,.one (.d (.sl (Xaf W)))),(26,vi W.length),(27,vi (0:Nat))]) ?_
  refine Km (fun mz sz=>∃ i:Nat,i<=W.length/\mz=W.length - i/\(0<=i)/\sz=⟨fr 69 [(1,.one (.d (.bx [.int .i64 g.root,.sl (nds g.l)]))),(2,.one (.ptr 0 0)),(6,.one (.ptr 2 0)),(7,.one (.ptr 4 0)),(25,.one (.d (.sl (Xaf W)))),(26,vi W.length),(27,vi i)],[.cells [.d (.int .i64 0),.nil],.map (ent W),.cells [.d (.int .i64 g.root),.d (.sl (nds g.l)),.own 1 0],.dead,.cells [.d (.int .i64 0),.own 6 i],.dead,.row 6 i (nds ((W.map fun i=>Xbk W (Xbb g.l i)).take i))]⟩) (W.length) ⟨0,Nat.zero_le _,(Nat.sub_zero _).symm,?_,rfl⟩ ?_
  ·exact Nat.zero_le _
  rintro _ _ ⟨i,hi,rfl,-,rfl⟩
  simp only[go_sem]
  by_cases hil:i < W.length
  ·obtain⟨j,hj⟩:=Xal hil
   have hjm:=List.mem_of_getElem? hj
   have hjr:=hwi j hjm
   obtain⟨n,rfl⟩:=Int.eq_ofNat_of_zero_le hjr.1
   obtain⟨x,hx⟩:=Xal (l:=g.l) (i:=n) (by omega)
   have hnd:Xbb g.l n=x:=by unfold Xbb;rw[if_pos hjr,Int.toNat_natCast,hx];rfl
   have hTj:(W.map fun i=>Xbk W (Xbb g.l i))[i]?=some (Xbk W x):=by rw[List.getElem?_map,hj,<- hnd];rfl
   have k1:=keys (gp:=gp) g n hs
   have k2:=kids (gp:=gp) g n hs
   rw[hnd] at k1 k2
   have hkl:=Xdt x 12 (hs x (List.mem_of_getElem? hx))
   have hkw:∀ i∈Xae x,i∈W:=by
    have:=hcl n hjm
    rw[kd,hnd] at this
    exact this
   repeat' first|refine Kn rfl ?_|((first|refine Ka ?_|refine Kb ?_|refine Kv ?_|refine Ke ?_);simp only[Xcq,go_sem])|refine Kf ?_|refine Kg ?_|refine⟨_,k1,Kg ?_⟩|refine⟨_,⟨k1,rfl⟩,Kg ?_⟩|refine⟨_,k2,Kg ?_⟩|refine⟨_,⟨k2,rfl⟩,Kg ?_⟩|refine⟨_,⟨Kq _,(by first|exact Xad hj|(rw[Int.toNat_natCast];exact Xad hj)),rfl⟩,Kg ?_⟩|refine⟨_,⟨Kq _,(by first|exact Xad hx|(rw[Int.toNat_natCast];exact Xad hx)),rfl⟩,Kg ?_⟩|(apply Kp<;>intro _<;>try (exfalso;omega))|((first|refine Kh ?_|refine Ki rfl ?_);simp only[Xcq,or_self,Qs,Qt,Qu,Qv,Qw,Qx,Qy,Qz,Za,go_sem])
   refine Or.inr (Or.inr ⟨[1,2],.one (.d (.sl (Xaf ((Xae x).map fun i=>(W.idxOf i:Int))))),[.map (ent W),wkC g],(by simp only[Xaw,Xcv,rnV,rnA,Xc1,rn0,Xc0,Xbz,Xcx,rnC,Xaj,List.isEmpty_nil,Xed,reduceCtorEq,↓reduceIte,Qa,Qb,Qc,Qd,Qe,Qf,Qg,Qh,Qi,Qj,Qk,Ql,Qm,Qn,Qo,Qp,Qq,Qr];simp only[go_sem];exact⟨Wr2,Yn3 W (Xae x) (by omega) hkw⟩),Kg ?_⟩)
   simp only[bkO,bkC,Xed]
   simp only[go_sem]
   have htl:((W.map fun i=>Xbk W (Xbb g.l i)).take i).length=i:=by simp;omega
   have h88:(((W.map fun i=>Xbk W (Xbb g.l i)).take i).length+1)*88<=140737488355328:=by rw[htl];omega
   have hlm:((W.map fun i=>Xbk W (Xbb g.l i)).take i).length+1 < lenMax:=by rw[htl];unfold lenMax;omega
   repeat' first|refine Kn rfl ?_|((first|refine Ka ?_|refine Kb ?_|refine Kv ?_|refine Ke ?_);simp only[Xcq,go_sem])|refine Kf ?_|refine Kg ?_|refine⟨by simp,h88,hlm,?_⟩|(apply Kp<;>intro _<;>try (exfalso;omega))|((first|refine Kh ?_|refine Ki rfl ?_);simp only[Xcq,or_self,Qs,Qt,Qu,Qv,Qw,Qx,Qy,Qz,Za,go_sem])
   rw[show nds ((W.map fun i=>Xbk W (Xbb g.l i)).take i)++[[D.int .i64 x.k,.int .i64 x.x.k,.int .i64 x.x.n,.str x.x.s,.sl (scs (Xai x)),.sl (Xaf ((Xae x).map fun i=>(W.idxOf i:Int)))]]=nds ((W.map fun i=>Xbk W (Xbb g.l i)).take (i+1)) from Xpf hTj]
   refine⟨Xaq hil (by unfold lenMax;omega),?_⟩
   refine Kt (fr 69 [(1,.one (.d (.bx [.int .i64 g.root,.sl (nds g.l)]))),(2,.one (.ptr 0 0)),(6,.one (.ptr 2 0)),(7,.one (.ptr 4 0)),(25,.one (.d (.sl (Xaf W)))),(26,vi W.length),(27,vi (i+1))]) ?_
   refine Kk 7 (by simp only[List.length_nil,List.length_cons];decide) (by simp only[go_sem]) (by simp only[List.take_succ_cons,List.take_zero,List.all_cons,List.all_nil,Xed];try simp only[go_sem]) ?_
   simp only[go_sem]
   refine Kl ⟨W.length - (i+1),by omega,i+1,by omega,rfl,?_,rfl⟩
   exact Nat.zero_le _
  ·obtain rfl:W.length=i:=by omega
   rw[List.take_of_length_le (by simp)]
   refine Xa6 6 ?_
   simp only[Yq5,Xaj,List.map_cons,List.map_nil,Xpp]
   simp only[go_sem]
   repeat' first|refine Kn rfl ?_|((first|refine Ka ?_|refine Kb ?_|refine Kv ?_|refine Ke ?_);simp only[Xcq,go_sem])|refine Kf ?_|refine Kg ?_|(apply Kp<;>intro _<;>try (exfalso;omega))|((first|refine Kh ?_|refine Ki rfl ?_);simp only[Xcq,or_self,Qs,Qt,Qu,Qv,Qw,Qx,Qy,Qz,Za,go_sem])
   all_goals trace_state
 ·have he:=Xio hc
  have ht:tOf g=⟨0,[]⟩:=by unfold tOf;rw[if_neg hc]
  rw[ht]
  generalize Xnf g=e at *
  repeat' first|refine Kn rfl ?_|((first|refine Ka ?_|refine Kb ?_|refine Kv ?_|refine Ke ?_);simp only[Xcq,go_sem])|refine Kf ?_|refine Kg ?_|refine⟨_,c1,Kg ?_⟩|refine⟨_,⟨c1,rfl⟩,Kg ?_⟩|apply Kp<;>intro _|((first|refine Kh ?_|refine Ki rfl ?_);simp only[Xcq,or_self,Qs,Qt,Qu,Qv,Qw,Qx,Qy,Qz,Za,go_sem])
  all_goals first|rfl|(exfalso;simp_all;done)|exact⟨rfl,rfl⟩
theorem Xyl {g:Gr} (h:Good g):tOf g=Xau g:=by unfold tOf;rw[if_pos h.c]
theorem Xpr (h:Env gp) (g:Gr) (hs:Xc4 g):Does QP gp 53 [g.v] (vb (decide (chk g=none/\g=Xau g))):=by
 refine Wr7 ?_
 simp only[go_sem]
 have c1:=Ydz h g hs
 by_cases hc:chk g=none
 ·rw[Xhi hc,Xyl ⟨hc,hs⟩] at c1
  repeat' first|refine Kn rfl ?_|((first|refine Ka ?_|refine Kb ?_|refine Kv ?_|refine Ke ?_);simp only[go_sem])|refine Kf ?_|refine Kg ?_|refine⟨_,c1,Kg ?_⟩|refine⟨_,⟨c1,rfl⟩,Kg ?_⟩|refine⟨_,Xmc g (Xau g),Kg ?_⟩|refine⟨_,⟨Xmc g (Xau g),rfl⟩,Kg ?_⟩|apply Kp<;>intro _|((first|refine Kh ?_|refine Ki rfl ?_);simp only[or_self,Qs,Qt,Qu,Qv,Qw,Qx,Qy,Qz,Za,go_sem])
  simp[hc]
 ·have he:=Xio hc
  generalize Xnf g=e at *
  repeat' first|refine Kn rfl ?_|((first|refine Ka ?_|refine Kb ?_|refine Kv ?_|refine Ke ?_);simp only[go_sem])|refine Kf ?_|refine Kg ?_|refine⟨_,c1,Kg ?_⟩|refine⟨_,⟨c1,rfl⟩,Kg ?_⟩|refine⟨_,Xmc g (tOf g),Kg ?_⟩|refine⟨_,⟨Xmc g (tOf g),rfl⟩,Kg ?_⟩|apply Kp<;>intro _|((first|refine Kh ?_|refine Ki rfl ?_);simp only[or_self,Qs,Qt,Qu,Qv,Qw,Qx,Qy,Qz,Za,go_sem])
  all_goals simp_all
end Go.Fw.L07
