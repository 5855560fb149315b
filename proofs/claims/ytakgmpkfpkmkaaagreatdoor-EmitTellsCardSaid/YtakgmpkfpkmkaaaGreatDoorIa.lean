/- Chapter 9,plain: pairs. -/
import Derived.Test.YtakgmpkfpkmkaaaGreatDoorEa
import Derived.Test.YtakgmpkfpkmkaaaGreatDoorL07L09Mini
set_option linter.all false
namespace Go.Fw.L07
open Go Go.Fw
open Go.Fw.Sh renaming intro->Kg
open Go.Fw renaming Xd2->Kf,Xcp->Kt,Xlj->Kk,Xco->Kl,Xeg->Km,Gx->Kn
open Go.Fw renaming Xdt->Kw, Xbs->Kw, Xbw->Kw, Xby->Kw, Xbz->Kw, Xhh->Kw, Xd3->Kw
open Go.Fw.Sh renaming intro->Kf
open Int renaming natCast_nonneg->Kq
open List renaming getElem?_eq_some_iff->Kr
open And renaming intro->Kp
set_option maxRecDepth 4000
abbrev Pp:=Int × Int
def X3e (x y:Nd):Bool:=decide (x.k=y.k) && (decide (x.x=y.x) && (decide (Xaq x=Xaq y) && decide (x.kids.length=y.kids.length)))
theorem Xcs {x y:Nd}:X3e x y=true↔x.k=y.k/\x.x=y.x/\Xaq x=Xaq y/\x.kids.length=y.kids.length:=by simp[X3e]
def Jhq (g h:Gr) (p:Pp):Bool:=X3e (Xbr g.l p.1) (Xbr h.l p.2)
def kdP (g h:Gr) (p:Pp):List Pp:=List.zip (kd g p.1) (kd h p.2)
inductive PW (f:Pp->Bool) (k:Pp->List Pp):List Pp->List Pp->List Pp->Bool->Prop
 | nil (out:List Pp):PW f k [] out out true
 | skip {p:Pp} {r out w:List Pp} {b:Bool}:p∈out->PW f k r out w b->PW f k (p::r) out w b
 | stop {p:Pp} {r out:List Pp}:p ∉ out->f p=false->PW f k (p::r) out (out++[p]) false
 | step {p:Pp} {r out w:List Pp} {b:Bool}:p ∉ out->f p=true->PW f k (k p++r) (out++[p]) w b->PW f k (p::r) out w b
section
variable {f:Pp->Bool} {k:Pp->List Pp}
theorem PW.det {t o w v:List Pp} {b c:Bool} (h:PW f k t o w b) (h':PW f k t o v c):w=v/\b=c:=by
 induction h with
 | nil=>cases h';exact⟨rfl,rfl⟩
 | skip hm _ ih =>
  cases h' with
  | skip _ h2=>exact ih h2
  | stop hn _=>exact absurd hm hn
  | step hn _ _=>exact absurd hm hn
 | stop hn hf =>
  cases h' with
  | skip hm _=>exact absurd hm hn
  | stop _ _=>exact⟨rfl,rfl⟩
  | step _ h2 _=>rw[hf] at h2;cases h2
 | step hn hf _ ih =>
  cases h' with
  | skip hm _=>exact absurd hm hn
  | stop _ h2=>rw[hf] at h2;cases h2
  | step _ _ h3=>exact ih h3
theorem PW.nil_inv {o w:List Pp} {b:Bool} (h:PW f k [] o w b):w=o/\b=true:=by cases h;exact⟨rfl,rfl⟩
theorem PW.skip_inv {p:Pp} {r o w:List Pp} {b:Bool} (h:PW f k (p::r) o w b) (hm:p∈o):PW f k r o w b:=by
 cases h with
 | skip _ h=>exact h
 | stop hn _=>exact absurd hm hn
 | step hn _ _=>exact absurd hm hn
theorem PW.step_inv {p:Pp} {r o w:List Pp} {b:Bool} (h:PW f k (p::r) o w b) (hm:p ∉ o) (hf:f p=true):PW f k (k p++r) (o++[p]) w b:=by
 cases h with
 | skip hn _=>exact absurd hn hm
 | stop _ h2=>rw[hf] at h2;cases h2
 | step _ _ h=>exact h
theorem PW.pre {t o w:List Pp} {b:Bool} (h:PW f k t o w b):∃ r,w=o++r:=by
 induction h with
 | nil out=>exact⟨[],by simp⟩
 | skip _ _ ih=>exact ih
 | stop _ _=>exact⟨_,rfl⟩
 | step _ _ _ ih =>
  obtain⟨r,hr⟩:=ih
  exact⟨_::r,by rw[hr,List.append_assoc];rfl⟩
theorem PW.sub {t o w:List Pp} {b:Bool} (h:PW f k t o w b) {p:Pp} (hp:p∈o):p∈w:=by
 obtain⟨r,rfl⟩:=h.pre
 exact List.mem_append_left _ hp
theorem Xi1 {o:List Pp} {p:Pp} (ho:o.Nodup) (hn:p ∉ o):(o++[p]).Nodup:=by
 refine List.nodup_append.2 ⟨ho,by simp,?_⟩
 intro a ha b hb;simp at hb;subst hb;rintro rfl;exact hn ha
theorem PW.nodup {t o w:List Pp} {b:Bool} (h:PW f k t o w b) (ho:o.Nodup):w.Nodup:=by
 induction h with
 | nil=>exact ho
 | skip _ _ ih=>exact ih ho
 | stop hn _=>exact Xi1 ho hn
 | step hn _ _ ih=>exact ih (Xi1 ho hn)
theorem PW.all {P:Pp->Prop} {t o w:List Pp} {b:Bool} (h:PW f k t o w b) (ht:∀ p∈t,P p) (ho:∀ p∈o,P p) (hk:∀ p,P p->∀ q∈k p,P q):∀ p∈w,P p:=by
 induction h with
 | nil=>exact ho
 | skip _ _ ih=>exact ih (fun i hi=>ht i (List.mem_cons_of_mem _ hi)) ho
 | stop _ _ =>
  intro q hq
  rcases List.mem_append.1 hq with hq|hq
  ·exact ho q hq
  ·simp only[List.mem_singleton] at hq;subst hq;exact ht _ (by simp)
 | @step p r out w b _ _ _ ih =>
  refine ih (fun j hj=>?_) (fun j hj=>?_)
  ·rcases List.mem_append.1 hj with hj|hj
   ·exact hk p (ht p (by simp)) j hj
   ·exact ht j (List.mem_cons_of_mem _ hj)
  ·rcases List.mem_append.1 hj with hj|hj
   ·exact ho j hj
   ·simp only[List.mem_singleton] at hj;subst hj;exact ht _ (by simp)
theorem PW.todo {t o w:List Pp} {b:Bool} (h:PW f k t o w b) (hb:b=true):∀ p∈t,p∈w:=by
 induction h with
 | nil=>intro i hi;cases hi
 | skip hm h ih =>
  intro i hi
  rcases List.mem_cons.1 hi with rfl|hi
  ·exact h.sub hm
  ·exact ih hb i hi
 | stop _ _=>cases hb
 | step hn hf h ih =>
  intro i hi
  rcases List.mem_cons.1 hi with rfl|hi
  ·exact h.sub (by simp)
  ·exact ih hb i (List.mem_append_right _ hi)
theorem PW.closed {t o w:List Pp} {b:Bool} (h:PW f k t o w b) (hb:b=true):∀ p∈w,p ∉ o->∀ q∈k p,q∈w:=by
 induction h with
 | nil=>intro i hi hn;exact absurd hi hn
 | skip _ _ ih=>exact ih hb
 | stop _ _=>cases hb
 | @step p r out w b hn hf h ih =>
  intro x hx hxo j hj
  by_cases e:x=p
  ·subst e;exact h.todo hb j (List.mem_append_left _ hj)
  ·exact ih hb x hx (by simp[hxo,e]) j hj
theorem PW.walks {k':Int->List Int} {φ:Pp->Int} {t o w:List Pp} {b:Bool} (h:PW f k t o w b) (hb:b=true) (hi:∀ p∈w,∀ q∈w,φ p=φ q->p=q) (hk:∀ p∈w,k' (φ p)=(k p).map φ):Walks k' (t.map φ) (o.map φ) (w.map φ):=by
 induction h with
 | nil=>exact .nil _
 | skip hm _ ih=>exact .skip (List.mem_map_of_mem hm) (ih hb hi hk)
 | stop _ _=>cases hb
 | @step p r out w b hn hf h ih =>
  have hpw:p∈w:=h.sub (by simp)
  refine .step ?_ ?_
  ·intro hm
   obtain⟨q,hq,e⟩:=List.mem_map.1 hm
   have:q=p:=hi q (h.sub (List.mem_append_left _ hq)) p hpw e
   subst this
   exact hn hq
  ·have:=ih hb hi hk
   rw[hk p hpw]
   simpa using this
theorem X2o {n:Nat} {l:List Pp} (hn:l.Nodup) (h:∀ p∈l,(0<=p.1/\p.1 < 200)/\(0<=p.2/\p.2 < 200)):l.length<=200000:=by
 have:=Xb9 (n:=200000) (l:=l.map fun p=>p.1*1000+p.2) (by
  rw[List.Nodup,List.pairwise_map]
  refine List.Pairwise.imp_of_mem ?_ hn
  intro a b ha hb hab e
  have h1:=h a ha
  have h2:=h b hb
  exact hab (Prod.ext (by omega) (by omega))) (by
  intro i hi
  obtain⟨p,hp,rfl⟩:=List.mem_map.1 hi
  have:=h p hp
  omega)
 simpa using this
theorem PW.ex (c:Nat) (hc:∀ p,(k p).length<=c) (hk:∀ p,∀ q∈k p,(0<=q.1/\q.1 < 200)/\(0<=q.2/\q.2 < 200)):∀ (z:Nat) (t o:List Pp),(200000 - o.length)*(c+1)+t.length<=z->o.Nodup->(∀ p∈o,(0<=p.1/\p.1 < 200)/\(0<=p.2/\p.2 < 200))->(∀ p∈t,(0<=p.1/\p.1 < 200)/\(0<=p.2/\p.2 < 200))->∃ w b,PW f k t o w b
 | z,[],o,_,_,_,_=>⟨o,true,.nil o⟩
 | 0,i::t,o,hf,_,_,_=>by simp at hf
 | z+1,i::t,o,hf,hn,ho,ht=>by
  by_cases hm:i∈o
  ·obtain⟨w,b,hw⟩:=PW.ex c hc hk z t o (by simp at hf;omega) hn ho fun j hj=>ht j (List.mem_cons_of_mem _ hj)
   exact⟨w,b,.skip hm hw⟩
  ·cases hfi:f i with
   | false=>exact⟨_,_,.stop hm hfi⟩
   | true =>
    have hn':(o++[i]).Nodup:=Xi1 hn hm
    have ho':∀ p∈o++[i],(0<=p.1/\p.1 < 200)/\(0<=p.2/\p.2 < 200):=fun j hj=>by
     rcases List.mem_append.1 hj with hj|hj
     ·exact ho j hj
     ·simp only[List.mem_singleton] at hj;subst hj;exact ht _ (by simp)
    have hlen:o.length+1<=200000:=by
     have:=X2o (n:=0) hn' ho'
     simpa using this
    obtain⟨w,b,hw⟩:=PW.ex c hc hk z (k i++t) (o++[i]) (by
     have h1:=hc i
     simp only[List.length_append,List.length_cons,List.length_nil] at hf ⊢
     have h2:200000 - o.length=(200000 - (o.length+(0+1)))+1:=by omega
     rw[h2,Nat.add_mul] at hf
     omega) hn' ho' fun j hj=>by
     rcases List.mem_append.1 hj with hj|hj
     ·exact hk i j hj
     ·exact ht j (List.mem_cons_of_mem _ hj)
    exact⟨w,b,.step hm hfi hw⟩
end
open Classical in
noncomputable def Yj9 (f:Pp->Bool) (k:Pp->List Pp) (t:List Pp):List Pp × Bool:=if h:∃ r:List Pp × Bool,PW f k t [] r.1 r.2 then Classical.choose h else ([],false)
theorem PW.eq {f:Pp->Bool} {k:Pp->List Pp} {t w:List Pp} {b:Bool} (h:PW f k t [] w b):Yj9 f k t=(w,b):=by
 unfold Yj9
 have hx:∃ r:List Pp × Bool,PW f k t [] r.1 r.2:=⟨(w,b),h⟩
 rw[dif_pos hx]
 have:=(Classical.choose_spec hx).det h
 exact Prod.ext this.1 this.2
noncomputable def Yka (g h:Gr):List Pp × Bool:=Yj9 (Jhq g h) (kdP g h) [(g.root,h.root)]
theorem Jhr {A B:List Int} {q:Pp} (h:q∈List.zip A B):∃ i:Nat,A[i]?=some q.1/\B[i]?=some q.2:=by
 obtain⟨i,hi⟩:=List.mem_iff_getElem?.1 h
 exact⟨i,List.getElem?_zip_eq_some.1 hi⟩
theorem Wtn {A B:List Int} {i:Nat} {a b:Int} (h:A[i]?=some a) (h':B[i]?=some b):(a,b)∈List.zip A B :=
 List.mem_of_getElem? (List.getElem?_zip_eq_some.2 ⟨h,h'⟩)
noncomputable def Ji1 (g h:Gr):Bool:=(Yka g h).2 && (decide (((Yka g h).1.map Prod.fst).Nodup) && decide (((Yka g h).1.map Prod.snd).Nodup))
structure Iso (g h:Gr) (R:Int->Int->Prop):Prop where
 root:R g.root h.root
 fit:∀ a b,R a b->Jhq g h (a,b)=true
 kid:∀ a b,R a b->∀ q∈kdP g h (a,b),R q.1 q.2
 one:∀ a b c,R a b->R a c->b=c
 inj:∀ a b c,R a c->R b c->a=b
theorem Wto {g:Gr} {a:Int} (h:¬ (0<=a/\a < g.l.length)):kd g a=[]:=by
 rw[kd,Xfp h];simp[Xan,Xae,Nd.zero]
theorem Ykb {g:Gr} (hg:Good g) (a:Int):(kd g a).length=(Xbr g.l a).kids.length:=by
 by_cases h:0<=a/\a < g.l.length
 ·exact (Xo4 (hg.node h)).len
 ·rw[Wto h,Xfp h];rfl
theorem Jbq {g h:Gr} (hg:Good g) (hh:Good h) {p:Pp} (hf:Jhq g h p=true):(kd g p.1).length=(kd h p.2).length:=by
 rw[Ykb hg,Ykb hh]
 exact (Xcs.1 hf).2.2.2
theorem Iso.trans {g h k:Gr} (hg:Good g) (hh:Good h) {R S:Int->Int->Prop} (H:Iso g h R) (K:Iso h k S):Iso g k fun a c=>∃ b,R a b/\S b c where
 root:=⟨_,H.root,K.root⟩
 fit:=by
  rintro a c ⟨b,e,e'⟩
  obtain⟨h1,h2,h3,h4⟩:=Xcs.1 (H.fit a b e)
  obtain⟨k1,k2,k3,k4⟩:=Xcs.1 (K.fit b c e')
  exact Xcs.2 ⟨h1.trans k1,h2.trans k2,h3.trans k3,h4.trans k4⟩
 kid:=by
  rintro a c ⟨b,e,e'⟩ q hq
  obtain⟨i,h1,h2⟩:=Jhr hq
  have hl:=Jbq hg hh (H.fit a b e)
  have hi:=(Kr.1 h1).1
  obtain⟨m,hm⟩:=Xaf (l:=kd h b) (i:=i) (by rw[<- hl];exact hi)
  exact⟨m,H.kid a b e _ (Wtn h1 hm),K.kid b c e' _ (Wtn hm h2)⟩
 one:=by
  rintro a c d ⟨b,e,e'⟩ ⟨b',f,f'⟩
  obtain rfl:=H.one _ _ _ e f
  exact K.one _ _ _ e' f'
 inj:=by
  rintro a a' c ⟨b,e,e'⟩ ⟨b',f,f'⟩
  obtain rfl:=K.inj _ _ _ e' f'
  exact H.inj _ _ _ e f
theorem Iso.sub {g h:Gr} {R:Int->Int->Prop} (H:Iso g h R) {a b:Int} (e:R a b):Iso ⟨a,g.l⟩ ⟨b,h.l⟩ R:=⟨e,H.fit,H.kid,H.one,H.inj⟩
open Go.Proofs.Tryz renaming prog->QP
variable {gp:Heap}
def Ww3 (x y:Sc):Int:=if x.k < y.k then -1 else if y.k < x.k then 1 else if x.n < y.n then -1 else if y.n < x.n then 1 else if Op.bytesLess x.s.toList y.s.toList then -1 else if !(Op.bytesLess x.s.toList y.s.toList || decide (x.s=y.s)) then 1 else 0
theorem Ywy (x y:Sc):Ww3 x y < 0↔lex x y:=by unfold Ww3 lex ltL;grind
theorem Xka (x y:Sc):Does QP gp 178 [x.v,y.v] (vi (Ww3 x y)):=by
 refine Wlo ?_
 simp only[go_sem]
 repeat' first|refine Kn rfl ?_|(refine Kw ?_;simp only[go_sem])|refine Kf ?_|apply Kp<;>intro _
 all_goals (unfold Ww3;grind)
theorem Ykc (x:Nd):Does QP gp 155 [x.v] (vb (decide (x.k=2/\x.keys.length=x.kids.length))):=by
 refine Wka ?_
 simp only[go_sem]
 repeat' first|refine Kn rfl ?_|(refine Kw ?_;simp only[go_sem])|refine Kf ?_|apply Kp<;>intro _
 all_goals (first|(simp_all;done)|grind|trace_state)
def kyO (x:Nd) (k:Int):Sc:=(x.keys[k.toNat]?).getD ⟨0,0,⟨#[]⟩⟩
def Xpt (f:Int->Bool) (out:List Int):Nat:=(out.takeWhile fun k=>!f k).length
theorem Xpf (f:Int->Bool):∀ out:List Int,Xpt f out<=out.length
 | []=>Nat.le_refl _
 | a::l=>by
  have:=Xpf f l
  unfold Xpt at *
  rw[List.takeWhile_cons]
  split
  ·simp;exact this
  ·simp
theorem Xtq {f:Int->Bool}:∀ {out:List Int} {j:Nat} {k:Int},j < Xpt f out->out[j]?=some k->f k=false
 | [],j,k,_,h=>by simp at h
 | a::l,j,k,hj,h=>by
  unfold Xpt at hj
  rw[List.takeWhile_cons] at hj
  split at hj
  ·rename_i ha
   cases j with
   | zero=>simp at h;subst h;simpa using ha
   | succ j=>exact Xtq (j:=j) (by unfold Xpt;simpa using hj) (by simpa using h)
  ·simp at hj
theorem Xtr {f:Int->Bool}:∀ {out:List Int} {k:Int},out[Xpt f out]?=some k->f k=true
 | [],k,h=>by simp at h
 | a::l,k,h=>by
  unfold Xpt at h
  rw[List.takeWhile_cons] at h
  split at h
  ·exact Xtr (out:=l) (by unfold Xpt;simpa using h)
  ·rename_i ha
   simp at h;subst h;simpa using ha
def ltO (x:Nd) (i:Nat) (k:Int):Bool:=decide (Ww3 (kyO x i) (kyO x k) < 0)
def Xe7 (x:Nd):Nat->List Int
 | 0=>[]
 | i+1=>(Xe7 x i).take (Xpt (ltO x i) (Xe7 x i))++(i:Int)::(Xe7 x i).drop (Xpt (ltO x i) (Xe7 x i))
theorem Xic (x:Nd):∀ i,(Xe7 x i).length=i
 | 0=>rfl
 | i+1=>by
  have h1:=Xic x i
  have h2:=Xpf (ltO x i) (Xe7 x i)
  simp only[Xe7,List.length_append,List.length_take,List.length_cons,List.length_drop];omega
theorem Xgh (x:Nd):∀ i,∀ k∈Xe7 x i,0<=k/\k < i
 | 0,k,h=>by simp[Xe7] at h
 | i+1,k,h=>by
  simp only[Xe7,List.mem_append,List.mem_cons] at h
  rcases h with h|rfl|h
  ·have:=Xgh x i k (List.mem_of_mem_take h);omega
  ·omega
  ·have:=Xgh x i k (List.mem_of_mem_drop h);omega
def Xkb (out:List Int) (p:Nat) (i:Int) (j:Nat):List Int:=if p < j then out.take p++i::(out.take j).drop p else out.take j
theorem Ykd {out:List Int} {p:Nat} {i k:Int} {j:Nat} (hk:out[j]?=some k):Xkb out p i (j+1)=if j=p then Xkb out p i j++[i]++[k] else Xkb out p i j++[k]:=by
 have hj:=(Kr.1 hk).1
 have ht:out.take (j+1)=out.take j++[k]:=by rw[List.take_succ,hk];rfl
 unfold Xkb
 by_cases h1:j=p
 ·subst h1
  rw[if_pos (Nat.lt_succ_self j),if_pos rfl,if_neg (Nat.lt_irrefl j),ht,List.drop_append_of_le_length (by simp;omega)]
  simp
 ·rw[if_neg h1]
  by_cases h2:p < j
  ·rw[if_pos (by omega),if_pos h2,ht,List.drop_append_of_le_length (by simp;omega)]
   simp
  ·rw[if_neg (by omega),if_neg h2,ht]
theorem X0v {out:List Int} {p:Nat} {i:Int} {j:Nat} (hj:j<=out.length):(Xkb out p i j).length<=j+1:=by
 unfold Xkb
 split
 ·simp;omega
 ·simp;omega
theorem Ywz {out:List Int} {p:Nat} {i:Int} (hp:p<=out.length):out.take p++i::out.drop p=if p < out.length then Xkb out p i out.length else Xkb out p i out.length++[i]:=by
 unfold Xkb
 split
 ·rw[List.take_of_length_le (Nat.le_refl out.length)]
 ·have:p=out.length:=by omega
  subst this
  simp
set_option maxHeartbeats 1000000 in
theorem Yke (x:Nd) (hl:x.keys.length<=12):Does QP gp 156 [x.v] (.one (.d (.sl (Xad (Xe7 x x.keys.length))))):=by
 refine Wki ?_
 simp only[go_sem]
 repeat' first|refine Kn rfl ?_|(refine Kw ?_;simp only[go_sem])|refine Kf ?_|apply Kp<;>intro _
 refine Xeh 3 1 (by decide) rfl ?_
 simp only[go_sem]
 refine Xap 0 ?_
 simp only[go_sem]
 refine Kk 0 (by simp only[List.length_nil];decide) (by simp only[go_sem]) (by simp only[go_sem]) ?_
 simp only[go_sem]
 refine Kt (fr 59 [(1,.one (.d (.bx x.ds))),(3,.one (.d (.sl (Xad (Xe7 x (0:Nat)))))),(4,vi (0:Nat))]) ?_
 refine Km (fun mz sz=>∃ i:Nat,i<=x.keys.length/\mz=x.keys.length - i/\(0<=i)/\sz=⟨fr 59 [(1,.one (.d (.bx x.ds))),(3,.one (.d (.sl (Xad (Xe7 x i))))),(4,vi i)],[]⟩) (x.keys.length) ⟨0,Nat.zero_le _,(Nat.sub_zero _).symm,?_,rfl⟩ ?_
 ·exact Nat.zero_le _
 rintro _ _ ⟨i,hi,rfl,-,rfl⟩
 simp only[go_sem]
 by_cases hil:i < x.keys.length
 ·obtain⟨a,ha⟩:=Xaf hil
  have hol:=Xic x i
  have hin:=Xgh x i
  have hpl:=Xpf (ltO x i) (Xe7 x i)
  have hlt:=fun j k h1 h2=>Xtq (f:=ltO x i) (out:=Xe7 x i) (j:=j) (k:=k) h1 h2
  have hat:=fun k h=>Xtr (f:=ltO x i) (out:=Xe7 x i) (k:=k) h
  have hnx:Xe7 x (i+1)=(Xe7 x i).take (Xpt (ltO x i) (Xe7 x i))++(i:Int)::(Xe7 x i).drop (Xpt (ltO x i) (Xe7 x i)):=rfl
  generalize Xpt (ltO x i) (Xe7 x i)=p at *
  generalize Xe7 x i=out at *
  repeat' first|refine Kn rfl ?_|(refine Kw ?_;simp only[go_sem])|refine Kf ?_|apply Kp<;>intro _
  all_goals first|(exfalso;omega)|skip
  refine Xeh 5 1 (by decide) rfl ?_
  simp only[go_sem]
  refine Kt (fr 59 [(1,.one (.d (.bx x.ds))),(3,.one (.d (.sl (Xad out)))),(4,vi i),(5,.one (.own 0 (Xkb out p i (0:Nat)).length)),(6,vb (decide (p < (0:Nat)))),(7,vi (0:Nat))]) ?_ (by (simp only[go_sem];repeat' (first|refine Kp ?_ ?_|exact Or.inl rfl|exact Or.inr rfl|rfl|omega)))
  refine Km (fun mz sz=>∃ j:Nat,j<=out.length/\mz=out.length - j/\(0<=j)/\sz=⟨fr 59 [(1,.one (.d (.bx x.ds))),(3,.one (.d (.sl (Xad out)))),(4,vi i),(5,.one (.own 0 (Xkb out p i j).length)),(6,vb (decide (p < j))),(7,vi j)],[.row 1 (Xkb out p i j).length (Xad (Xkb out p i j))]⟩) (out.length) ⟨0,Nat.zero_le _,(Nat.sub_zero _).symm,?_,rfl⟩ ?_
  ·exact Nat.zero_le _
  rintro _ _ ⟨j,hj,rfl,-,rfl⟩
  simp only[go_sem]
  by_cases hjl:j < out.length
  ·obtain⟨k,hk⟩:=Xaf hjl
   have hkr:=hin k (List.mem_of_getElem? hk)
   obtain⟨m,rfl⟩:=Int.eq_ofNat_of_zero_le hkr.1
   obtain⟨b,hb⟩:=Xaf (l:=x.keys) (i:=m) (by omega)
   have hst:=Ykd (p:=p) (i:=(i:Int)) hk
   have hnl:=X0v (p:=p) (i:=(i:Int)) hj
   have hky:ltO x i m=decide (Ww3 a b < 0):=by unfold ltO kyO;rw[Int.toNat_natCast,Int.toNat_natCast,ha,hb];rfl
   generalize Xkb out p (i:Int) j=N at *
   rcases Nat.lt_trichotomy j p with hjp|hjp|hjp
   ·have hd:decide (p < j)=false:=decide_eq_false (by omega)
    have hc:=hlt j m hjp hk
    rw[hky] at hc
    rw[if_neg (by omega)] at hst
    have hd1:decide (p < j+1)=false:=decide_eq_false (by omega)
    repeat' first|refine Kn rfl ?_|(refine Kw ?_;simp only[hd,hc,go_sem])|refine Kf ?_|refine⟨_,Xka a b,Kg ?_⟩|refine⟨_,⟨Xka a b,rfl⟩,Kg ?_⟩|refine⟨_,⟨Kq _,(Xab ha),rfl⟩,Kg ?_⟩|refine⟨_,⟨Kq _,(Xab hb),rfl⟩,Kg ?_⟩|refine⟨_,⟨Kq _,(Xab hk),rfl⟩,Kg ?_⟩|(apply Kp<;>intro _<;>try (exfalso;omega))
    refine⟨by simp,by omega,by unfold lenMax;omega,?_⟩
    rw[show Xad N++[[.int .i64 (m:Int)]]=Xad (Xkb out p i (j+1)) from by rw[hst];simp[Xad],show N.length+1=(Xkb out p i (j+1)).length from by rw[hst];simp]
    repeat' first|refine Kn rfl ?_|(refine Kw ?_;simp only[go_sem])|refine Kf ?_|(apply Kp<;>intro _<;>try (exfalso;omega))
    refine⟨Xai hjl (by unfold lenMax;omega),?_⟩
    refine Kt (fr 59 [(1,.one (.d (.bx x.ds))),(3,.one (.d (.sl (Xad out)))),(4,vi i),(5,.one (.own 0 (Xkb out p i (j+1)).length)),(6,vb false),(7,vi (j+1))]) ?_
    refine Kl ⟨out.length - (j+1),by omega,j+1,by omega,rfl,?_,by rw[hd1];rfl⟩
    exact Nat.zero_le _
   ·have hd:decide (p < j)=false:=decide_eq_false (by omega)
    have hc:=hat m (by rw[<- hjp];exact hk)
    rw[hky] at hc
    rw[if_pos hjp] at hst
    have hd1:decide (p < j+1)=true:=decide_eq_true (by omega)
    repeat' first|refine Kn rfl ?_|(refine Kw ?_;simp only[hd,hc,go_sem])|refine Kf ?_|refine⟨_,Xka a b,Kg ?_⟩|refine⟨_,⟨Xka a b,rfl⟩,Kg ?_⟩|refine⟨_,⟨Kq _,(Xab ha),rfl⟩,Kg ?_⟩|refine⟨_,⟨Kq _,(Xab hb),rfl⟩,Kg ?_⟩|refine⟨_,⟨Kq _,(Xab hk),rfl⟩,Kg ?_⟩|(apply Kp<;>intro _<;>try (exfalso;omega))
    refine⟨by simp,by omega,by unfold lenMax;omega,?_⟩
    rw[show Xad N++[[.int .i64 (i:Int)]]=Xad (N++[(i:Int)]) from by simp[Xad],show N.length+1=(N++[(i:Int)]).length from by simp]
    repeat' first|refine Kn rfl ?_|(refine Kw ?_;simp only[go_sem])|refine Kf ?_|refine⟨_,⟨Kq _,(Xab hk),rfl⟩,Kg ?_⟩|(apply Kp<;>intro _<;>try (exfalso;omega))
    refine⟨by simp,by simp;omega,by simp[lenMax];omega,?_⟩
    rw[show Xad (N++[(i:Int)])++[[.int .i64 (m:Int)]]=Xad (Xkb out p i (j+1)) from by rw[hst];simp[Xad],show (N++[(i:Int)]).length+1=(Xkb out p i (j+1)).length from by rw[hst];simp]
    repeat' first|refine Kn rfl ?_|(refine Kw ?_;simp only[go_sem])|refine Kf ?_|(apply Kp<;>intro _<;>try (exfalso;omega))
    refine⟨Xai hjl (by unfold lenMax;omega),?_⟩
    refine Kt (fr 59 [(1,.one (.d (.bx x.ds))),(3,.one (.d (.sl (Xad out)))),(4,vi i),(5,.one (.own 0 (Xkb out p i (j+1)).length)),(6,vb true),(7,vi (j+1))]) ?_
    refine Kl ⟨out.length - (j+1),by omega,j+1,by omega,rfl,?_,by rw[hd1];rfl⟩
    exact Nat.zero_le _
   ·have hd:decide (p < j)=true:=decide_eq_true (by omega)
    rw[if_neg (by omega)] at hst
    have hd1:decide (p < j+1)=true:=decide_eq_true (by omega)
    repeat' first|refine Kn rfl ?_|(refine Kw ?_;simp only[hd,go_sem])|refine Kf ?_|refine⟨_,⟨Kq _,(Xab hk),rfl⟩,Kg ?_⟩|(apply Kp<;>intro _<;>try (exfalso;omega))
    refine⟨by simp,by omega,by unfold lenMax;omega,?_⟩
    rw[show Xad N++[[.int .i64 (m:Int)]]=Xad (Xkb out p i (j+1)) from by rw[hst];simp[Xad],show N.length+1=(Xkb out p i (j+1)).length from by rw[hst];simp]
    repeat' first|refine Kn rfl ?_|(refine Kw ?_;simp only[go_sem])|refine Kf ?_|(apply Kp<;>intro _<;>try (exfalso;omega))
    refine⟨Xai hjl (by unfold lenMax;omega),?_⟩
    refine Kt (fr 59 [(1,.one (.d (.bx x.ds))),(3,.one (.d (.sl (Xad out)))),(4,vi i),(5,.one (.own 0 (Xkb out p i (j+1)).length)),(6,vb true),(7,vi (j+1))]) ?_
    refine Kl ⟨out.length - (j+1),by omega,j+1,by omega,rfl,?_,by rw[hd1];rfl⟩
    exact Nat.zero_le _
  ·obtain rfl:out.length=j:=by omega
   have hend:=Ywz (out:=out) (p:=p) (i:=(i:Int)) hpl
   have hnl:=X0v (out:=out) (p:=p) (i:=(i:Int)) (Nat.le_refl _)
   rw[<- hnx] at hend
   generalize Xkb out p (i:Int) out.length=N at *
   by_cases hp:p < out.length
   ·have hd:decide (p < out.length)=true:=decide_eq_true hp
    rw[if_pos hp] at hend
    rw[<- hend]
    repeat' first|refine Kn rfl ?_|(refine Kw ?_;simp only[hd,go_sem])|refine Kf ?_|(apply Kp<;>intro _<;>try (exfalso;omega))
    refine⟨Xai hil (by unfold lenMax;omega),?_⟩
    refine Kt (fr 59 [(1,.one (.d (.bx x.ds))),(3,.one (.own 0 (Xe7 x (i+1)).length)),(4,vi ((i:Int)+1))]) ?_
    simp only[go_sem]
    refine Xap 0 ?_
    simp only[go_sem]
    refine Kk 0 (by simp only[List.length_nil];decide) (by simp only[go_sem]) (by simp only[go_sem]) ?_
    simp only[go_sem]
    refine Kt (fr 59 [(1,.one (.d (.bx x.ds))),(3,.one (.d (.sl (Xad (Xe7 x (i+1)))))),(4,vi (i+1))]) ?_
    refine Kl ⟨x.keys.length - (i+1),by omega,i+1,by omega,rfl,?_,rfl⟩
    exact Nat.zero_le _
   ·have hd:decide (p < out.length)=false:=decide_eq_false hp
    rw[if_neg hp] at hend
    repeat' first|refine Kn rfl ?_|(refine Kw ?_;simp only[hd,go_sem])|refine Kf ?_|(apply Kp<;>intro _<;>try (exfalso;omega))
    refine⟨by simp,by omega,by unfold lenMax;omega,?_⟩
    rw[show Xad N++[[.int .i64 (i:Int)]]=Xad (Xe7 x (i+1)) from by rw[hend];simp[Xad]]
    repeat' first|refine Kn rfl ?_|(refine Kw ?_;simp only[go_sem])|refine Kf ?_|(apply Kp<;>intro _<;>try (exfalso;omega))
    refine⟨Xai hil (by unfold lenMax;omega),?_⟩
    refine Kt (fr 59 [(1,.one (.d (.bx x.ds))),(3,.one (.own 0 (N.length+1))),(4,vi ((i:Int)+1))]) ?_
    simp only[go_sem]
    refine Xap 0 ?_
    simp only[go_sem]
    refine Kk 0 (by simp only[List.length_nil];decide) (by simp only[go_sem]) (by simp only[go_sem]) ?_
    simp only[go_sem]
    refine Kt (fr 59 [(1,.one (.d (.bx x.ds))),(3,.one (.d (.sl (Xad (Xe7 x (i+1)))))),(4,vi (i+1))]) ?_
    refine Kl ⟨x.keys.length - (i+1),by omega,i+1,by omega,rfl,?_,rfl⟩
    exact Nat.zero_le _
 ·obtain rfl:x.keys.length=i:=by omega
  repeat' first|refine Kn rfl ?_|(refine Kw ?_;simp only[go_sem])|refine Kf ?_|(apply Kp<;>intro _<;>try (exfalso;omega))
  all_goals trace_state
theorem Xl5 (x:Nd) (hl:x.keys.length=x.kids.length):∀ i,i<=x.keys.length->(Xe7 x i).map (fun k=>((Xb5 x)[k.toNat]?).getD ⟨⟨0,0,⟨#[]⟩⟩,0⟩)=Xa5 Xe4 (Xb5 x) i
 | 0,_=>rfl
 | i+1,hi=>by
  have ih:=Xl5 x hl i (by omega)
  have hzl:(Xb5 x).length=x.keys.length:=by unfold Xb5;simp;omega
  obtain⟨a,ha⟩:=Xaf (l:=Xb5 x) (i:=i) (by omega)
  have hsl:=Xdy (c:=Xe4) (Xb5 x) i (by omega)
  have hso:=(Xj4 (Xb5 x) i (by omega)).1
  have hol:=Xic x i
  have hkey:∀ (k:Nat) (y:Pr),(Xb5 x)[k]?=some y->kyO x k=y.key:=by
   intro k y hy
   unfold Xb5 at hy
   rw[List.getElem?_zipWith] at hy
   unfold kyO
   rw[Int.toNat_natCast]
   cases hb:x.keys[k]? with
   | none=>rw[hb] at hy;cases hy
   | some b =>
    cases hc:x.kids[k]? with
    | none=>rw[hb,hc] at hy;cases hy
    | some c=>rw[hb,hc] at hy;cases hy;rfl
  simp only[Xa5,ha]
  obtain⟨i1,h1,h2,h3,h4⟩:=Xlt a (Xa5 Xe4 (Xb5 x) i) (Xa5 Xe4 (Xb5 x) i).length (Nat.le_refl _)
  rw[List.take_of_length_le (Nat.le_refl _)] at h3
  rw[hsl] at h1 h2
  rw[h2]
  have hin:=Xgh x i
  have hpl:=Xpf (ltO x i) (Xe7 x i)
  -- what stands where
  have hat:∀ (j:Nat) (y:Pr),(Xa5 Xe4 (Xb5 x) i)[j]?=some y->∃ k:Int,(Xe7 x i)[j]?=some k/\(ltO x i k=true↔lex a.key y.key):=by
   intro j y hy
   rw[<- ih,List.getElem?_map] at hy
   cases hk:(Xe7 x i)[j]? with
   | none=>rw[hk] at hy;cases hy
   | some k =>
    rw[hk] at hy
    have hkr:=hin k (List.mem_of_getElem? hk)
    obtain⟨m,rfl⟩:=Int.eq_ofNat_of_zero_le hkr.1
    obtain⟨z,hz⟩:=Xaf (l:=Xb5 x) (i:=m) (by omega)
    simp only[Option.map_some,Int.toNat_natCast,hz,Option.getD_some,Option.some.injEq] at hy
    subst hy
    refine⟨_,rfl,?_⟩
    unfold ltO
    rw[hkey i a ha,hkey m z hz,decide_eq_true_eq,Ywy]
  have hq:i1=Xpt (ltO x i) (Xe7 x i):=by
   rcases Nat.lt_trichotomy i1 (Xpt (ltO x i) (Xe7 x i)) with h|h|h
   ·exfalso
    obtain⟨y,hy⟩:=Xaf (l:=Xa5 Xe4 (Xb5 x) i) (i:=i1) (by omega)
    obtain⟨k,hk,hk2⟩:=hat i1 y hy
    have h5:=Xtq h hk
    have h6:lex a.key y.key:=h3 y (by
     have:((Xa5 Xe4 (Xb5 x) i).drop i1)[0]?=some y:=by rw[List.getElem?_drop,Nat.add_zero];exact hy
     exact List.mem_of_getElem? this)
    rw[hk2.2 h6] at h5;cases h5
   ·exact h
   ·exfalso
    obtain⟨m,rfl⟩:∃ m,i1=m+1:=⟨i1 - 1,by omega⟩
    obtain⟨y,hy⟩:=Xaf (l:=Xa5 Xe4 (Xb5 x) i) (i:=Xpt (ltO x i) (Xe7 x i)) (by omega)
    obtain⟨z,hz⟩:=Xaf (l:=Xa5 Xe4 (Xb5 x) i) (i:=m) (by omega)
    obtain⟨k,hk,hk2⟩:=hat _ y hy
    have h5:=hk2.1 (Xtr hk)
    have h6:=h4 m z rfl hz
    rcases Nat.lt_or_ge (Xpt (ltO x i) (Xe7 x i)) m with hm|hm
    ·have h7:=List.pairwise_iff_getElem.1 hso _ m (Kr.1 hy).1 (Kr.1 hz).1 hm
     rw[(Kr.1 hy).2,(Kr.1 hz).2] at h7
     rcases Xth y.key z.key with e|e|e
     ·exact h6 (Xh9 h5 e)
     ·exact h6 (e ▸ h5)
     ·exact h7 e
    ·have:Xpt (ltO x i) (Xe7 x i)=m:=by omega
     rw[this,hz] at hy
     cases hy
     exact h6 h5
  rw[hq,<- ih]
  simp only[Xe7,List.map_append,List.map_cons,List.map_take,List.map_drop,Int.toNat_natCast,ha,Option.getD_some]
theorem Yw0 (x:Nd) (hk:x.k=2) (hl:x.keys.length=x.kids.length):(Xe7 x x.keys.length).map (kyO x)=Xaq x:=by
 have hzl:(Xb5 x).length=x.keys.length:=by unfold Xb5;simp;omega
 have h1:=Xl5 x hl x.keys.length (Nat.le_refl _)
 have h2:Xaq x=(Xa5 Xe4 (Xb5 x) x.keys.length).map Pr.key:=by
  unfold Xaq
  rw[Xb3 hk hl,<- hzl]
 rw[h2,<- h1,List.map_map]
 apply List.map_congr_left
 intro k hk
 have hkr:=Xgh x _ k hk
 obtain⟨m,rfl⟩:=Int.eq_ofNat_of_zero_le hkr.1
 obtain⟨a,ha⟩:=Xaf (l:=x.keys) (i:=m) (by omega)
 obtain⟨b,hb⟩:=Xaf (l:=x.kids) (i:=m) (by omega)
 have hz:(Xb5 x)[m]?=some ⟨a,b⟩:=Yfq ha hb
 simp only[Function.comp,kyO,Int.toNat_natCast,ha,hz,Option.getD_some]
set_option maxHeartbeats 1000000 in
theorem Jhs (g:Gr) (i0:Int) (hg:Xc9 g):Does QP gp 127 [g.v,vi i0] (.tup [.one (.d (.sl (scs (Xaq (Xbr g.l i0))))),vi (atE g.l i0)]):=by
 refine Wh1 ?_
 simp only[go_sem]
 by_cases hr:0<=i0/\i0 < g.l.length
 ·obtain⟨i,rfl⟩:=Int.eq_ofNat_of_zero_le hr.1
  obtain⟨x,hx⟩:=Xaf (l:=g.l) (i:=i) (by omega)
  have hnd:Xbr g.l i=x:=by unfold Xbr;rw[if_pos hr,Int.toNat_natCast,hx];rfl
  have hat:atE g.l i=0:=by unfold atE;rw[if_pos hr]
  have hsx:=hg x (List.mem_of_getElem? hx)
  have c1:=Ykc (gp:=gp) x
  have c2:=Yke (gp:=gp) x hsx.1
  rw[hnd,hat]
  by_cases hm:x.k=2/\x.keys.length=x.kids.length
  ·rw[decide_eq_true hm] at c1
   have hok:=Yw0 x hm.1 hm.2
   have hol:=Xic x x.keys.length
   have hin:=Xgh x x.keys.length
   generalize Xe7 x x.keys.length=out at *
   repeat' first|refine Kn rfl ?_|(refine Kw ?_;simp only[Xfm,go_sem])|refine Kf ?_|refine⟨_,c1,Kg ?_⟩|refine⟨_,⟨c1,rfl⟩,Kg ?_⟩|refine⟨_,c2,Kg ?_⟩|refine⟨_,⟨c2,rfl⟩,Kg ?_⟩|refine⟨_,⟨Kq _,(Xab hx),rfl⟩,Kg ?_⟩|(apply Kp<;>intro _<;>try (exfalso;omega))
   all_goals first|(exfalso;omega)|skip
   refine Xeh 6 3 (by decide) rfl ?_
   simp only[go_sem]
   refine Kt (fr 52 [(1,vi i),(2,.one (.d (.bx [.int .i64 g.root,.sl (nds g.l)]))),(6,.one (.own 0 (0:Nat))),(7,.one (.d (.sl (Xad out)))),(8,vi (0:Nat))]) ?_
   refine Km (fun mz sz=>∃ j:Nat,j<=out.length/\mz=out.length - j/\(0<=j)/\sz=⟨fr 52 [(1,vi i),(2,.one (.d (.bx [.int .i64 g.root,.sl (nds g.l)]))),(6,.one (.own 0 j)),(7,.one (.d (.sl (Xad out)))),(8,vi j)],[.row 3 j (scs ((out.map (kyO x)).take j))]⟩) (out.length) ⟨0,Nat.zero_le _,(Nat.sub_zero _).symm,?_,rfl⟩ ?_
   ·exact Nat.zero_le _
   rintro _ _ ⟨j,hj,rfl,-,rfl⟩
   simp only[go_sem]
   by_cases hjl:j < out.length
   ·obtain⟨k,hk⟩:=Xaf hjl
    have hkr:=hin k (List.mem_of_getElem? hk)
    obtain⟨m,rfl⟩:=Int.eq_ofNat_of_zero_le hkr.1
    obtain⟨a,ha⟩:=Xaf (l:=x.keys) (i:=m) (by omega)
    have hka:(out.map (kyO x))[j]?=some a:=by rw[List.getElem?_map,hk];simp[kyO,ha]
    repeat' first|refine Kn rfl ?_|(refine Kw ?_;simp only[Xfm,go_sem])|refine Kf ?_|refine⟨_,⟨Kq _,(Xab hx),rfl⟩,Kg ?_⟩|refine⟨_,⟨Kq _,(Xab hk),rfl⟩,Kg ?_⟩|refine⟨_,⟨Kq _,(Xab ha),rfl⟩,Kg ?_⟩|(apply Kp<;>intro _<;>try (exfalso;omega))
    all_goals first|(exfalso;omega)|skip
    refine⟨by simp,by simp;omega,by simp[lenMax];omega,?_⟩
    rw[show scs ((out.map (kyO x)).take j)++[_]=scs ((out.map (kyO x)).take (j+1)) from Xo0 hka]
    repeat' first|refine Kn rfl ?_|(refine Kw ?_;simp only[Xfm,go_sem])|refine Kf ?_|(apply Kp<;>intro _<;>try (exfalso;omega))
    refine⟨Xai hjl (by unfold lenMax;omega),?_⟩
    refine Kt (fr 52 [(1,vi i),(2,.one (.d (.bx [.int .i64 g.root,.sl (nds g.l)]))),(6,.one (.own 0 (j+1))),(7,.one (.d (.sl (Xad out)))),(8,vi (j+1))]) ?_
    refine Kl ⟨out.length - (j+1),by omega,j+1,by omega,rfl,?_,rfl⟩
    exact Nat.zero_le _
   ·obtain rfl:out.length=j:=by omega
    rw[List.take_of_length_le (by simp),hok]
    repeat' first|refine Kn rfl ?_|(refine Kw ?_;simp only[go_sem])|refine Kf ?_|(apply Kp<;>intro _<;>try (exfalso;omega))
    all_goals first|(exfalso;omega)|skip
    refine Xap 0 ?_
    simp only[go_sem]
    repeat' first|refine Kn rfl ?_|(refine Kw ?_;simp only[Xfm,go_sem])|refine Kf ?_|apply Kp<;>intro _
    all_goals trace_state
  ·rw[decide_eq_false hm] at c1
   have hk:Xaq x=[]:=by unfold Xaq Xae;rw[if_neg hm];rfl
   rw[hk]
   repeat' first|refine Kn rfl ?_|(refine Kw ?_;simp only[Xfm,go_sem])|refine Kf ?_|refine⟨_,c1,Kg ?_⟩|refine⟨_,⟨c1,rfl⟩,Kg ?_⟩|refine⟨_,⟨Kq _,(Xab hx),rfl⟩,Kg ?_⟩|(apply Kp<;>intro _<;>try (exfalso;omega))
   all_goals first|(exfalso;omega)|trace_state
 ·have hat:atE g.l i0=2:=by unfold atE;rw[if_neg hr]
  have hk:Xaq (Xbr g.l i0)=[]:=by rw[Xfp hr];rfl
  rw[hat,hk]
  repeat' first|refine Kn rfl ?_|(refine Kw ?_;simp only[Xfm,go_sem])|refine Kf ?_|(apply Kp<;>intro _<;>try (exfalso;omega))
  all_goals first|(exfalso;omega)|trace_state
end Go.Fw.L07
