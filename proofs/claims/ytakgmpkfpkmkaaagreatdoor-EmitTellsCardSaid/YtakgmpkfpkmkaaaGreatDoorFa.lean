/- The framework,part 1: pure data,symbolic values,what they denote in a heap. Nothing of a program stands here. -/
import Derived.OrdersIn
import Derived.RangeFuncIn
import Derived.RangeFuncLeaves
import Derived.RangeFuncRecord
import Derived.Below
import Derived.Laws.Cells
import Derived.Laws.CopyRow
import Derived.Lib.AppendStr
import Derived.Lib.UnsafeStr
import Derived.Laws.StructEq
import Derived.Laws.Tables
set_option linter.all false
namespace Go.Fw
open Go
abbrev Heap:=Nat->Option Obj
def Heap.Le (H K:Heap):Prop:=∀ b o,H b=some o->K b=some o
theorem Heap.Le.refl (H:Heap):Heap.Le H H:=fun _ _ h=>h
theorem Heap.Le.trans {A B C:Heap} (h:Heap.Le A B) (k:Heap.Le B C):Heap.Le A C:=fun b o e=>k b o (h b o e)
def Xci (w:World) (H:Heap):Prop:=∀ b o,H b=some o->w.heap[b]?=some o
inductive D where
 | int (k:IntKind) (n:Int)
 | bool (b:Bool)
 | str (s:ByteArray)
 | sl (xs:List (List D))
 | bx (cs:List D)
 | ifc (t:TypeId) (ag:Bool) (cs:List D)
 | nilI|nilF|nilP
 | fn (f:Fn) (caps:List D)
 | mv (f:Fn) (ag:Bool) (rcv:List D)
 | raw (v:Value)
def Xal {α β:Type} (R:α->β->Prop):List α->List β->Prop
 | [],[]=>True
 | a::l,b::m=>R a b/\Xal R l m
 | _,_=>False
section
variable {α β:Type} {R R':α->β->Prop}
theorem Xal.length:∀ {l:List α} {m:List β},Xal R l m->l.length=m.length
 | [],[],_=>rfl
 | _::_,_::_,h=>by simp[Xal.length h.2]
theorem Xal.mono (h:∀ a b,R a b->R' a b):∀ {l:List α} {m:List β},Xal R l m->Xal R' l m
 | [],[],_=>trivial
 | _::_,_::_,k=>⟨h _ _ k.1,Xal.mono h k.2⟩
theorem Xal.get:∀ {l:List α} {m:List β},Xal R l m->∀ {i:Nat} {a:α},l[i]?=some a->∃ b,m[i]?=some b/\R a b
 | a::_,b::_,h,0,x,e=>⟨b,rfl,by simp at e;subst e;exact h.1⟩
 | _::_,_::_,h,i+1,x,e=>by simpa using Xal.get h.2 (i:=i) (a:=x) (by simpa using e)
theorem Xal.of_get:∀ {l:List α} {m:List β},l.length=m.length->(∀ (i:Nat) (a:α) (b:β),l[i]?=some a->m[i]?=some b->R a b)->Xal R l m
 | [],[],_,_=>trivial
 | a::l,b::m,h,k=>⟨k 0 a b rfl rfl,Xal.of_get (by simpa using h) fun i a b e f=>k (i+1) a b (by simpa using e) (by simpa using f)⟩
 | [],_::_,h,_=>by simp at h
 | _::_,[],h,_=>by simp at h
theorem Xal.append:∀ {l l':List α} {m m':List β},Xal R l m->Xal R l' m'->Xal R (l++l') (m++m')
 | [],_,[],_,_,k=>k
 | _::_,_,_::_,_,h,k=>⟨h.1,Xal.append h.2 k⟩
theorem Xal.drop:∀ {l:List α} {m:List β} (n:Nat),Xal R l m->Xal R (l.drop n) (m.drop n)
 | [],[],n,_=>by simp[Xal]
 | _::_,_::_,0,h=>h
 | _::_,_::_,n+1,h=>by simpa using Xal.drop n h.2
theorem Xal.take:∀ {l:List α} {m:List β} (n:Nat),Xal R l m->Xal R (l.take n) (m.take n)
 | [],[],n,_=>by simp[Xal]
 | _::_,_::_,0,h=>by simp[Xal]
 | _::_,_::_,n+1,h=>by simpa [Xal] using ⟨h.1,Xal.take n h.2⟩
theorem Xal.set:∀ {l:List α} {m:List β} (n:Nat) {a:α} {b:β},Xal R l m->R a b->Xal R (l.set n a) (m.set n b)
 | [],[],n,_,_,_,_=>by simp[Xal]
 | _::_,_::_,0,_,_,h,k=>⟨k,h.2⟩
 | _::_,_::_,n+1,_,_,h,k=>⟨h.1,Xal.set n h.2 k⟩
theorem Xal.replicate {a:α} {b:β} (h:R a b):∀ n,Xal R (List.replicate n a) (List.replicate n b)
 | 0=>trivial
 | n+1=>⟨h,Xal.replicate h n⟩
theorem Xal.map {γ δ:Type} {S:γ->δ->Prop} {f:γ->α} {g:δ->β} (h:∀ a b,S a b->R (f a) (g b)):∀ {l:List γ} {m:List δ},Xal S l m->Xal R (l.map f) (m.map g)
 | [],[],_=>trivial
 | _::_,_::_,k=>⟨h _ _ k.1,Xal.map h k.2⟩
theorem Xal.flat {γ δ:Type} {f:α->List γ} {g:β->List δ} {S:γ->δ->Prop} (h:∀ a b,R a b->Xal S (f a) (g b)):∀ {l:List α} {m:List β},Xal R l m->Xal S (l.flatMap f) (m.flatMap g)
 | [],[],_=>trivial
 | _::_,_::_,k=>by simpa using Xal.append (h _ _ k.1) (Xal.flat h k.2)
end
def lenMax:Nat:=4611686018427387904
inductive Den (H:Heap):D->Value->Prop
 | int (k:IntKind) (n:Int):Den H (.int k n) (.int k n)
 | bool (b:Bool):Den H (.bool b) (.bool b)
 | str (s:ByteArray):Den H (.str s) (.string s)
 | nilI:Den H .nilI .nilIface
 | nilF:Den H .nilF .nilFunc
 | nilP:Den H .nilP (.pointer none)
 | raw (v:Value):v.oneCell'=true->Den H (.raw v) v
 | slE (A:Option Addr) (c:Nat):Den H (.sl []) (.slice A 0 c)
 | sl (xs:List (List D)) (b o c sz:Nat) (cells:Array Value) (T:TypeId) (fz:Nat × Nat) (f:Nat->Nat->Value) :
   H b=some (.cells cells T fz)->(∀ x∈xs,x.length=sz)->xs.length<=c->xs.length < lenMax ->
   (∀ (i:Nat) (x:List D) (j:Nat) (y:D),xs[i]?=some x->x[j]?=some y->cells[o+i*sz+j]?=some (f i j)) ->
   (∀ (i:Nat) (x:List D) (j:Nat) (y:D),xs[i]?=some x->x[j]?=some y->Den H y (f i j))->Den H (.sl xs) (.slice (some ⟨b,o,none⟩) xs.length c)
 | bx (cs:List D) (b o:Nat) (cells:Array Value) (T:TypeId) (fz:Nat × Nat) (f:Nat->Value) :
   H b=some (.cells cells T fz)->(∀ (j:Nat) (y:D),cs[j]?=some y->cells[o+j]?=some (f j)) ->
   (∀ (j:Nat) (y:D),cs[j]?=some y->Den H y (f j))->Den H (.bx cs) (.pointer (some ⟨b,o,none⟩))
 | ifcV (t:TypeId) (c:D) (v:Value):Den H c v->Den H (.ifc t false [c]) (.iface t v)
 | ifcA (t:TypeId) (cs:List D) (vs:List Value):vs.length=cs.length->(∀ (j:Nat) (y:D) (v:Value),cs[j]?=some y->vs[j]?=some v->Den H y v) ->
   Den H (.ifc t true cs) (.iface t (.agg vs.toArray))
 | fn (f:Fn) (caps:List D) (vs:List Value):vs.length=caps.length->(∀ (j:Nat) (y:D) (v:Value),caps[j]?=some y->vs[j]?=some v->Den H y v) ->
   Den H (.fn f caps) (.func f #[] vs.toArray)
 | mvV (f:Fn) (c:D) (v:Value):Den H c v->Den H (.mv f false [c]) (.func f #[v] #[])
 | mvA (f:Fn) (cs:List D) (vs:List Value):vs.length=cs.length->(∀ (j:Nat) (y:D) (v:Value),cs[j]?=some y->vs[j]?=some v->Den H y v) ->
   Den H (.mv f true cs) (.func f #[.agg vs.toArray] #[])
theorem Den.mono {H K:Heap} (h:Heap.Le H K) {x:D} {v:Value} (k:Den H x v):Den K x v:=by
 induction k with
 | int k n=>exact .int k n
 | bool b=>exact .bool b
 | str s=>exact .str s
 | nilI=>exact .nilI
 | nilF=>exact .nilF
 | nilP=>exact .nilP
 | raw v hv=>exact .raw v hv
 | slE A c=>exact .slE A c
 | sl xs b o c sz cells T fz f hb hs hc hl hf _ ih=>exact .sl xs b o c sz cells T fz f (h _ _ hb) hs hc hl hf ih
 | bx cs b o cells T fz f hb hf _ ih=>exact .bx cs b o cells T fz f (h _ _ hb) hf ih
 | ifcV t c v _ ih=>exact .ifcV t c v ih
 | ifcA t cs vs hl _ ih=>exact .ifcA t cs vs hl ih
 | fn f caps vs hl _ ih=>exact .fn f caps vs hl ih
 | mvV f c v _ ih=>exact .mvV f c v ih
 | mvA f cs vs hl _ ih=>exact .mvA f cs vs hl ih
theorem Den.oneCell {H:Heap} {x:D} {v:Value} (k:Den H x v):v.oneCell'=true:=by
 cases k <;> first|rfl|assumption
abbrev Xc3 (H:Heap):List D->List Value->Prop:=Xal (Den H)
theorem Xc3.mono {H K:Heap} (h:Heap.Le H K) {l:List D} {m:List Value} (k:Xc3 H l m):Xc3 K l m:=Xal.mono (fun _ _=>Den.mono h) k
inductive A where
 | d (x:D)
 | nil
 | own (i ver:Nat)
 | ptr (i off:Nat)
 | rp (i ver sz e off:Nat)
 | clo (f:Fn) (caps:List A)
 | mvo (f:Fn) (ag:Bool) (rcv:List A)
 | ifo (t:TypeId) (a:A)
 | un
abbrev Anc:=Nat->Option (Nat × Value)
def Xbg (H:Heap) (an:Anc):A->Value->Prop
 | .d x,v=>Den H x v
 | .nil,v=>∃ a,v=.slice a 0 0
 | .own i ver,v=>v.oneCell'=true/\∃ p,an i=some p/\ver<=p.1/\(p.1=ver->v=p.2)
 | .ptr i off,v=>∃ b,v=.pointer (some ⟨b,off,none⟩)/\∃ p,an i=some p/\∀ b',p.2=.pointer (some ⟨b',0,none⟩)->b=b'
 | .rp i ver sz e off,v=>∃ b q,v=.pointer (some ⟨b,q+e*sz+off,none⟩)/\∃ p,an i=some p/\ver<=p.1/\(p.1=ver->∀ b' o n c,p.2=.slice (some ⟨b',o,none⟩) n c->b=b'/\q=o)
 | .un,_=>True
 | _,_=>False
def Xb0 (H:Heap) (an:Anc):A->Value->Prop
 | .clo f caps,v=>∃ vs,v=.func f #[] vs.toArray/\Xal (Xbg H an) caps vs
 | .mvo f false rcv,v=>∃ u,v=.func f #[u] #[]/\Xal (Xbg H an) rcv [u]
 | .mvo f true rcv,v=>∃ vs,v=.func f #[.agg vs.toArray] #[]/\Xal (Xbg H an) rcv vs
 | .ifo t a,v=>∃ u,v=.iface t u/\Xbg H an a u
 | a,v=>Xbg H an a v
structure Anc.Le (an bn:Anc):Prop where
 same:∀ i p,an i=some p->∃ q,bn i=some q/\(q=p\/(p.1 < q.1/\∃ a n c,q.2=.slice a n c))
theorem Anc.Le.refl (an:Anc):Anc.Le an an:=⟨fun _ p h=>⟨p,h,.inl rfl⟩⟩
theorem Anc.Le.trans {a b c:Anc} (h:Anc.Le a b) (k:Anc.Le b c):Anc.Le a c:=⟨fun i p e=>by
 obtain⟨q,hq,h1⟩:=h.same i p e
 obtain⟨r,hr,h2⟩:=k.same i q hq
 refine⟨r,hr,?_⟩
 rcases h1 with rfl|⟨h1,_⟩
 ·exact h2
 ·rcases h2 with rfl|⟨h2,h3⟩
  ·exact .inr ⟨h1,‹_›⟩
  ·exact .inr ⟨Nat.lt_trans h1 h2,h3⟩⟩
theorem Xbg.mono {H K:Heap} {an bn:Anc} (h:Heap.Le H K) (k:Anc.Le an bn) {a:A} {v:Value} (hd:Xbg H an a v):Xbg K bn a v:=by
 cases a with
 | d x=>exact Den.mono h hd
 | nil=>exact hd
 | own i ver =>
  obtain⟨h1,p,hp,hle,he⟩:=hd
  obtain⟨q,hq,hqp⟩:=k.same i p hp
  refine⟨h1,q,hq,?_,?_⟩
  ·rcases hqp with rfl|⟨hlt,_⟩
   ·exact hle
   ·omega
  ·intro e
   rcases hqp with rfl|⟨hlt,_⟩
   ·exact he e
   ·omega
 | ptr i off =>
  obtain⟨b0,h1,p,hp,he⟩:=hd
  obtain⟨q,hq,hqp⟩:=k.same i p hp
  refine⟨b0,h1,q,hq,fun b e=>?_⟩
  rcases hqp with rfl|⟨_,a,n,c,e'⟩
  ·exact he b e
  ·rw[e'] at e;cases e
 | rp i ver sz e off =>
  obtain⟨b0,q0,h1,p,hp,hle,he⟩:=hd
  obtain⟨q,hq,hqp⟩:=k.same i p hp
  refine⟨b0,q0,h1,q,hq,?_,?_⟩
  ·rcases hqp with rfl|⟨hlt,_⟩
   ·exact hle
   ·omega
  ·intro e
   rcases hqp with rfl|⟨hlt,_⟩
   ·exact he e
   ·omega
 | clo f caps=>exact hd
 | mvo f ag rcv=>exact hd
 | ifo t a=>exact hd
 | un=>trivial
theorem Xb0.mono {H K:Heap} {an bn:Anc} (h:Heap.Le H K) (k:Anc.Le an bn) {a:A} {v:Value} (hd:Xb0 H an a v):Xb0 K bn a v:=by
 cases a with
 | clo f caps=>obtain⟨vs,rfl,hv⟩:=hd;exact⟨vs,rfl,Xal.mono (fun _ _=>Xbg.mono h k) hv⟩
 | mvo f ag rcv =>
  cases ag with
  | false=>obtain⟨u,rfl,hv⟩:=hd;exact⟨u,rfl,Xal.mono (fun _ _=>Xbg.mono h k) hv⟩
  | true=>obtain⟨vs,rfl,hv⟩:=hd;exact⟨vs,rfl,Xal.mono (fun _ _=>Xbg.mono h k) hv⟩
 | ifo t a=>obtain⟨u,rfl,hv⟩:=hd;exact⟨u,rfl,Xbg.mono h k hv⟩
 | d x=>exact Xbg.mono (a:=.d x) h k hd
 | nil=>exact hd
 | own i ver=>exact Xbg.mono (a:=.own i ver) h k hd
 | ptr i off=>exact Xbg.mono (a:=.ptr i off) h k hd
 | rp i ver sz e off=>exact Xbg.mono (a:=.rp i ver sz e off) h k hd
 | un=>trivial
abbrev Xaz (H:Heap) (an:Anc):List A->List Value->Prop:=Xal (Xb0 H an)
def A.solid:A->Bool
 | .un=>false
 | _=>true
theorem Xb0.oneCell {H:Heap} {an:Anc} {a:A} {v:Value} (hd:Xb0 H an a v) (hs:a.solid=true):v.oneCell'=true:=by
 cases a with
 | clo f caps=>obtain⟨vs,rfl,hv⟩:=hd;rfl
 | mvo f ag rcv =>
  cases ag with
  | false=>obtain⟨u,rfl,hv⟩:=hd;rfl
  | true=>obtain⟨vs,rfl,hv⟩:=hd;rfl
 | ifo t a=>obtain⟨u,rfl,hv⟩:=hd;rfl
 | d x=>exact Den.oneCell (x:=x) hd
 | nil=>obtain⟨a,rfl⟩:=hd;rfl
 | own i ver=>exact hd.1
 | ptr i off=>obtain⟨b,rfl,_⟩:=hd;rfl
 | rp i ver sz e off=>obtain⟨b,q,rfl,_⟩:=hd;rfl
 | un=>cases hs
def A.ofZ:D->A
 | .sl _=>.nil
 | x=>.d x
inductive V where
 | one (a:A)
 | agg (cs:List A)
 | tup (vs:List V)
 | un
def Xam (H:Heap) (an:Anc):V->Value->Prop
 | .one a,v=>Xb0 H an a v
 | .agg cs,v=>∃ vs,v=.agg vs.toArray/\Xaz H an cs vs
 | .un,_=>True
 | .tup _,_=>False
def Xax (H:Heap) (an:Anc):V->Value->Prop
 | .tup l,v=>∃ vs,v=.tuple vs.toArray/\Xal (Xam H an) l vs
 | x,v=>Xam H an x v
theorem Xam.mono {H K:Heap} {an bn:Anc} (h:Heap.Le H K) (k:Anc.Le an bn) {x:V} {v:Value} (hd:Xam H an x v):Xam K bn x v:=by
 cases x with
 | one a=>exact Xb0.mono h k hd
 | agg cs=>obtain⟨vs,e,hv⟩:=hd;exact⟨vs,e,Xal.mono (fun _ _=>Xb0.mono h k) hv⟩
 | tup l=>exact hd
 | un=>trivial
theorem Xax.mono {H K:Heap} {an bn:Anc} (h:Heap.Le H K) (k:Anc.Le an bn) {x:V} {v:Value} (hd:Xax H an x v):Xax K bn x v:=by
 cases x with
 | tup l=>obtain⟨vs,e,hv⟩:=hd;exact⟨vs,e,Xal.mono (fun _ _=>Xam.mono h k) hv⟩
 | one a=>exact Xam.mono (x:=.one a) h k hd
 | agg cs=>exact Xam.mono (x:=.agg cs) h k hd
 | un=>trivial
inductive Ch where
 | dead
 | cells (cs:List A)
 | row (sz ver:Nat) (xs:List (List D))
 | map (es:List (V × V))
 | siter (s:ByteArray) (pos:Nat)
 | abs (J:(Nat->Prop)->World->Prop)
 | bld (T:TypeId) (y:A)
 | brow (e:TypeId) (ver:Nat) (bs:List UInt8)
 | lp (l:Nat) (fr:List V) (rc:Loop) (st:LoopState) (pd:Option Code)
 | rowA (sz ver:Nat) (xs:List (List A))
 | pool (sz:Nat) (L:List (Option (Value × List (List D))))
 | nest (sz kz ver:Nat) (xs:List (List D × List (List D)))
def Yya (H:Heap) (w:World) (sz:Nat) (v:Value) (xs:List (List D)) (f:Nat->Prop):Prop :=
 (∃ a n c,v=.slice a n c)/\0 < sz/\(∀ x∈xs,x.length=sz)/\xs.length < lenMax /\
   ((xs=[]/\(∃ a,v=.slice a 0 0)/\∀ x,¬ f x) \/
     ∃ b o cap vs T,v=.slice (some ⟨b,o,none⟩) xs.length cap/\(∀ x,f x↔x=b)/\w.heap[b]?=some (.cells vs T (0,0))/\xs.length<=cap/\o+cap*sz<=vs.size /\
      ∀ (i:Nat) (x:List D) (j:Nat) (y:D),xs[i]?=some x->x[j]?=some y->∃ v,vs[o+i*sz+j]?=some v/\Den H y v)
theorem Yya.keep {H K:Heap} {w w':World} {sz:Nat} {v:Value} {xs:List (List D)} {f:Nat->Prop} (h:Yya H w sz v xs f) (hH:Heap.Le H K) (hf:∀ x,f x->w'.heap[x]?=w.heap[x]?):Yya K w' sz v xs f:=by
 obtain⟨hs,h1,h2,h3,h4⟩:=h
 refine⟨hs,h1,h2,h3,?_⟩
 rcases h4 with h4|⟨b,o,cap,vs,T,e1,e2,e3,e4,e5,e6⟩
 ·exact .inl h4
 ·exact .inr ⟨b,o,cap,vs,T,e1,e2,(hf b ((e2 b).2 rfl)).trans e3,e4,e5,fun i x j y hx hy=>let ⟨v,hv,hd⟩:=e6 i x j y hx hy;⟨v,hv,Den.mono hH hd⟩⟩
def Xt8 (H:Heap) (w:World) (sz:Nat) (L:List (Option (Value × List (List D)))) (f:Nat->Prop):Prop :=
 ∃ g:Nat->Nat->Prop,(∀ x,f x↔∃ i,g i x)/\(∀ i j x,g i x->g j x->i=j)/\(∀ i e,L[i]?=some (some e)->Yya H w sz e.1 e.2 (g i))/\∀ i x,g i x->∃ e,L[i]?=some (some e)
theorem Xt8.keep {H K:Heap} {w w':World} {sz:Nat} {L:List (Option (Value × List (List D)))} {f:Nat->Prop} (h:Xt8 H w sz L f) (hH:Heap.Le H K) (hf:∀ x,f x->w'.heap[x]?=w.heap[x]?):Xt8 K w' sz L f:=by
 obtain⟨g,h1,h2,h3,h4⟩:=h
 exact⟨g,h1,h2,fun i e he=>(h3 i e he).keep hH fun x hx=>hf x ((h1 x).2 ⟨i,hx⟩),h4⟩
def Xb7 (H:Heap) (an:Anc) (w:World):Ch->Nat × Value->(Nat->Prop)->Prop
 | .dead,_,f=>∀ b,¬ f b
 | .cells cs,p,f=>p.1=0/\∃ b T vs,p.2=.pointer (some ⟨b,0,none⟩)/\(∀ x,f x↔x=b)/\w.heap[b]?=some (.cells vs.toArray T (0,0))/\Xaz H an cs vs
 | .row sz ver xs,p,f=>p.1=ver/\(∃ a n c,p.2=.slice a n c)/\0 < sz/\(∀ x∈xs,x.length=sz)/\xs.length < lenMax /\
   ((xs=[]/\(∃ a,p.2=.slice a 0 0)/\∀ x,¬ f x) \/
     ∃ b o cap vs T,p.2=.slice (some ⟨b,o,none⟩) xs.length cap/\(∀ x,f x↔x=b)/\w.heap[b]?=some (.cells vs T (0,0))/\xs.length<=cap/\o+cap*sz<=vs.size /\
      ∀ (i:Nat) (x:List D) (j:Nat) (y:D),xs[i]?=some x->x[j]?=some y->∃ v,vs[o+i*sz+j]?=some v/\Den H y v)
 | .map es,p,f=>p.1=0/\∃ b ents clk,p.2=.map (some b)/\(∀ x,f x↔x=b)/\w.heap[b]?=some (.map ents clk)/\Xal (fun e en=>Xam H an e.1 en.key/\Xam H an e.2 en.val) es ents.toList
 | .siter s pos,p,f=>p.1=0/\∃ b,p.2=.pointer (some ⟨b,0,none⟩)/\(∀ x,f x↔x=b)/\w.heap[b]?=some (.stringIter s pos)
 | .abs J,_,f=>J f w/\∀ w',(∀ x,f x->w'.heap[x]?=w.heap[x]?)->J f w'
 | .bld T y,p,f=>p.1=0/\∃ b p0 v T',p.2=.pointer (some ⟨b,0,none⟩)/\(∀ x,f x↔x=b)/\w.heap[b]?=some (.cells #[p0,v] T' (0,0))/\((p0=.pointer none/\T'=T)\/p0=.pointer (some ⟨b,0,none⟩))/\Xb0 H an y v
 | .brow e ver bs,p,f=>p.1=ver/\bs.length < lenMax/\(bs=[]->p.2=.slice none 0 0)/\w.ownsRow 0 e 1 p.2 bs.length (Lib.byteCells bs)/\∀ x,f x↔p.2.ownBlock=some x
 | .rowA sz ver xs,p,f=>p.1=ver/\0 < sz/\(∀ x∈xs,x.length=sz)/\xs.length < lenMax /\
     ∃ b o cap vs T,p.2=.slice (some ⟨b,o,none⟩) xs.length cap/\(∀ x,f x↔x=b)/\w.heap[b]?=some (.cells vs T (0,0))/\xs.length<=cap/\o+cap*sz<=vs.size /\
      ∀ (i:Nat) (x:List A) (j:Nat) (y:A),xs[i]?=some x->x[j]?=some y->∃ v,vs[o+i*sz+j]?=some v/\Xb0 H an y v
 | .pool sz L,_,f=>∃ g:Nat->Nat->Prop,(∀ x,f x↔∃ i,g i x)/\(∀ i j x,g i x->g j x->i=j)/\(∀ i e,L[i]?=some (some e)->Yya H w sz e.1 e.2 (g i))/\∀ i x,g i x->∃ e,L[i]?=some (some e)
 | .nest sz kz ver xs,p,f=>p.1=ver/\∃ (ts:List (List D × Value × List (List D))) (r q:Nat->Prop),ts.map (fun t=>(t.1,t.2.2))=xs/\Yya H w sz p.2 (ts.map fun t=>t.1++[.raw t.2.1]) r /\
     Xt8 H w kz (ts.map fun t=>some t.2) q/\(∀ x,f x↔r x\/q x)/\∀ x,r x->¬ q x
 | .lp l fr rc st pd,_,f=>(∀ x,f x↔x=l)/\w.heap[l]?=some (.loop { rc with state:=st,pending:=pd })/\Xal (Xax H an) fr rc.tmps.toList
theorem Xb7.keep {H K:Heap} {an bn:Anc} {w w':World} {c:Ch} {p:Nat × Value} {f:Nat->Prop} (h:Xb7 H an w c p f)
  (hH:Heap.Le H K) (ha:Anc.Le an bn) (hf:∀ x,f x->w'.heap[x]?=w.heap[x]?):Xb7 K bn w' c p f:=by
 cases c with
 | dead=>exact h
 | cells cs =>
  obtain⟨h0,b,T,vs,h1,h2,h3,h4⟩:=h
  exact⟨h0,b,T,vs,h1,h2,(hf b ((h2 b).2 rfl)).trans h3,Xal.mono (fun _ _=>Xb0.mono hH ha) h4⟩
 | row sz ver xs =>
  obtain⟨h0,hs,h1,h2,h3,h4⟩:=h
  refine⟨h0,hs,h1,h2,h3,?_⟩
  rcases h4 with h4|⟨b,o,cap,vs,T,e1,e2,e3,e4,e5,e6⟩
  ·exact .inl h4
  ·exact .inr ⟨b,o,cap,vs,T,e1,e2,(hf b ((e2 b).2 rfl)).trans e3,e4,e5,fun i x j y hx hy=>let ⟨v,hv,hd⟩:=e6 i x j y hx hy;⟨v,hv,Den.mono hH hd⟩⟩
 | map es =>
  obtain⟨h0,b,ents,clk,h1,h2,h3,h4⟩:=h
  exact⟨h0,b,ents,clk,h1,h2,(hf b ((h2 b).2 rfl)).trans h3,Xal.mono (fun _ _ q=>⟨Xam.mono hH ha q.1,Xam.mono hH ha q.2⟩) h4⟩
 | siter s pos =>
  obtain⟨h0,b,h1,h2,h3⟩:=h
  exact⟨h0,b,h1,h2,(hf b ((h2 b).2 rfl)).trans h3⟩
 | abs J=>exact⟨h.2 w' hf,fun w'' hw=>h.2 w'' fun x hx=>(hw x hx).trans (hf x hx)⟩
 | bld T y =>
  obtain⟨h0,b,p0,v,T',h1,h2,h3,h4,h5⟩:=h
  exact⟨h0,b,p0,v,T',h1,h2,(hf b ((h2 b).2 rfl)).trans h3,h4,Xb0.mono hH ha h5⟩
 | brow e ver bs =>
  obtain⟨h0,h1,h5,⟨h2,h3⟩,h4⟩:=h
  refine⟨h0,h1,h5,⟨h2,?_⟩,h4⟩
  rcases h3 with h3|⟨g,cap,cur,e1,e2,e3,r⟩
  ·exact .inl h3
  ·exact .inr ⟨g,cap,cur,e1,e2,(hf g ((h4 g).2 (by rw[e1];rfl))).trans e3,r⟩
 | lp l fr rc st pd =>
  obtain⟨h1,h2,h3⟩:=h
  exact⟨h1,(hf l ((h1 l).2 rfl)).trans h2,Xal.mono (fun _ _=>Xax.mono hH ha) h3⟩
 | rowA sz ver xs =>
  obtain⟨h0,h1,h2,h3,b,o,cap,vs,T,e1,e2,e3,e4,e5,e6⟩:=h
  exact⟨h0,h1,h2,h3,b,o,cap,vs,T,e1,e2,(hf b ((e2 b).2 rfl)).trans e3,e4,e5,fun i x j y hx hy=>let ⟨v,hv,hd⟩:=e6 i x j y hx hy;⟨v,hv,Xb0.mono hH ha hd⟩⟩
 | pool sz L =>
  obtain⟨g,h1,h2,h3,h4⟩:=h
  exact⟨g,h1,h2,fun i e he=>(h3 i e he).keep hH fun x hx=>hf x ((h1 x).2 ⟨i,hx⟩),h4⟩
 | nest sz kz ver xs =>
  obtain⟨h0,ts,r,q,h1,h2,h3,h4,h5⟩:=h
  exact⟨h0,ts,r,q,h1,h2.keep hH fun x hx=>hf x ((h4 x).2 (.inl hx)),h3.keep hH fun x hx=>hf x ((h4 x).2 (.inr hx)),h4,h5⟩
end Go.Fw
namespace Go.Fw
open Go
inductive Opd where
 | t (n:Nat)
 | c (v:V)
inductive Leaf where
 | i|b|s
inductive NK where
 | sl|ifc|fn|ptr
inductive MOp where
 | mv (x:Opd)
 | pick (c x y:Opd)
 | alloc (z:List D)
 | bldN (T e:TypeId)
 | appS (e:TypeId) (x y:Opd)
 | box (x:Opd)
 | ibox (x:Opd)
 | build (z:List D) (parts:List (Nat × Nat × Opd))
 | bslice (sz:Nat) (z:List D) (len:Nat) (parts:List (Nat × Opd))
 | bslO (sz:Nat) (z:List D) (len:Nat) (parts:List (Nat × Opd))
 | load (n:Nat) (ag:Bool) (x:Opd)
 | store (n:Nat) (x y:Opd)
 | fad (off:Nat) (x:Opd)
 | iad (sz:Nat) (x i:Opd)
 | iadA (len sz:Nat) (x i:Opd)
 | idxS (x i:Opd)
 | len (kd:Leaf) (x:Opd)
 | app (e:TypeId) (sz bytes:Nat) (x y:Opd)
 | min (x y:Opd)
 | max (x y:Opd)
 | bin (kd:Leaf) (o:BinOp) (x y:Opd)
 | eqs (neg:Bool) (ks:List Leaf) (x y:Opd)
 | nilq (kd:NK) (neg:Bool) (x:Opd)
 | not (x:Opd)
 | conv (k:IntKind) (x:Opd)
 | mkI (t:TypeId) (x:Opd)
 | mkF (f:Fn) (caps:List Opd)
 | mkMv (f:Fn) (x:Opd)
 | mkM
 | lkp (ok:Bool) (z:V) (kag:Bool) (ks:List Leaf) (m k:Opd)
 | mupd (kag:Bool) (ks:List Leaf) (m k v:Opd)
 | mkS (sz bytes:Nat) (z:List D) (l:Opd)
 | slcS (x:Opd) (lo hi:Option Opd)
 | slc (sz:Nat) (x:Opd) (lo hi:Option Opd)
 | ext (x:Opd) (i:Nat)
 | call (f:FuncId) (args:List Opd)
 | callv (g:Opd) (args:List Opd)
 | rng (x:Opd)
 | nxt (x:Opd)
 | tas (t:TypeId) (ok:Bool) (z:V) (x:Opd)
 | cpy (sz:Nat) (x y:Opd)
 | nck (x:Opd)
 | idxA (len:Nat) (x i:Opd)
 | ild (n:Nat) (ag:Bool) (x:Opd)
 | cld (n:Nat) (ag:Bool) (x:Opd)
 | iadD (sz:Nat) (x i:Opd)
 | slcR (sz:Nat) (x:Opd) (lo hi:Option Opd)
 | holes (ts:List (Nat × Nat))
 | strB (x:Opd)
 | callN (f:FuncId) (args:List Opd)
 | appF (e:TypeId) (sz bytes:Nat) (x y:Opd)
 | iac (sz:Nat) (x i:Opd)
 | callvF (g:Opd) (args:List Opd)
 | mkSD (sz bytes:Nat) (z:List D) (l:Opd)
 | inv (m:String) (x:Opd)
inductive MO where
 | op (d:Option Nat) (o:MOp)
 | opx (d:Option Nat) (o:MOp)
 | chk (t:Nat) (b:Bool) (d:Option Nat)
inductive MC where
 | skip
 | reg (draw:Bool) (ops:List MO)
 | regv (ops:List MO)
 | regw (ops:List MO)
 | regp (ops:List MO)
 | seq (a b:MC)
 | cond (c:Opd) (x y:MC)
 | blk (id:Nat) (b:MC)
 | loop (b:MC)
 | rf (f:Opd) (ps:List Nat) (asg body:MC)
 | exit (id:Nat)
 | scope (b:MC)
 | ret
def dOf:Value->Option D
 | .int k n=>some (.int k n)
 | .bool b=>some (.bool b)
 | .string s=>some (.str s)
 | .slice none 0 0=>some (.sl [])
 | .nilIface=>some .nilI
 | .nilFunc=>some .nilF
 | .pointer none=>some .nilP
 | .map none=>some (.raw (.map none))
 | .iface t (.pointer (some a))=>some (.raw (.iface t (.pointer (some a))))
 | _=>none
def Xhl:List Value->Option (List D)
 | []=>some []
 | v::l=>(dOf v).bind fun x=>(Xhl l).map (x::·)
def vOf:Value->V
 | .agg cs=>match Xhl cs.toList with
  | some l=>.agg (l.map A.ofZ)
  | none=>.un
 | v=>match dOf v with
  | some x=>.one (A.ofZ x)
  | none=>.un
def Xac:Operand->Opd
 | .tmp t=>.t t
 | .const v=>.c (vOf v)
 | .global g=>.c (.one (.d (.raw (.pointer (some ⟨g,0,none⟩)))))
 | .func f=>.c (.one (.d (.fn (.func f) [])))
section
variable (P:Program)
def isAggB (t:TypeId):Bool:=match P.underlying t with
 | some (.struct _)=>true
 | some (.array _ _)=>true
 | _=>false
def szOf (t:TypeId):Option Nat:=if (P.underlying t).isSome then (P.info? t).map (·.size) else none
def Xcc (t:TypeId):Option Nat:=(P.info? t).map (·.bytes)
def Xb6 (t:TypeId):Option (List D):=(P.info? t).bind fun i=>i.zero.bind fun z=>Xhl z.cells.toList
def Xfz (t:TypeId):Option V:=(P.info? t).bind fun i=>i.zero.map vOf
def Xcj (t:TypeId):Option Leaf:=match P.underlying t with
 | some .bool=>some .b
 | some (.int _)=>some .i
 | some .string=>some .s
 | _=>none
def Xed:List Field->Nat->Option (List Leaf)
 | [],_=>some []
 | f :: l, i => if f.name ≠ "_" /\ f.offset = i then (Xcj P f.type).bind fun k => (Xed l (i + 1)).map (k :: ·) else none
def Xpv (t:TypeId):Option (List Leaf):=match P.underlying t with
 | some (.struct fs)=>if !P.stoodInHeld t && !P.eqGuardType P.depth t then Xed P fs.toList 0 else none
 | _=>none
def Xc5:List Field->Nat->Option (List Leaf)
 | [],_=>some []
 | f :: l, i => if f.name ≠ "_" /\ f.offset = i then (match Xcj P f.type with
   | some k=>(Xc5 l (i+1)).map (k::·)
   | none=>(match Xpv P f.type with
    | some ks=>if szOf P f.type=some ks.length then (Xc5 l (i+ks.length)).map (ks++·) else none
    | none=>none)) else none
def Xhm (t:TypeId):Option (List Leaf):=match P.underlying t with
 | some (.struct fs)=>if !P.stoodInHeld t && !P.eqGuardType P.depth t then Xc5 P fs.toList 0 else none
 | _=>none
def Xhb (t:TypeId):Option (Bool × List Leaf):=match Xcj P t with
 | some k=>some (false,[k])
 | none=>(Xhm P t).map fun ks=>(true,ks)
def Xmu (t:TypeId) (p:Nat × Operand):Option (Nat × Nat × Opd):=match P.underlying t with
 | some (.struct fs)=>(fs[p.1]?).bind fun f=>(szOf P f.type).map fun n=>(f.offset,n,Xac p.2)
 | some (.array _ e)=>(szOf P e).map fun n=>(p.1*n,n,Xac p.2)
 | _=>none
def Xf0 (t:TypeId):List (Nat × Operand)->Option (List (Nat × Nat × Opd))
 | []=>some []
 | p::l=>(Xmu P t p).bind fun q=>(Xf0 t l).map (q::·)
def Xn1 (t:TypeId):Bool:=match P.underlying t with
 | some (.struct fs)=>fs.toList.all fun f=>(szOf P f.type).isSome
 | some (.array _ e)=>(szOf P e).isSome
 | _=>false
def Y81:TypeDesc->Option NK
 | .slice _=>some .sl
 | .interface _=>some .ifc
 | .func ..=>some .fn
 | .pointer _=>some .ptr
 | _=>none
def X3g:NK->Operand->Bool
 | .sl,.const (.slice none _ _)=>true
 | .ifc,.const .nilIface=>true
 | .fn,.const .nilFunc=>true
 | .ptr,.const (.pointer none)=>true
 | _,_=>false
def Ynw (t:TypeId):Option TypeId:=match P.underlying t with
 | some (.struct fs)=>(match fs.toList with
  | [f,g]=>(match P.underlying f.type,P.underlying g.type with
   | some (.pointer u),some (.slice e)=>(match P.underlying e,Xb6 P t with
    | some (.int .u8),some [.nilP,.sl []]=>if u=t then some e else none
    | _,_=>none)
   | _,_=>none)
  | _=>none)
 | _=>none
def Jen (z:List D):List D:=z.map fun|.sl _=>.raw (.slice none 0 0)|x=>x
def Ynx (imm:Bool) (o:Op):Option MOp:=match o with
 | .move x=>some (.mv (Xac x))
 | .assign x=>some (.mv (Xac x))
 | .pick c x y=>some (.pick (Xac c) (Xac x) (Xac y))
 | .alloc t=>(match Ynw P t with
  | some e=>some (.bldN t e)
  | none=>(Xb6 P t).map .alloc)
 | .box _ x=>some (if imm then .ibox (Xac x) else .box (Xac x))
 | .build t ps=>if Xn1 P t then (Xb6 P t).bind fun z=>(Xf0 P t ps.toList).map fun q=>.build (if imm then Jen z else z) q else none
 | .buildSlice t len ps=>match P.underlying t with
  | some (.slice e)=>(szOf P e).bind fun n=>(Xb6 P e).map fun z=>if imm then .bslO n z len (ps.toList.map fun p=>(p.1,Xac p.2)) else .bslice n z len (ps.toList.map fun p=>(p.1,Xac p.2))
  | _=>none
 | .load t x=>(szOf P t).map fun n=>.load n (isAggB P t) (Xac x)
 | .store t x y=>(szOf P t).map fun n=>.store n (Xac x) (Xac y)
 | .fieldAddr t x f=>match P.underlying t with
  | some (.struct fs)=>(fs[f]?).bind fun g=>(szOf P g.type).bind fun n=>if n=0 then none else some (.fad g.offset (Xac x))
  | _=>none
 | .indexAddr t x i=>match P.underlying t with
  | some (.slice e)=>(szOf P e).map fun n=>.iad n (Xac x) (Xac i)
  | some (.array len e)=>(szOf P e).map fun n=>.iadA len n (Xac x) (Xac i)
  | _=>none
 | .index t x i=>match P.underlying t with
  | some .string=>some (.idxS (Xac x) (Xac i))
  | some (.array len e)=>if isAggB P e=false/\szOf P e=some 1 then some (.idxA len (Xac x) (Xac i)) else none
  | _=>none
 | .binOp o t x y _=>match P.underlying t with
  | some (.struct _)=>(Xhm P t).bind fun ks=>(match o with
    | .eql=>some (.eqs false ks (Xac x) (Xac y))
    | .neq=>some (.eqs true ks (Xac x) (Xac y))
    | _=>none)
  | some (.int _)=>some (.bin .i o (Xac x) (Xac y))
  | some .string=>some (.bin .s o (Xac x) (Xac y))
  | some .bool=>some (.bin .b o (Xac x) (Xac y))
  | some d=>(Y81 d).bind fun k=>if X3g k y then (match o with
    | .eql=>some (.nilq k false (Xac x))
    | .neq=>some (.nilq k true (Xac x))
    | _=>none) else none
  | _=>none
 | .unOp .not _ x=>some (.not (Xac x))
 | .convert s t x=>match P.underlying s,P.underlying t with
  | some (.int _),some (.int k)=>some (.conv k (Xac x))
  | some (.slice e),some .string=>(match P.underlying e with|some (.int .u8)=>some (.strB (Xac x))|_=>none)
  | _,_=>none
 | .makeInterface t x=>match P.underlying t with
  | some (.interface _)=>none
  | none=>none
  | _=>some (.mkI t (Xac x))
 | .makeFunc f first caps=>match first.toList with
  | []=>some (.mkF f (caps.toList.map Xac))
  | [x]=>if caps.size=0 then some (.mkMv f (Xac x)) else none
  | _=>none
 | .makeMap _ none=>some .mkM
 | .lookup t m k ok=>match P.underlying t with
  | some (.map kt e)=>(Xhb P kt).bind fun q=>(Xfz P e).map fun z=>.lkp ok z q.1 q.2 (Xac m) (Xac k)
  | _=>none
 | .mapUpdate t m k v=>match P.underlying t with
  | some (.map kt _)=>(Xhb P kt).map fun q=>.mupd q.1 q.2 (Xac m) (Xac k) (Xac v)
  | _=>none
 | .insert t m k v=>match P.underlying t with
  | some (.map kt _)=>(Xhb P kt).map fun q=>.mupd q.1 q.2 (Xac m) (Xac k) (Xac v)
  | _=>none
 | .makeSlice t l c=>match P.underlying t with
  | some (.slice e)=>match l,c with
   | .tmp a,.tmp b=>if a=b then (szOf P e).bind fun n=>(Xcc P e).bind fun by_=>(Xb6 P e).map fun z=>if imm then .mkSD n by_ z (.t a) else .mkS n by_ z (.t a) else none
   | .const (.int k a),.const (.int _ b)=>if a=b then (szOf P e).bind fun n=>(Xcc P e).bind fun by_=>(Xb6 P e).map fun z=>if imm then .mkSD n by_ z (.c (.one (.d (.int k a)))) else .mkS n by_ z (.c (.one (.d (.int k a)))) else none
   | _,_=>none
  | _=>none
 | .slice t x lo hi none=>match P.underlying t with
  | some .string=>some (.slcS (Xac x) (lo.map Xac) (hi.map Xac))
  | some (.slice e)=>(szOf P e).map fun n=>.slc n (Xac x) (lo.map Xac) (hi.map Xac)
  | _=>none
 | .extract x i=>some (.ext (Xac x) i)
 | .call { callee:=.builtin .len,args,argTypes }=>match args.toList,argTypes.toList with
  | [x],[t]=>(match P.underlying t with
   | some .string=>some (.len .s (Xac x))
   | some (.slice _)=>some (.len .i (Xac x))
   | some (.map _ _)=>some (.len .b (Xac x))
   | _=>none)
  | _,_=>none
 | .call { callee:=.builtin .append,args,argTypes }=>match args.toList,argTypes.toList with
  | [x,y],[t,t']=>if t=t' then (match P.underlying t with
   | some (.slice e)=>(szOf P e).bind fun n=>(Xcc P e).bind fun by_=>(Xb6 P e).bind fun z=>if n=0 || z.length != n then none else some (.app e n by_ (Xac x) (Xac y))
   | _=>none) else (match P.underlying t,P.underlying t' with
   | some (.slice e),some .string=>(match (P.info? e).bind (·.zero) with
    | some (.int .u8 0)=>if szOf P e=some 1/\Xcc P e=some 1 then some (.appS e (Xac x) (Xac y)) else none
    | _=>none)
   | _,_=>none)
  | _,_=>none
 | .call { callee:=.builtin .min,args,.. }=>match args.toList with
  | [x,y]=>some (.min (Xac x) (Xac y))
  | _=>none
 | .call { callee:=.builtin .max,args,.. }=>match args.toList with
  | [x,y]=>some (.max (Xac x) (Xac y))
  | _=>none
 | .range t x=>match P.underlying t with
  | some .string=>some (.rng (Xac x))
  | _=>none
 | .next x true=>some (.nxt (Xac x))
 | .typeAssert x _ t ok=>match P.underlying t with
  | some (.interface _)=>none
  | none=>none
  | _=>(Xfz P t).map fun z=>.tas t ok z (Xac x)
 | .call { callee:=.builtin .copy,args,argTypes }=>match args.toList,argTypes.toList with
  | [x,y],[t,_]=>(match P.underlying t with
   | some (.slice e)=>(szOf P e).map fun n=>.cpy n (Xac x) (Xac y)
   | _=>none)
  | _,_=>none
 | .nilCheck x=>some (.nck (Xac x))
 | .unOp .neg t x=>match P.underlying t with
  | some (.int .i64)=>some (.bin .i .sub (.c (.one (.d (.int .i64 0)))) (Xac x))
  | _=>none
 | _=>none
def Wwx (imm:Bool) (o:Op):Option MOp:=match o with
 | .call { callee:=.value (.func f),args,.. }=>some (.call f (args.toList.map Xac))
 | .call { callee:=.value g,args,.. }=>some (.callv (Xac g) (args.toList.map Xac))
 | .call { callee:=.invoke r m,args,.. }=>if args.toList.isEmpty then some (.inv m (Xac r)) else none
 | o=>Ynx P imm o
structure Rc where
 g:Option (Nat × Bool)
 d:Option Nat
 o:MOp
 fx:Bool
def Wwy (hs:List Nat) (ops:Array Oper) (o:Oper):Option Rc :=
 (Wwx P (match o.dst with|some d=>hs.contains d|none=>false) o.op).bind fun m=>match o.guard with
  | none=>some ⟨none,o.dst,m,false⟩
  | some (j,b)=>((ops[j]?).bind (·.dst)).map fun t=>⟨some (t,b),o.dst,m,false⟩
def Xil (hs:List Nat) (ops:Array Oper):List Oper->Option (List Rc)
 | []=>some []
 | o::l=>(Wwy P hs ops o).bind fun r=>(Xil hs ops l).map (r::·)
def Xem:List Rc->List MO
 | []=>[]
 | ⟨none,d,o,false⟩::l=>.op d o::Xem l
 | ⟨none,d,o,true⟩::l=>.opx d o::Xem l
 | ⟨some (t,b),d,o,false⟩::l=>.chk t b d::.op d o::Xem l
 | ⟨some (t,b),d,o,true⟩::l=>.chk t b d::.opx d o::Xem l
inductive Kind where
 | free|read|eff|alloc|cread|rapp
def Xc4:MOp->Kind
 | .alloc _=>.alloc
 | .bldN ..=>.eff
 | .appS ..=>.eff
 | .box _=>.alloc
 | .mkM=>.alloc
 | .mkS ..=>.alloc
 | .callN ..=>.alloc
 | .store ..=>.eff
 | .mupd ..=>.eff
 | .rng _=>.eff
 | .nxt _=>.eff
 | .app ..=>.rapp
 | .appF ..=>.rapp
 | .callvF ..=>.rapp
 | .cld ..=>.cread
 | .iac ..=>.cread
 | .slcR ..=>.rapp
 | .holes _=>.eff
 | .cpy ..=>.eff
 | .bslO ..=>.eff
 | .load ..=>.read
 | .lkp ..=>.read
 | .iad ..=>.read
 | .slc ..=>.read
 | .len ..=>.read
 | .call ..=>.read
 | .callv ..=>.read
 | .inv ..=>.read
 | _=>.free
def Rc.kind (r:Rc):Kind:=if r.fx then .eff else Xc4 r.o
def Xn2:Kind->Kind->Bool
 | .free,_=>true
 | _,.free=>true
 | .read,.read=>true
 | .read,.alloc=>true
 | .alloc,.read=>true
 | .cread,.read=>true
 | .read,.cread=>true
 | .cread,.cread=>true
 | .cread,.alloc=>true
 | .alloc,.cread=>true
 | .cread,.rapp=>true
 | _,_=>false
def Ww6:Opd->Option Nat
 | .t n=>some n
 | .c _=>none
def Yyb:Option Opd->List Opd
 | some x=>[x]
 | none=>[]
def MOp.opds:MOp->List Opd
 | .mv x=>[x]
 | .pick c x y=>[c,x,y]
 | .alloc _=>[]
 | .bldN ..=>[]
 | .appS _ x y=>[x,y]
 | .box x=>[x]
 | .ibox x=>[x]
 | .build _ ps=>ps.map fun p=>p.2.2
 | .bslice _ _ _ ps=>ps.map fun p=>p.2
 | .bslO _ _ _ ps=>ps.map fun p=>p.2
 | .load _ _ x=>[x]
 | .store _ x y=>[x,y]
 | .fad _ x=>[x]
 | .iad _ x i=>[x,i]
 | .iadA _ _ x i=>[x,i]
 | .idxS x i=>[x,i]
 | .len _ x=>[x]
 | .app _ _ _ x y=>[x,y]
 | .appF _ _ _ x y=>[x,y]
 | .min x y=>[x,y]
 | .max x y=>[x,y]
 | .bin _ _ x y=>[x,y]
 | .eqs _ _ x y=>[x,y]
 | .nilq _ _ x=>[x]
 | .not x=>[x]
 | .conv _ x=>[x]
 | .mkI _ x=>[x]
 | .mkF _ l=>l
 | .mkMv _ x=>[x]
 | .mkM=>[]
 | .lkp _ _ _ _ m k=>[m,k]
 | .mupd _ _ m k v=>[m,k,v]
 | .mkS _ _ _ l=>[l]
 | .mkSD _ _ _ l=>[l]
 | .slcS x lo hi=>x::(Yyb lo++Yyb hi)
 | .slc _ x lo hi=>x::(Yyb lo++Yyb hi)
 | .ext x _=>[x]
 | .call _ l=>l
 | .callN _ l=>l
 | .callv g l=>g::l
 | .callvF g l=>g::l
 | .rng x=>[x]
 | .nxt x=>[x]
 | .tas _ _ _ x=>[x]
 | .cpy _ x y=>[x,y]
 | .nck x=>[x]
 | .idxA _ x i=>[x,i]
 | .ild _ _ x=>[x]
 | .cld _ _ x=>[x]
 | .iadD _ x i=>[x,i]
 | .iac _ x i=>[x,i]
 | .strB x=>[x]
 | .inv _ x=>[x]
 | .slcR _ x lo hi=>x::(Yyb lo++Yyb hi)
 | .holes ts=>ts.map fun t=>.t t.1
def Rc.slots (r:Rc):List Nat:=(match r.g with|some (t,_)=>[t]|none=>[])++r.o.opds.filterMap Ww6
def Xdn (o:Oper):List Nat:=(o.after.toList.filter (Region.binds .any)).map (·.on)
def Xg7 (acc:List Nat):List Nat->Nat
 | []=>0
 | i::l=>2 ^ i ||| acc.getD i 0 ||| Xg7 acc l
def Xbb:List Oper->List Nat->List Nat
 | [],acc=>acc
 | o::l,acc=>Xbb l (acc++[Xg7 acc (Xdn o)])
def Xki (ms:List Nat) (i j:Nat) (x y:Rc):Bool :=
 (match x.d,y.d with|some a,some b=>a != b|_,_=>true) &&
 ((ms.getD j 0).testBit i || (Xn2 x.kind y.kind && (match y.d with|some b=>!(x.slots.contains b)|none=>true) && (match x.d with|some a=>!(y.slots.contains a)|none=>true)))
def Xkj (ms:List Nat) (i:Nat) (x:Rc):Nat->List Rc->Bool
 | _,[]=>true
 | j,y::l=>Xki ms i j x y && Xkj ms i x (j+1) l
def A.refs0:A->List Nat
 | .own i _=>[i]
 | .ptr i _=>[i]
 | .rp i ..=>[i]
 | _=>[]
def A.refs:A->List Nat
 | .clo _ caps=>caps.flatMap A.refs0
 | .mvo _ _ rcv=>rcv.flatMap A.refs0
 | .ifo _ a=>a.refs0
 | a=>a.refs0
def V.refs:V->List Nat
 | .one a=>a.refs
 | .agg l=>l.flatMap A.refs
 | _=>[]
def V.refs0:V->List Nat
 | .one a=>a.refs0
 | .agg l=>l.flatMap A.refs0
 | _=>[]
def V.refsT:V->List Nat
 | .tup l=>l.flatMap V.refs
 | v=>v.refs
def Opd.plain:Opd->Bool
 | .t _=>true
 | .c v=>v.refs.isEmpty
def Xcd (ms:List Nat):Nat->List Rc->Bool
 | _,[]=>true
 | i,x::l=>x.o.opds.all Opd.plain && Xkj ms i x (i+1) l && Xcd ms (i+1) l
def Y82:MOp->Bool
 | .call ..=>true
 | .callv ..=>true
 | _=>false
def Y83:Kind->Bool
 | .free=>true
 | _=>false
def Yyc (ms:List Nat) (j:Nat):Nat->List Rc->Bool
 | _,[]=>true
 | i,r::l=>(i==j || Y83 (Xc4 r.o) || (if i < j then (ms.getD j 0).testBit i else (ms.getD i 0).testBit j)) && Yyc ms j (i+1) l
def fxs (ms:List Nat) (rs0:List Rc):Nat->List Rc->List Rc
 | _,[]=>[]
 | j,r::l=>⟨r.g,r.d,r.o,Y82 r.o && Yyc ms j 0 rs0⟩::fxs ms rs0 (j+1) l
def Xen:Nat->List Oper->Bool
 | _,[]=>true
 | i,o::l=>((Xdn o).all fun e=>decide (e < i)) && Xen (i+1) l
def Jip:Option Nat->List Nat->List Nat
 | some d,l=>d::l
 | none,l=>l
def rfO (cl:Bool) (ds:List Nat):MOp->MOp × Bool
 | .load n ag (.t k)=>if ds.contains k then (.ild n ag (.t k),true) else (if cl then .cld n ag (.t k) else .load n ag (.t k),false)
 | .iad n (.t k) i=>if ds.contains k then (.iadD n (.t k) i,true) else (.iad n (.t k) i,false)
 | .slc n x lo hi=>(if cl then .slcR n x lo hi else .slc n x lo hi,false)
 | .fad o (.t k)=>(.fad o (.t k),ds.contains k)
 | .mv (.t k)=>(.mv (.t k),ds.contains k)
 | o=>(o,false)
def rfD (cl:Bool):List Nat->List Rc->List Rc
 | _,[]=>[]
 | ds,r::l=>⟨r.g,r.d,(rfO cl ds r.o).1,r.fx⟩::rfD cl (if (rfO cl ds r.o).2 then Jip r.d ds else ds) l
def Yyd (hs:List Nat):Bool:=hs.any fun t=>decide (1000<=t)
def Ww7 (hs:List Nat) (r:Rc):Rc:=match r.d,r.o with
 | some t,.call f args=>if hs.contains (3000+t) then ⟨r.g,r.d,.callN f args,r.fx⟩ else r
 | some t,.app e n b x y=>if hs.contains (4000+t) then ⟨r.g,r.d,.appF e n b x y,r.fx⟩ else r
 | some t,.callv g args=>if hs.contains (6000+t) then ⟨r.g,r.d,.callvF g args,r.fx⟩ else r
 | some t,.iad n x i=>if hs.contains (5000+t) then ⟨r.g,r.d,.iac n x i,r.fx⟩ else r
 | _,_=>r
def Jeo (hs:List Nat) (rs:List Rc):List Rc:=if Yyd hs then rfD (hs.contains 2000) ((hs.filter fun t=>decide (1000<=t)).map fun t=>t - 1000) rs else rs
def rfH (hs:List Nat) (rs:List Rc):List Rc:=(Jeo hs rs).map (Ww7 hs)
def trR (hs:List Nat) (ops:Array Oper):Bool->Option (List MO)
 | false=>(Xil P hs ops ops.toList).map Xem
 | true=>(Xil P hs ops ops.toList).bind fun rs=>if P.follows .mixedOrders && Xen 0 ops.toList && Xcd (Xbb ops.toList []) 0 (fxs (Xbb ops.toList []) (rfH hs rs) 0 (rfH hs rs)) then some (Xem (fxs (Xbb ops.toList []) (rfH hs rs) 0 (rfH hs rs))) else none
structure Var where
 t:Nat
 n:Nat
 z:List D
 y:Nat
def Var.aRc (x:Var):Rc:=⟨none,some x.t,.alloc x.z,false⟩
def Var.sRc (x:Var):Rc:=⟨none,none,.store x.n (.t x.t) (.t x.y),false⟩
def Var.bRc (x:Var):Rc:=⟨none,some x.t,.ibox (.t x.y),false⟩
def Jep:Rc->Rc->Option Var
 | ⟨none,some t,.alloc z,false⟩,⟨none,none,.store n (.t u) (.t y),false⟩=>if u=t/\z.length=n then some ⟨t,n,z,y⟩ else none
 | _,_=>none
def X3h:List Rc->List Rc->Option (List Var)
 | [],[]=>some []
 | a::l,b::m=>(Jep a b).bind fun x=>(X3h l m).map (x::·)
 | _,_=>none
def Yny:MOp->Bool
 | .ild ..=>true
 | .iadD ..=>true
 | .fad ..=>true
 | _=>false
def Xmv:List Rc->Nat
 | []=>0
 | r::l=>if Yny r.o && r.g.isNone && !r.fx then Xmv l+1 else 0
def Jeq (ms:List Nat) (m v:Nat) (fs:List Rc) (xs:List Var) (k:Nat) (x:Var):Bool :=
 (ms.getD (m+v+k) 0).testBit (m+k) && ((List.range m).all fun i=>(fs[i]?).all fun r=>r.d != some x.y || (ms.getD (m+v+k) 0).testBit i) &&
 (fs.all fun r=>r.d != some x.t && !r.slots.contains x.t) && (xs.all fun z=>z.y != x.t) && ((List.range k).all fun l=>(xs[l]?).all fun z=>z.t != x.t)
def X3i (ms:List Nat) (m v:Nat) (fs:List Rc) (xs:List Var):Bool:=(List.range v).all fun k=>(xs[k]?).all (Jeq ms m v fs xs k)
def Ji8 (ops:Array Oper) (rs:List Rc):Option (List MO) :=
 (X3h ((rs.drop (Xmv rs)).take ((rs.length - Xmv rs) / 2)) ((rs.drop (Xmv rs)).drop ((rs.length - Xmv rs) / 2))).bind fun xs =>
  if Xen 0 ops.toList && Xcd (Xbb ops.toList []) 0 (rs.take (Xmv rs)) && X3i (Xbb ops.toList []) (Xmv rs) xs.length (rs.take (Xmv rs)) xs
  then some (Xem (rs.take (Xmv rs)++xs.map Var.bRc++[⟨none,none,.holes (xs.map fun x=>(x.t,x.n)),false⟩])) else none
def trV (hs:List Nat) (ops:Array Oper):Bool->Option (List MO)
 | false=>none
 | true=>if Yyd hs && P.follows .mixedOrders then (Xil P hs ops ops.toList).bind fun rs=>Ji8 ops (rfH hs rs) else none
def Var.two (x:Var):List Rc:=[x.aRc,x.sRc]
structure RowK where
 j:Nat
 t:Nat
 sz:Nat
 z:List D
 n:Nat
 ps:List (Nat × Opd)
def RowK.rc (r:RowK):Rc:=⟨none,some r.t,.bslO r.sz r.z r.n r.ps,false⟩
def Ww8:Nat->List Rc->Option RowK
 | _,[]=>none
 | i,x::l=>match x with
  | ⟨none,some t,.bslO sz z n ps,false⟩=>some ⟨i,t,sz,z,n,ps⟩
  | _=>Ww8 (i+1) l
def Xt9:Rc:=⟨none,none,.mv (.c (.one .nil)),false⟩
def Jer (ms:List Nat) (m v:Nat) (fs:List Rc) (xs:List Var) (r:RowK):Bool :=
 (decide (0 < r.n) && decide (r.j < m)) && ((fs.all fun x=>x.d != some r.t && !x.slots.contains r.t) && ((xs.all fun x=>x.t != r.t && !r.rc.slots.contains x.t) && (!r.rc.slots.contains r.t &&
 (((List.range m).all fun i=>(fs[i]?).all fun q=>r.rc.slots.all fun s=>q.d != some s || (ms.getD r.j 0).testBit i) &&
 (((List.range v).all fun k=>(xs[k]?).all fun x=>x.y != r.t || (ms.getD (m+v+k) 0).testBit r.j) && xs.any fun x=>x.y==r.t)))))
def Jiq (ops:Array Oper) (rs:List Rc) (v:Nat):Option (List MO) :=
 (X3h ((rs.drop (rs.length - 2*v)).take v) ((rs.drop (rs.length - 2*v)).drop v)).bind fun xs =>
  if (decide (2*v<=rs.length) && Xen 0 ops.toList) && (Xcd (Xbb ops.toList []) 0 (rs.take (rs.length - 2*v)) && X3i (Xbb ops.toList []) (rs.length - 2*v) v (rs.take (rs.length - 2*v)) xs)
  then some (Xem (rs.take (rs.length - 2*v)++xs.flatMap Var.two)) else
  (Ww8 0 (rs.take (rs.length - 2*v))).bind fun r =>
  if (decide (2*v<=rs.length) && Xen 0 ops.toList) && ((Xcd (Xbb ops.toList []) 0 ((rs.take (rs.length - 2*v)).set r.j Xt9) && X3i (Xbb ops.toList []) (rs.length - 2*v) v ((rs.take (rs.length - 2*v)).set r.j Xt9) xs) && Jer (Xbb ops.toList []) (rs.length - 2*v) v ((rs.take (rs.length - 2*v)).set r.j Xt9) xs r)
  then some (Xem ((rs.take (rs.length - 2*v)).set r.j Xt9++r.rc::xs.flatMap Var.two)) else none
def trW (hs:List Nat) (ops:Array Oper):Bool->Option (List MO)
 | false=>none
 | true=>if P.follows .mixedOrders then (Xil P hs ops ops.toList).bind fun rs=>(match Jiq ops (rfH hs rs) 1 with|some l=>some l|none=>Jiq ops (rfH hs rs) 2) else none
def Opd.isT (u:Nat):Opd->Bool
 | .t n=>n==u
 | .c _=>false
def Jes (ms:List Nat) (m u b:Nat) (z:Opd) (fs:List Rc):Bool :=
 (b != u && !z.isT u) && ((fs.all fun r=>r.d != some u && r.d != some b) && (((List.range m).all fun i=>(ms.getD m 0).testBit i && ((ms.getD (m+1) 0).testBit i && (ms.getD (m+2) 0).testBit i)) && (ms.getD (m+1) 0).testBit m))
def Ji9 (ops:Array Oper) (rs:List Rc):Option (List MO):=match rs.drop (rs.length - 3) with
 | [⟨none,some u,.iad _ (.t _) _,false⟩,⟨none,none,.store _ (.t u') _,false⟩,⟨none,none,.store _ (.t b) z,false⟩] =>
  if (u'==u && Xen 0 ops.toList) && (Xcd (Xbb ops.toList []) 0 (rs.take (rs.length - 3)) && Jes (Xbb ops.toList []) (rs.length - 3) u b z (rs.take (rs.length - 3))) then some (Xem rs) else none
 | _=>none
def trP (hs:List Nat) (ops:Array Oper):Bool->Option (List MO)
 | false=>none
 | true=>if P.follows .mixedOrders then (Xil P hs ops ops.toList).bind fun rs=>Ji9 ops (rfH hs rs) else none
def Jet:List MO->Option Nat
 | []=>none
 | [.op none (.store _ (.t b) _)]=>some b
 | _::l=>Jet l
def trC (hs:List Nat):Code->Option MC
 | .skip=>some .skip
 | .region _ ops d=>(match trR P hs ops d with|some l=>some (.reg d l)|none=>(match trV P hs ops d with|some l=>some (.regv l)|none=>(match trW P hs ops d with|some l=>some (.regw l)|none=>(trP P hs ops d).map .regp)))
 | .seq a b=>(trC hs a).bind fun x=>(trC hs b).map (.seq x)
 | .cond c a b=>(trC hs a).bind fun x=>(trC hs b).map (.cond (Xac c) x)
 | .block id b=>(trC hs b).map (.blk id)
 | .loop b=>(trC hs b).map .loop
 | .rangeFunc f ps a b=>(trC hs a).bind fun x=>(trC hs b).map (.rf (Xac f) ps.toList x)
 | .exit id=>some (.exit id)
 | .scope b=>(trC hs b).map .scope
 | .label _=>some .skip
 | .goto _=>none
 | .ret=>some .ret
 | .refuse _=>none
end
inductive RV where
 | t (n:Nat)
 | cell (n sz:Nat) (ag:Bool)
def Xmw (P:Program):List ResultVar->Option (List RV)
 | []=>some []
 | .tmp t::l=>(Xmw P l).map (.t t::·)
 | .cell t ty::l=>(szOf P ty).bind fun n=>if isAggB P ty || n==1 then (Xmw P l).map (.cell t n (isAggB P ty)::·) else none
structure St where
 fr:List V
 own:List Ch
def Xbn:List V->Nat->V
 | [],_=>.un
 | v::_,0=>v
 | _::l,n+1=>Xbn l n
def Xez:List V->Nat->V->List V
 | [],_,_=>[]
 | _::l,0,v=>v::l
 | u::l,n+1,v=>u::Xez l n v
def Xak:List Ch->Nat->Ch
 | [],_=>.dead
 | v::_,0=>v
 | _::l,n+1=>Xak l n
def Xb1:List Ch->Nat->Ch->List Ch
 | [],_,_=>[]
 | _::l,0,v=>v::l
 | u::l,n+1,v=>u::Xb1 l n v
def evO (fr:List V):Opd->V
 | .t n=>Xbn fr n
 | .c v=>v
def Xa3 (fr:List V) (d:Option Nat) (v:V):List V:=match d with
 | some d=>Xez fr d v
 | none=>fr
def V.cells:V->List A
 | .one a=>[a]
 | .agg l=>l
 | _=>[]
def V.ok:V->Bool
 | .one a=>a.solid
 | .agg _=>true
 | _=>false
def mkV (ag:Bool) (l:List A):V:=match ag,l with
 | true,l=>.agg l
 | false,[a]=>.one a
 | _,_=>.un
def Ww9 (n:Nat):V->Bool
 | .one (.d (.bx ds))=>decide (ds.length=n)
 | _=>false
def Xju:List A->Option (List D)
 | []=>some []
 | .d x::l=>(match Xju l with|some r=>some (x::r)|none=>none)
 | .nil::l=>(match Xju l with|some r=>some (.sl []::r)|none=>none)
 | _::_=>none
def A.nrm:A->A
 | .nil=>.d (.sl [])
 | a=>a
def V.nrm:V->V
 | .one a=>.one a.nrm
 | .agg l=>.agg (l.map A.nrm)
 | v=>v
def V.nrm2:V->V
 | .tup l=>.tup (l.map V.nrm)
 | v=>v.nrm
def Xbt:List A->Bool
 | []=>true
 | .un::_=>false
 | _::l=>Xbt l
def eqL:Leaf->A->A->Option Bool
 | .i,.d (.int j a),.d (.int k b)=>if j=k then some (a==b) else none
 | .b,.d (.bool a),.d (.bool b)=>some (a==b)
 | .s,.d (.str a),.d (.str b)=>some (decide (a=b))
 | _,_,_=>none
def Xcz:List Leaf->List A->List A->Option Bool
 | [],[],[]=>some true
 | k::ks,x::l,y::m=>(match eqL k x y,Xcz ks l m with
  | some a,some b=>some (a && b)
  | _,_=>none)
 | _,_,_=>none
def eqV (kag:Bool) (ks:List Leaf):V->V->Option Bool
 | .one a,.one b=>if kag then none else Xcz ks [a] [b]
 | .agg a,.agg b=>if kag then Xcz ks a b else none
 | _,_=>none
def Xdz (kag:Bool) (ks:List Leaf):List (V × V)->V->Option (Option V)
 | [],_=>some none
 | (k,v)::l,x=>(match eqV kag ks x k with
  | some true=>some (some v)
  | some false=>Xdz kag ks l x
  | none=>none)
def Xmx (kag:Bool) (ks:List Leaf):List (V × V)->V->V->Option (List (V × V))
 | [],x,v=>some [(x,v)]
 | (k,u)::l,x,v=>(match eqV kag ks x k with
  | some true=>some ((x,v)::l)
  | some false=>(match Xmx kag ks l x v with|some r=>some ((k,u)::r)|none=>none)
  | none=>none)
end Go.Fw
namespace Go.Fw
open Go
structure Sx where
 P:Program
 gp:Heap
 np:Nat
 rs:List RV
 R:V->List Ch->Prop
 rd:Bool
structure Dyn where
 H0:Heap
 an0:Anc
 U:Nat->Prop
 w0:World
 round:Option Nat
def Jed (r:Nat):Deferred:={ target:=.collected r,args:=#[] }
structure SatX (S:Sx) (Y:Dyn) (s:St) (a:Act) (w:World) (H:Heap) (an:Anc) (F:Nat->Nat->Prop) (ms:List Nat):Prop where
 gp:Heap.Le S.gp H
 h0:Heap.Le Y.H0 H
 mod:Xci w H
 fr:Xal (Xax H an) s.fr a.tmps.toList
 anc:∀ i,(∃ p,an i=some p)↔i < s.own.length
 own:∀ i c,s.own[i]?=some c->∃ p,an i=some p/\Xb7 H an w c p (F i)
 fl:∀ i b,F i b->i < s.own.length
 fp:∀ i b,F i b->b < w.heap.size/\H b=none/\¬ Y.U b
 dj:∀ i j b,F i b->F j b->i=j
 hn:∀ b o,H b=some o->Y.H0 b=some o\/¬ Y.U b
 ub:∀ b,Y.U b->b < Y.w0.heap.size/\w.heap[b]?=Y.w0.heap[b]?
 os:w.os=Y.w0.os
 tape:w.tape=Y.w0.tape
 output:w.output=Y.w0.output
 size:Y.w0.heap.size<=w.heap.size
 df:a.defers=ms.map Jed
 mks:∀ r∈ms,w.heap[r]?=some (.deferred (some []))/\H r=none/\¬ Y.U r/\∀ i,¬ F i r
 nd:ms.Nodup
 al:Anc.Le Y.an0 an
 npl:∀ i p,Y.an0 i=some p->i < S.np
 ro:S.rd=true\/Y.round=none
def Sat (S:Sx) (Y:Dyn) (s:St) (a:Act) (w:World):Prop:=∃ H an F ms,SatX S Y s a w H an F ms
structure WKeep (w w':World) (may:Nat->Prop):Prop where
 os:w'.os=w.os
 tape:w'.tape=w.tape
 output:w'.output=w.output
 size:w.heap.size<=w'.heap.size
 block:∀ b,b < w.heap.size->¬ may b->w'.heap[b]?=w.heap[b]?
theorem WKeep.refl (w:World) (may:Nat->Prop):WKeep w w may:=⟨rfl,rfl,rfl,Nat.le_refl _,fun _ _ _=>rfl⟩
theorem WKeep.drawn (w:World) (n:Nat) (may:Nat->Prop):WKeep w { w with drawn:=n } may:=⟨rfl,rfl,rfl,Nat.le_refl _,fun _ _ _=>rfl⟩
theorem WKeep.trans {a b c:World} {may:Nat->Prop} (h:WKeep a b may) (k:WKeep b c may):WKeep a c may :=
 ⟨k.os.trans h.os,k.tape.trans h.tape,k.output.trans h.output,Nat.le_trans h.size k.size,fun i hi hm=>(k.block i (Nat.lt_of_lt_of_le hi h.size) hm).trans (h.block i hi hm)⟩
theorem WKeep.mono {a b:World} {may may':Nat->Prop} (h:WKeep a b may) (k:∀ i,may i->may' i):WKeep a b may' :=
 ⟨h.os,h.tape,h.output,h.size,fun i hi hm=>h.block i hi (fun x=>hm (k i x))⟩
theorem WKeep.push (w:World) (o:Obj) (may:Nat->Prop):WKeep w { w with heap:=w.heap.push o } may :=
 ⟨rfl,rfl,rfl,by simp,fun b hb _=>by
  show (w.heap.push o)[b]?=_
  rw[Array.getElem?_push,if_neg (by omega)]⟩
section
variable {S:Sx} {Y:Dyn} {s:St} {a:Act} {w w':World} {H H':Heap} {an an':Anc} {F F':Nat->Nat->Prop} {ms:List Nat} {may:Nat->Prop}
theorem SatX.evolve (h:SatX S Y s a w H an F ms) {own':List Ch} (hw:WKeep w w' may) (hmay:∀ b,may b->∃ i,F i b)
  (hH:Heap.Le H H') (hmod:Xci w' H') (hnew:∀ b o,H' b=some o->H b=some o\/w.heap.size<=b\/∃ i,F i b)
  (ha:Anc.Le an an') (han:∀ i,(∃ p,an' i=some p)↔i < own'.length)
  (hown:∀ i c,own'[i]?=some c->∃ p,an' i=some p/\Xb7 H' an' w' c p (F' i))
  (hF:∀ i b,F' i b->i < own'.length/\b < w'.heap.size/\H' b=none/\(w.heap.size<=b\/∃ j,F j b))
  (hdj:∀ i j b,F' i b->F' j b->i=j):SatX S Y { s with own:=own' } a w' H' an' F' ms where
 gp:=h.gp.trans hH
 h0:=h.h0.trans hH
 mod:=hmod
 fr:=Xal.mono (fun _ _=>Xax.mono hH ha) h.fr
 anc:=han
 own:=hown
 fl:=fun i b hb=>(hF i b hb).1
 fp:=fun i b hb=>by
  obtain⟨_,h1,h2,h3⟩:=hF i b hb
  refine⟨h1,h2,?_⟩
  rcases h3 with h3|⟨j,h3⟩
  ·intro hu;have:=(h.ub b hu).1;have:=h.size;omega
  ·exact (h.fp j b h3).2.2
 dj:=hdj
 hn:=fun b o hb=>by
  rcases hnew b o hb with h1|h1|⟨i,h1⟩
  ·exact h.hn b o h1
  ·exact .inr fun hu=>by have:=(h.ub b hu).1;have:=h.size;omega
  ·exact .inr (h.fp i b h1).2.2
 ub:=fun b hu=>by
  obtain⟨h1,h2⟩:=h.ub b hu
  exact⟨h1,(hw.block b (Nat.lt_of_lt_of_le h1 h.size) (fun hm=>by obtain⟨i,hi⟩:=hmay b hm;exact (h.fp i b hi).2.2 hu)).trans h2⟩
 os:=hw.os.trans h.os
 tape:=hw.tape.trans h.tape
 output:=hw.output.trans h.output
 size:=Nat.le_trans h.size hw.size
 df:=h.df
 mks:=fun r hr=>by
  obtain⟨h1,h2,h3,h4⟩:=h.mks r hr
  have hlt:r < w.heap.size:=(Array.getElem?_eq_some_iff.1 h1).1
  refine⟨(hw.block r hlt (fun hm=>by obtain⟨i,hi⟩:=hmay r hm;exact h4 i hi)).trans h1,?_,h3,fun i hi=>?_⟩
  ·cases e:H' r with
   | none=>rfl
   | some o =>
    rcases hnew r o e with h5|h5|⟨i,h5⟩
    ·rw[h2] at h5;cases h5
    ·omega
    ·exact absurd h5 (h4 i)
  ·obtain⟨_,_,_,h5⟩:=hF i r hi
   rcases h5 with h5|⟨j,h5⟩
   ·omega
   ·exact h4 j h5
 nd:=h.nd
 al:=h.al.trans ha
 npl:=h.npl
 ro:=h.ro
theorem SatX.grow (h:SatX S Y s a w H an F ms) (hw:WKeep w w' (fun _=>False)) (hH:Heap.Le H H') (hmod:Xci w' H')
  (hnew:∀ b o,H' b=some o->H b=some o\/w.heap.size<=b):SatX S Y s a w' H' an F ms:=by
 refine h.evolve (own':=s.own) (may:=fun _=>False) hw (fun _ hb=>hb.elim) hH hmod (fun b o hb=>(hnew b o hb).imp id .inl) (Anc.Le.refl _) h.anc ?_ ?_ h.dj
 ·intro i c hc
  obtain⟨p,hp,hs⟩:=h.own i c hc
  exact⟨p,hp,hs.keep hH (Anc.Le.refl _) (fun x hx=>hw.block x (h.fp i x hx).1 (fun hm=>hm))⟩
 ·intro i b hb
  obtain⟨h1,h2,h3⟩:=h.fp i b hb
  refine⟨h.fl i b hb,Nat.lt_of_lt_of_le h1 hw.size,?_,.inr ⟨i,hb⟩⟩
  cases e:H' b with
  | none=>rfl
  | some o =>
   rcases hnew b o e with h5|h5
   ·rw[h2] at h5;cases h5
   ·omega
theorem SatX.drawn (h:SatX S Y s a w H an F ms) (n:Nat):SatX S Y s a { w with drawn:=n } H an F ms :=
 h.grow (WKeep.drawn w n _) (Heap.Le.refl _) h.mod (fun _ _ hb=>.inl hb)
def Heap.put (H:Heap) (b:Nat) (o:Obj):Heap:=fun i=>if i=b then some o else H i
theorem Heap.put_le {H:Heap} {b:Nat} {o:Obj} (h:H b=none):Heap.Le H (H.put b o):=fun i x hx=>by
 unfold Heap.put
 split
 ·rename_i e;subst e;rw[h] at hx;cases hx
 ·exact hx
theorem SatX.none_new (h:SatX S Y s a w H an F ms) {b:Nat} (hb:w.heap.size<=b):H b=none:=by
 cases e:H b with
 | none=>rfl
 | some o=>have:=h.mod b o e;rw[Array.getElem?_eq_none hb] at this;cases this
theorem SatX.push_known (h:SatX S Y s a w H an F ms) (o:Obj) :
  SatX S Y s a { w with heap:=w.heap.push o } (H.put w.heap.size o) an F ms:=by
 refine h.grow (WKeep.push w o _) (Heap.put_le (h.none_new (Nat.le_refl _))) ?_ ?_
 ·intro b x hx
  show (w.heap.push o)[b]?=some x
  unfold Heap.put at hx
  split at hx
  ·rename_i e;subst e;simpa using hx
  ·have:=h.mod b x hx
   rw[Array.getElem?_push,if_neg (by have:=(Array.getElem?_eq_some_iff.1 this).1;omega)]
   exact this
 ·intro b x hx
  unfold Heap.put at hx
  split at hx
  ·rename_i e;exact .inr (by omega)
  ·exact .inl hx
def Anc.put (an:Anc) (i:Nat) (p:Nat × Value):Anc:=fun j=>if j=i then some p else an j
theorem SatX.push_own (h:SatX S Y s a w H an F ms) (o:Obj) (c:Ch) (p:Nat × Value)
  (hc:Xb7 H (an.put s.own.length p) { w with heap:=w.heap.push o } c p (fun x=>x=w.heap.size)) :
  SatX S Y { s with own:=s.own++[c] } a { w with heap:=w.heap.push o } H (an.put s.own.length p)
   (fun i b=>if i=s.own.length then b=w.heap.size else F i b) ms:=by
 have hle:Anc.Le an (an.put s.own.length p):=⟨fun i q hq=>by
  refine⟨q,?_,.inl rfl⟩
  unfold Anc.put
  rw[if_neg (by have:=(h.anc i).1 ⟨q,hq⟩;omega)]
  exact hq⟩
 have hk:=WKeep.push w o (fun _=>False)
 have hmod:Xci { w with heap:=w.heap.push o } H:=fun b x hx=>by
  have:=h.mod b x hx
  exact (hk.block b (Array.getElem?_eq_some_iff.1 this).1 (fun x=>x)).trans this
 refine h.evolve (may:=fun _=>False) hk (fun _ hb=>hb.elim) (Heap.Le.refl _) hmod (fun b o hb=>.inl hb) hle ?_ ?_ ?_ ?_
 ·intro i
  unfold Anc.put
  by_cases e:i=s.own.length
  ·subst e;simp
  ·rw[if_neg e,h.anc i];simp;omega
 ·intro i c' hc'
  by_cases e:i=s.own.length
  ·subst e
   rw[List.getElem?_append_right (Nat.le_refl _)] at hc'
   simp at hc'
   subst hc'
   refine⟨p,by simp[Anc.put],?_⟩
   simpa using hc
  ·have hlt:i < s.own.length:=by
    have:=(List.getElem?_eq_some_iff.1 hc').1
    simp at this
    omega
   rw[List.getElem?_append_left hlt] at hc'
   obtain⟨q,hq,hs⟩:=h.own i c' hc'
   refine⟨q,by simp[Anc.put,e,hq],?_⟩
   have:=hs.keep (w':={ w with heap:=w.heap.push o }) (Heap.Le.refl _) hle (fun x hx=>hk.block x (h.fp i x hx).1 (fun x=>x))
   simpa [e] using this
 ·intro i b hb
  by_cases e:i=s.own.length
  ·simp only[e,if_true] at hb
   subst hb
   exact⟨by simp[e],by simp,h.none_new (Nat.le_refl _),.inl (Nat.le_refl _)⟩
  ·simp only[e,if_false] at hb
   obtain⟨h1,h2,h3⟩:=h.fp i b hb
   exact⟨by have:=h.fl i b hb;simp;omega,by simp;omega,h2,.inr ⟨i,hb⟩⟩
 ·intro i j b hi hj
  by_cases e:i=s.own.length <;> by_cases e':j=s.own.length
  ·omega
  ·simp only[e,if_true] at hi;simp only[e',if_false] at hj
   have:=(h.fp j b hj).1;omega
  ·simp only[e',if_true] at hj;simp only[e,if_false] at hi
   have:=(h.fp i b hi).1;omega
  ·simp only[e,if_false] at hi;simp only[e',if_false] at hj
   exact h.dj i j b hi hj
theorem SatX.set_own (h:SatX S Y s a w H an F ms) {i b:Nat} {c:Ch} {p:Nat × Value} (hi:an i=some p) (hFi:∀ x,F i x↔x=b)
  (hw:WKeep w w' (fun x=>x=b)) (hc:Xb7 H an w' c p (F i)):SatX S Y { s with own:=s.own.set i c } a w' H an F ms:=by
 have hb:F i b:=(hFi b).2 rfl
 have hmod:Xci w' H:=fun x o hx=>by
  have h1:=h.mod x o hx
  refine (hw.block x (Array.getElem?_eq_some_iff.1 h1).1 (fun e=>?_)).trans h1
  subst e
  rw[(h.fp i x hb).2.1] at hx;cases hx
 refine h.evolve (may:=fun x=>x=b) hw (fun x e=>⟨i,by subst e;exact hb⟩) (Heap.Le.refl _) hmod (fun b o hb=>.inl hb) (Anc.Le.refl _) ?_ ?_ ?_ h.dj
 ·intro j;rw[List.length_set];exact h.anc j
 ·intro j c' hc'
  rw[List.getElem?_set] at hc'
  by_cases e:i=j
  ·subst e
   simp only[if_true] at hc'
   split at hc'
   ·cases hc';exact⟨p,hi,hc⟩
   ·cases hc'
  ·rw[if_neg e] at hc'
   obtain⟨q,hq,hs⟩:=h.own j c' hc'
   exact⟨q,hq,hs.keep (Heap.Le.refl _) (Anc.Le.refl _) (fun x hx=>hw.block x (h.fp j x hx).1 (fun e'=>by subst e';exact e (h.dj i j x hb hx)))⟩
 ·intro j x hx
  obtain⟨h1,h2,h3⟩:=h.fp j x hx
  exact⟨by rw[List.length_set];exact h.fl j x hx,Nat.lt_of_lt_of_le h1 hw.size,h2,.inr ⟨j,hx⟩⟩
theorem Xdj {R:V->Value->Prop}:∀ (l:List V) (m:List Value) (d:Nat) (v:V) (u:Value),Xal R l m->R v u->Xal R (Xez l d v) (m.set d u)
 | [],[],_,_,_,_,_=>by simp[Xez,Xal]
 | _::_,_::_,0,_,_,h,k=>⟨k,h.2⟩
 | _::l,_::m,d+1,v,u,h,k=>⟨h.1,Xdj l m d v u h.2 k⟩
theorem SatX.put (h:SatX S Y s a w H an F ms) (d:Option Nat) {v:V} {u:Value} (hv:Xax H an v u) :
  SatX S Y { s with fr:=Xa3 s.fr d v } (a.put d u) w H an F ms:=by
 cases d with
 | none=>exact h
 | some d =>
  have hfr:Xal (Xax H an) (Xez s.fr d v) (a.put (some d) u).tmps.toList:=by
   have:=Xdj s.fr a.tmps.toList d v u h.fr hv
   simpa [Act.put] using this
  exact⟨h.gp,h.h0,h.mod,hfr,h.anc,h.own,h.fl,h.fp,h.dj,h.hn,h.ub,h.os,h.tape,h.output,h.size,h.df,h.mks,h.nd,h.al,h.npl,h.ro⟩
theorem Xbk:∀ (l:List V) (t:Nat) (v:V),Xbn l t=v->v≠.un->l[t]?=some v
 | [],_,_,h,hn=>absurd h.symm (by simpa [Xbn] using hn)
 | _::_,0,_,h,_=>by simpa [Xbn] using h
 | _::l,t+1,v,h,hn=>by simpa using Xbk l t v (by simpa [Xbn] using h) hn
theorem Y84 (H:Heap) {v:Value} {x:D} (h:dOf v=some x):Den H x v:=by
 unfold dOf at h
 split at h <;> cases h
 ·exact .int _ _
 ·exact .bool _
 ·exact .str _
 ·exact .slE none 0
 ·exact .nilI
 ·exact .nilF
 ·exact .nilP
 ·exact .raw _ rfl
 ·exact .raw _ rfl
theorem Xhn (H:Heap):∀ {l:List Value} {m:List D},Xhl l=some m->Xal (Den H) m l
 | [],m,h=>by simp[Xhl] at h;subst h;trivial
 | v::l,m,h=>by
  simp only[Xhl] at h
  cases e:dOf v with
  | none=>simp[e] at h
  | some x =>
   cases e':Xhl l with
   | none=>simp[e,e'] at h
   | some r=>simp[e,e'] at h;subst h;exact⟨Y84 H e,Xhn H e'⟩
theorem Xn3 (H:Heap) (an:Anc) {v:Value} {x:D} (h:dOf v=some x):Xb0 H an (A.ofZ x) v:=by
 unfold dOf at h
 split at h <;> cases h
 ·exact Den.int _ _
 ·exact Den.bool _
 ·exact Den.str _
 ·exact⟨none,rfl⟩
 ·exact Den.nilI
 ·exact Den.nilF
 ·exact Den.nilP
 ·exact Den.raw _ rfl
 ·exact Den.raw _ rfl
theorem Xho (H:Heap) (an:Anc):∀ {l:List Value} {m:List D},Xhl l=some m->Xal (Xb0 H an) (m.map A.ofZ) l
 | [],m,h=>by simp[Xhl] at h;subst h;trivial
 | v::l,m,h=>by
  simp only[Xhl] at h
  cases e:dOf v with
  | none=>simp[e] at h
  | some x =>
   cases e':Xhl l with
   | none=>simp[e,e'] at h
   | some r=>simp[e,e'] at h;subst h;exact⟨Xn3 H an e,Xho H an e'⟩
theorem X3j (H:Heap) (an:Anc) (v:Value):Xax H an (vOf v) v:=by
 unfold vOf
 split
 ·rename_i cs
  split
  ·rename_i l hl
   refine⟨cs.toList,by simp,?_⟩
   exact Xho H an hl
  ·trivial
 ·split
  ·rename_i x hx
   exact Xn3 H an hx
  ·trivial
theorem SatX.ev (h:SatX S Y s a w H an F ms) (x:Operand):Xax H an (evO s.fr (Xac x)) (a.eval x):=by
 cases x with
 | tmp t =>
  show Xax H an (Xbn s.fr t) (a.tmps.getD t undef)
  cases e:Xbn s.fr t with
  | un=>trivial
  | one x =>
   obtain⟨u,hu,hd⟩:=h.fr.get (Xbk _ _ _ e (by simp))
   have:a.tmps.getD t undef=u:=by simp[Array.getD_eq_getD_getElem?];rw[<- Array.getElem?_toList,hu];rfl
   rw[this];exact hd
  | agg x =>
   obtain⟨u,hu,hd⟩:=h.fr.get (Xbk _ _ _ e (by simp))
   have:a.tmps.getD t undef=u:=by simp[Array.getD_eq_getD_getElem?];rw[<- Array.getElem?_toList,hu];rfl
   rw[this];exact hd
  | tup x =>
   obtain⟨u,hu,hd⟩:=h.fr.get (Xbk _ _ _ e (by simp))
   have:a.tmps.getD t undef=u:=by simp[Array.getD_eq_getD_getElem?];rw[<- Array.getElem?_toList,hu];rfl
   rw[this];exact hd
 | const v=>exact X3j H an v
 | global g=>exact Den.raw (H:=H) (.pointer (some ⟨g,0,none⟩)) rfl
 | func f=>exact Den.fn (H:=H) (.func f) [] [] rfl (by simp)
end
def Ch.refs:Ch->List Nat
 | .cells cs=>cs.flatMap A.refs
 | .map es=>es.flatMap fun e=>e.1.refs++e.2.refs
 | .bld _ y=>y.refs
 | .lp _ fr _ _ _=>fr.flatMap V.refsT
 | .rowA _ _ xs=>xs.flatMap fun x=>x.flatMap A.refs
 | _=>[]
def Tri (P:Program) (gp:Heap) (f:FuncId) (args:List V) (pre:List Ch) (R:V->List Ch->Prop):Prop :=
 ∀ (H:Heap) (w:World) (an:Anc) (F:Nat->Nat->Prop) (vs:List Value),Heap.Le gp H->Xci w H ->
  (∀ i,(∃ p,an i=some p)↔i < pre.length) ->
  (∀ i c,pre[i]?=some c->∃ p,an i=some p/\Xb7 H an w c p (F i))->(∀ i b,F i b->i < pre.length/\b < w.heap.size/\H b=none)->(∀ i j b,F i b->F j b->i=j) ->
  Xal (Xax H an) args vs ->
  Calls P f vs.toArray w fun e w'=>∃ (v:Value) (res:V) (post:List Ch) (H':Heap) (an':Anc) (F':Nat->Nat->Prop),e=.returned v/\R res post /\
   WKeep w w' (fun b=>∃ i,F i b)/\Heap.Le H H'/\Xci w' H'/\(∀ b o,H' b=some o->H b=some o\/w.heap.size<=b\/∃ i,F i b) /\
   Anc.Le an an'/\(∀ i,(∃ p,an' i=some p)↔i < post.length)/\(∀ i c,post[i]?=some c->∃ p,an' i=some p/\Xb7 H' an' w' c p (F' i)) /\
   (∀ i b,F' i b->i < post.length/\b < w'.heap.size/\H' b=none/\(w.heap.size<=b\/∃ j,F j b))/\(∀ i j b,F' i b->F' j b->i=j)/\Xax H' an' res v
def Xaa (P:Program) (f:FuncId):Bool:=match P.funcs[f]? with
 | some fn => fn.body.isSome && !(fn.name == "runtime.NumGoroutine")
 | none=>false
def Does (P:Program) (gp:Heap) (f:FuncId) (args:List V) (res:V):Prop:=Xaa P f=true/\Tri P gp f args [] fun r c=>r=res/\c=[]
class Held where
 p:Prop
structure later [h:Held]:Prop where
 intro ::
 get:h.p
inductive MI where
 | code (m:MC)
 | blk (id:Nat)
 | again (p:St->Prop)
 | rnd (p:Exit->St->Prop)
 | fin
def Wwz (s:St):RV->Option V
 | .t n=>(match Xbn s.fr n with
  | .tup _=>none
  | v=>some v)
 | .cell n sz ag=>match Xbn s.fr n with
  | .one (.ptr i off)=>(match Xak s.own i with
   | .cells cs=>if off+sz<=cs.length then some (mkV ag ((cs.drop off).take sz)) else none
   | _=>none)
  | _=>none
def Ww0 (s:St):List RV->Option (List V)
 | []=>some []
 | r::l=>match Wwz s r,Ww0 s l with
  | some x,some m=>some (x::m)
  | _,_=>none
def X3k (s:St):List RV->Option V
 | [r]=>Wwz s r
 | l=>match Ww0 s l with
  | some m=>some (.tup m)
  | none=>none
def Xg4 (r:Option Nat):Fence:={ Fence.wide with round:=r }
def Jja (S:Sx) (Y:Dyn) (a:Act) (w:World):Prop:=∃ s res,Sat S Y s a w/\X3k s S.rs=some res/\(S.R res.nrm2 s.own\/(S.np=0/\res.refsT=[]/\S.R res.nrm2 []))
def Mx (S:Sx) (Y:Dyn):List MI->Exit->Act->World->Prop
 | [],_,_,_=>False
 | .fin::_,e,a,w=>(e=.normal\/e=.ret)/\Jja S Y a w
 | .rnd p::_,e,a,w=>(e=.normal\/e=.ret\/∃ id,e=.exit id)/\∃ s,Sat S Y s a w/\p e s
 | .again p::k,e,a,w=>match e with
  | .normal=>∃ s,Sat S Y s a w/\p s
  | e=>Mx S Y k e a w
 | .blk id::k,e,a,w=>match e with
  | .exit id'=>if id'=id then Mx S Y k .normal a w else Mx S Y k (.exit id') a w
  | e=>Mx S Y k e a w
 | .code m::k,e,a,w=>match e with
  | .normal=>∀ hs c,trC S.P hs c=some m->c.wpIn (Xg4 Y.round) 0 S.P (Mx S Y k) a w
  | e=>Mx S Y k e a w
def G (S:Sx) (k:List MI) (s:St):Prop:=∀ Y a w,Sat S Y s a w->Mx S Y k .normal a w
def GE (S:Sx) (e:Exit) (k:List MI) (s:St):Prop:=∀ Y a w,Sat S Y s a w->Mx S Y k e a w
end Go.Fw
namespace Go.Fw
open Go
def inK (k:IntKind) (n:Int):Prop:=k.min<=n/\n<=k.max
def Xpw (o:BinOp) (k:IntKind) (x y:Int):Int :=
 let a:=BitVec.ofInt k.bits x
 let b:=BitVec.ofInt k.bits y
 match o with
 | .and=>k.wrap (a &&& b).toNat
 | .or=>k.wrap (a ||| b).toNat
 | .xor=>k.wrap (a ^^^ b).toNat
 | _=>k.wrap (a &&& ~~~b).toNat
def Wxa (o:BinOp) (k:IntKind) (a b:Int):Prop × D:=match o with
 | .eql=>(True,.bool (a==b))
 | .neq=>(True,.bool (a != b))
 | .lss=>(True,.bool (decide (a < b)))
 | .leq=>(True,.bool (decide (a<=b)))
 | .gtr=>(True,.bool (decide (a > b)))
 | .geq=>(True,.bool (decide (a >= b)))
 | .add=>(inK k (a+b),.int k (a+b))
 | .sub=>(inK k (a - b),.int k (a - b))
 | .mul=>(inK k (a*b),.int k (a*b))
 | .quo=>(b≠0/\inK k (a.tdiv b),.int k (a.tdiv b))
 | .rem=>(b≠0,.int k (a.tmod b))
 | .shl=>(0<=b,.int k (k.wrap (a*2 ^ (min b.toNat k.bits))))
 | .shr=>(0<=b,.int k (a.fdiv (2 ^ (min b.toNat k.bits))))
 | .and=>(True,.int k (Xpw .and k a b))
 | .or=>(True,.int k (Xpw .or k a b))
 | .xor=>(True,.int k (Xpw .xor k a b))
 | .andNot=>(True,.int k (Xpw .andNot k a b))
def Wxb (o:BinOp) (a b:ByteArray):Prop × D:=match o with
 | .eql=>(True,.bool (decide (a=b)))
 | .neq=>(True,.bool (!(decide (a=b))))
 | .lss=>(True,.bool (Op.bytesLess a.toList b.toList))
 | .leq=>(True,.bool (Op.bytesLess a.toList b.toList || decide (a=b)))
 | .gtr=>(True,.bool (!(Op.bytesLess a.toList b.toList || decide (a=b))))
 | .geq=>(True,.bool (!(Op.bytesLess a.toList b.toList)))
 | .add=>(((a.size+b.size:Nat):Int)<=9223372036854775807,.str (a++b))
 | _=>(False,.bool false)
def Jeu (o:BinOp) (a b:Bool):Prop × D:=match o with
 | .eql=>(True,.bool (a==b))
 | .neq=>(True,.bool (!(a==b)))
 | _=>(False,.bool false)
def Yye:BinOp->Bool
 | .shl=>true
 | .shr=>true
 | _=>false
def Xua (kd:Leaf) (o:BinOp) (x y:V):Prop × D:=match kd,x,y with
 | .i,.one (.d (.int k a)),.one (.d (.int k' b))=>if Yye o=true\/k=k' then Wxa o k a b else (False,.nilP)
 | .s,.one (.d (.str a)),.one (.d (.str b))=>Wxb o a b
 | .b,.one (.d (.bool a)),.one (.d (.bool b))=>Jeu o a b
 | _,_,_=>(False,.nilP)
def Xc0 (z:List D):Nat->List (List D)
 | 0=>[]
 | n+1=>z::Xc0 z n
def Xsn (ev:Opd->V) (sz:Nat):List (List D)->List (Nat × Opd)->Option (List (List D))
 | z,[]=>some z
 | z,(i,x)::l=>match Xju (ev x).cells with
  | some cs=>if cs.length=sz/\i < z.length then Xsn ev sz (z.set i cs) l else none
  | none=>none
def X3l (ev:Opd->V):List A->List (Nat × Nat × Opd)->Option (List A)
 | z,[]=>some z
 | z,(off,n,x)::l=>let cs:=(ev x).cells;if cs.length=n/\off+n<=z.length then X3l ev (z.take off++cs++z.drop (off+n)) l else none
def Xso:List V->Option (List D)
 | []=>some []
 | .one (.d x)::l=>(match Xso l with|some r=>some (x::r)|none=>none)
 | _::_=>none
def A.low:A->Bool
 | .d _=>true
 | .nil=>true
 | .own ..=>true
 | .ptr ..=>true
 | .rp ..=>true
 | _=>false
def Xsp:List V->Option (List A)
 | []=>some []
 | .one x::l=>if x.low then (match Xsp l with|some r=>some (x::r)|none=>none) else none
 | _::_=>none
def Wxc (f:Go.Fn) (l:List V):Option A:=match Xso l with
 | some ds=>some (.d (.fn f ds))
 | none=>match Xsp l with
  | some as=>some (.clo f as)
  | none=>none
def mvv (f:Go.Fn):V->Option A
 | .one (.d x)=>some (.d (.mv f false [x]))
 | .one x=>if x.low then some (.mvo f false [x]) else none
 | .agg cs=>(match Xju cs with
  | some ds=>some (.d (.mv f true ds))
  | none=>if cs.all A.low then some (.mvo f true cs) else none)
 | _=>none
def ifv (t:TypeId):V->Option A
 | .one (.d x)=>some (.d (.ifc t false [x]))
 | .one x=>if x.low then some (.ifo t x) else none
 | .agg cs=>(match Xju cs with
  | some ds=>some (.d (.ifc t true ds))
  | none=>none)
 | _=>none
def Xau (ev:Opd->V) (o:Option Opd) (dflt:Nat) (n:Nat):Prop:=match o with
 | none=>n=dflt
 | some x=>match ev x with
  | .one (.d (.int _ i))=>i=n
  | _=>False
def Xeo:V->List V->Option (FuncId × List V)
 | .one (.d (.fn (.func f) caps)),args=>some (f,args++caps.map fun x=>.one (.d x))
 | .one (.d (.mv (.func f) false [x])),args=>some (f,.one (.d x)::args)
 | .one (.d (.mv (.func f) true cs)),args=>some (f,.agg (cs.map .d)::args)
 | .one (.clo (.func f) caps),args=>some (f,args++caps.map .one)
 | .one (.mvo (.func f) false [x]),args=>some (f,.one x::args)
 | .one (.mvo (.func f) true cs),args=>some (f,.agg cs::args)
 | _,_=>none
def X3b (kd:Leaf) (x:V) (own:List Ch) (v:V):Prop:=match kd,x with
 | .s,.one (.d (.str s))=>v=.one (.d (.int .i64 s.size))
 | .i,.one (.d (.sl xs))=>v=.one (.d (.int .i64 xs.length))
 | .i,.one (.own j ver)=>(match Xak own j with
  | .row _ ver' xs=>ver'=ver/\v=.one (.d (.int .i64 xs.length))
  | .brow _ ver' bs=>ver'=ver/\v=.one (.d (.int .i64 bs.length))
  | .nest _ _ ver' xs=>ver'=ver/\v=.one (.d (.int .i64 xs.length))
  | _=>False)
 | .b,.one (.own j 0)=>(match Xak own j with
  | .map es=>v=.one (.d (.int .i64 es.length))
  | _=>False)
 | _,_=>False
def Xkk (own:List Ch):A->Option D
 | .d x=>some x
 | .nil=>some (.sl [])
 | .own j ver=>(match Xak own j with
  | .row _ ver' xs=>if ver'=ver then some (.sl xs) else none
  | _=>none)
 | _=>none
def Xhp (own:List Ch):List A->Option (List D)
 | []=>some []
 | a::l=>(match Xkk own a,Xhp own l with
  | some x,some r=>some (x::r)
  | _,_=>none)
def Xkl (own:List Ch):A->Option D
 | .d x=>some x
 | .nil=>some (.sl [])
 | .own j ver=>(match Xak own j with
  | .row _ ver' xs=>if ver'=ver then some (.sl xs) else none
  | _=>none)
 | .ptr j off=>(match Xak own j with
  | .cells cs=>(match Xhp own cs with|some ds=>some (.bx (ds.drop off))|none=>none)
  | _=>none)
 | _=>none
def Xfv (own:List Ch):List A->Option (List D)
 | []=>some []
 | a::l=>(match Xkl own a,Xfv own l with
  | some x,some r=>some (x::r)
  | _,_=>none)
def Xkm (own:List Ch):V->Option V
 | .one a=>(match Xkl own a with|some x=>some (.one (.d x))|none=>none)
 | .agg l=>(match Xfv own l with|some r=>some (.agg (r.map .d))|none=>none)
 | _=>none
def Xhc (own:List Ch):List V->Option (List V)
 | []=>some []
 | v::l=>(match Xkm own v,Xhc own l with
  | some x,some r=>some (x::r)
  | _,_=>none)
def A.data:A->Bool
 | .d _=>true
 | .nil=>true
 | _=>false
def V.data:V->Bool
 | .one a=>a.data
 | .agg l=>l.all A.data
 | _=>false
def D.scal:D->Bool
 | .int ..=>true
 | .bool _=>true
 | .str _=>true
 | .nilI=>true
 | .nilF=>true
 | .nilP=>true
 | .raw _=>true
 | _=>false
def A.scal:A->Bool
 | .d x=>x.scal
 | .un=>true
 | _=>false
def V.scal1:V->Bool
 | .one a=>a.scal
 | .agg l=>l.all A.scal
 | .un=>true
 | _=>false
def V.scal:V->Bool
 | .tup l=>l.all V.scal1
 | v=>v.scal1
def Xpx (S:Sx) (f:FuncId) (args:List V) (own:List Ch) (v:V):Prop :=
 ∃ l,Xhc own args=some l/\Does S.P S.gp f l v/\(args.all V.data=true\/v.scal=true)
def Y85 (j:Nat):A->Option A
 | .d x=>some (.d x)
 | .nil=>some (.d (.sl []))
 | .own i ver=>if i=j then some (.own 0 ver) else none
 | .ptr i off=>if i=j then some (.ptr 0 off) else none
 | .ifo t (.ptr i off)=>if i=j then some (.ifo t (.ptr 0 off)) else none
 | _=>none
def X1u (j:Nat):List A->Option (List A)
 | []=>some []
 | a::l=>(match Y85 j a,X1u j l with
  | some x,some r=>some (x::r)
  | _,_=>none)
def Wxd (j:Nat):V->Option V
 | .one a=>(match Y85 j a with|some x=>some (.one x)|none=>none)
 | .agg l=>(match X1u j l with|some r=>some (.agg r)|none=>none)
 | _=>none
def Y86 (j:Nat):List V->Option (List V)
 | []=>some []
 | v::l=>(match Wxd j v,Y86 j l with
  | some x,some r=>some (x::r)
  | _,_=>none)
def X1v (j:Nat):A->A
 | .own 0 ver=>.own j ver
 | .ptr 0 off=>.ptr j off
 | .d x=>.d x
 | .nil=>.nil
 | _=>.un
def X3m (j:Nat):V->V
 | .one a=>.one (X1v j a)
 | .agg l=>.agg (l.map (X1v j))
 | _=>.un
def Xpy (j:Nat):V->V
 | .tup l=>.tup (l.map (X3m j))
 | v=>X3m j v
def Ch.live:Ch->Bool
 | .dead=>false
 | _=>true
def Xsq (S:Sx) (f:FuncId) (args:List V) (own:List Ch) (j:Nat) (v0:V) (c':Ch):Prop :=
 ∃ l,Y86 j args=some l/\(args.flatMap V.refs).contains j=true/\(Xak own j).live=true/\(Xak own j).refs=[]/\c'.refs=[]/\Xaa S.P f=true/\Tri S.P S.gp f l [Xak own j] (fun r post=>r=v0/\post=[c'])
def Xbo:List Nat->Nat->Option Nat
 | [],_=>none
 | j::l,i=>if i=j then some 0 else (match Xbo l i with|some k=>some (k+1)|none=>none)
def rn0 (js:List Nat):A->Option A
 | .d x=>some (.d x)
 | .nil=>some .nil
 | .own i ver=>(match Xbo js i with|some k=>some (.own k ver)|none=>none)
 | .ptr i off=>(match Xbo js i with|some k=>some (.ptr k off)|none=>none)
 | .rp i ver sz e off=>(match Xbo js i with|some k=>some (.rp k ver sz e off)|none=>none)
 | .un=>some .un
 | _=>none
def Xcw (js:List Nat):List A->Option (List A)
 | []=>some []
 | a::l=>(match rn0 js a,Xcw js l with
  | some x,some r=>some (x::r)
  | _,_=>none)
def rnA (js:List Nat):A->Option A
 | .clo f caps=>(match Xcw js caps with|some l=>some (.clo f l)|none=>none)
 | .mvo f ag rcv=>(match Xcw js rcv with|some l=>some (.mvo f ag l)|none=>none)
 | .ifo t a=>(match rn0 js a with|some b=>some (.ifo t b)|none=>none)
 | a=>rn0 js a
def Xcx (js:List Nat):List A->Option (List A)
 | []=>some []
 | a::l=>(match rnA js a,Xcx js l with
  | some x,some r=>some (x::r)
  | _,_=>none)
def rnV (js:List Nat):V->Option V
 | .one a=>(match rnA js a with|some x=>some (.one x)|none=>none)
 | .agg l=>(match Xcx js l with|some r=>some (.agg r)|none=>none)
 | .un=>some .un
 | .tup _=>none
def Xcl (js:List Nat):List V->Option (List V)
 | []=>some []
 | v::l=>(match rnV js v,Xcl js l with
  | some x,some r=>some (x::r)
  | _,_=>none)
def Ww1 (js:List Nat):List (V × V)->Option (List (V × V))
 | []=>some []
 | e::l=>(match rnV js e.1,rnV js e.2,Ww1 js l with
  | some x,some y,some r=>some ((x,y)::r)
  | _,_,_=>none)
def V.plain:V->Bool
 | .one (.d _)=>true
 | _=>false
def rnC (js:List Nat):Ch->Option Ch
 | .dead=>some .dead
 | .cells cs=>(match Xcx js cs with|some l=>some (.cells l)|none=>none)
 | .row sz ver xs=>some (.row sz ver xs)
 | .map es=>if (Ch.map es).refs.isEmpty then some (.map es) else (match Ww1 js es with|some l=>some (.map l)|none=>none)
 | .siter s p=>some (.siter s p)
 | .abs J=>some (.abs J)
 | .bld T y=>(match rnA js y with|some z=>some (.bld T z)|none=>none)
 | .brow e ver bs=>some (.brow e ver bs)
 | .lp l fr rc st pd=>(match Xcl js fr with|some r=>some (.lp l r rc st pd)|none=>none)
 | .rowA ..=>none
 | .pool sz L=>some (.pool sz L)
 | .nest sz kz ver xs=>some (.nest sz kz ver xs)
def Xcm (js:List Nat) (own:List Ch):List Nat->Option (List Ch)
 | []=>some []
 | j::l=>(match rnC js (Xak own j),Xcm js own l with
  | some x,some r=>some (x::r)
  | _,_=>none)
def sgN (n:Nat):List Nat->Nat->Nat
 | [],k=>n+k
 | j::_,0=>j
 | _::js,k+1=>sgN n js k
def bk0 (n:Nat) (js:List Nat):A->A
 | .own i ver=>.own (sgN n js i) ver
 | .ptr i off=>.ptr (sgN n js i) off
 | .rp i ver sz e off=>.rp (sgN n js i) ver sz e off
 | a=>a
def bkA (n:Nat) (js:List Nat):A->A
 | .clo f caps=>.clo f (caps.map (bk0 n js))
 | .mvo f ag rcv=>.mvo f ag (rcv.map (bk0 n js))
 | .ifo t a=>.ifo t (bk0 n js a)
 | a=>bk0 n js a
def bk1 (n:Nat) (js:List Nat):V->V
 | .one a=>.one (bkA n js a)
 | .agg l=>.agg (l.map (bkA n js))
 | v=>v
def bkV (n:Nat) (js:List Nat):V->V
 | .tup l=>.tup (l.map (bk1 n js))
 | v=>bk1 n js v
def bkC (n:Nat) (js:List Nat):Ch->Ch
 | .cells cs=>.cells (cs.map (bkA n js))
 | .map es=>if (Ch.map es).refs.isEmpty then .map es else .map (es.map fun e=>(bk1 n js e.1,bk1 n js e.2))
 | .lp l fr rc st pd=>.lp l (fr.map (bkV n js)) rc st pd
 | .rowA ..=>.abs fun _ _=>True
 | .bld T y=>.bld T (bkA n js y)
 | c=>c
def bkO (n:Nat) (js0:List Nat):List Nat->List Ch->List Ch->List Ch
 | [],own,post=>own++post.map (bkC n js0)
 | j::js,own,c::post=>bkO n js0 js (Xb1 own j (bkC n js0 c)) post
 | _::_,own,[]=>own
def X3n (n:Nat):List Nat->Bool
 | []=>true
 | j::l=>decide (j < n) && ((Xbo l j).isNone && X3n n l)
def A.lone:A->Bool
 | .d x=>x.scal
 | .nil=>true
 | .own ..=>true
 | .un=>true
 | _=>false
def V.lone1:V->Bool
 | .one a=>a.lone
 | .agg l=>l.all A.lone
 | .un=>true
 | _=>false
def V.lone:V->Bool
 | .tup l=>l.all V.lone1
 | v=>v.lone1
def Ch.scalRow:Ch->Bool
 | .row _ _ xs=>xs.all fun x=>x.all D.scal
 | .dead=>true
 | _=>false
def Xay (S:Sx) (f:FuncId) (args:List V) (own:List Ch) (js:List Nat) (v0:V) (post:List Ch):Prop :=
 match Xcl js args,Xcm js own js with
 | some l,some pre=>X3n own.length js=true/\js.length<=post.length/\Xaa S.P f=true/\Tri S.P S.gp f l pre (fun r c=>r=v0/\c=post)
 | _,_=>js=[]/\(post.all Ch.scalRow=true/\(bkV own.length [] v0).lone=true)/\Xaa S.P f=true/\∃ l,Xhc own args=some l/\Tri S.P S.gp f l [] (fun r c=>r=v0/\c=post)
def Ynz (S:Sx) (f:FuncId) (args:List V) (own:List Ch) (v:V) (own1:List Ch):Prop :=
 ∃ js v0 post,Xay S f args own js v0 post/\v=bkV own.length js v0/\own1=bkO own.length js js own post
def Yn0:Exit->Bool->Option Code->Prop
 | .normal,b,j=>b=true/\j=none
 | .ret,b,j=>b=false/\j=some .ret
 | .exit id,b,j=>b=false/\j=some (.exit id)
 | _,_,_=>False
def X1w:List V->List Nat->List V->List V
 | fr,p::ps,v::vs=>X1w (Xez fr p v) ps vs
 | fr,_,_=>fr
def Jee (S:Sx) (n:Nat):Sx:=⟨S.P,S.gp,n,[],fun _ _=>False,true⟩
def Xn4 (S:Sx) (l:Nat) (args:List V) (own own1:List Ch) (b:Bool):Prop :=
 ∃ i fr rc hs ma mb own2 jump,Xak own i=.lp l fr rc .ready none/\args.length=rc.params.size/\trC S.P hs rc.assign=some ma/\trC S.P hs rc.body=some mb /\
  G (Jee S own.length) [.code ma,.rnd fun e s1=>e=.normal/\G (Jee S own.length) [.code mb,.rnd fun e s2=>Yn0 e b jump/\s2.own=own2] s1] ⟨X1w fr rc.params.toList args,Xb1 own i .dead⟩ /\
  Xak own2 i=.dead/\own1=Xb1 own2 i (.lp l fr rc (if jump.isNone then .ready else .done) jump)
def Ch.firm:Ch->Bool
 | .cells _=>true
 | .rowA ..=>true
 | _=>false
def Xhq:List Ch->List Ch->Prop
 | [],_=>True
 | c::l,d::m=>(c.firm=true->d=c)/\Xhq l m
 | _::_,[]=>False
theorem Xhr:∀ {l m:List Ch},Xhq l m->∀ i,(Xak l i).firm=true->Xak m i=Xak l i
 | [],_,_,_,h=>by cases h
 | _::_,_::_,h,0,hf=>h.1 hf
 | _::l,_::m,h,i+1,hf=>Xhr (l:=l) (m:=m) h.2 i hf
 | _::_,[],h,_,_=>h.elim
def Yn1:NK->V->Option Bool
 | .sl,.one (.d (.raw (.slice none _ _)))=>some true
 | .sl,.one (.d (.raw (.slice (some _) _ _)))=>some false
 | .sl,.one (.d (.sl (_::_)))=>some false
 | .ifc,.one (.d .nilI)=>some true
 | .ifc,.one (.d (.ifc ..))=>some false
 | .ifc,.one (.ifo ..)=>some false
 | .fn,.one (.d .nilF)=>some true
 | .fn,.one (.d (.fn ..))=>some false
 | .fn,.one (.d (.mv ..))=>some false
 | .fn,.one (.clo ..)=>some false
 | .ptr,.one (.d .nilP)=>some true
 | .ptr,.one (.d (.bx _))=>some false
 | .ptr,.one (.ptr ..)=>some false
 | .ptr,.one (.rp ..)=>some false
 | _,_=>none
def Yyf (bs:List UInt8):List (List D):=bs.map fun b=>[.int .u8 b.toNat]
def Yn2 (P:Program) (t:TypeId) (m:String) (f:FuncId):Prop:=∀ (v:Value) (w:World),(Go.method (P.types.size+Made.depth) t v m).run P w=.ok (f,v) w
def Ev (S:Sx) (o:MOp) (ev:Opd->V) (own:List Ch) (v:V) (own':List Ch):Prop:=match o with
 | .mv x=>v=ev x/\own'=own
 | .pick c x y=>own'=own/\match ev c with
  | .one (.d (.bool b))=>v=if b then ev x else ev y
  | _=>False
 | .alloc z=>own'=own++[.cells (z.map A.ofZ)]/\v=.one (.ptr own.length 0)
 | .bldN T e=>own'=own++[.bld T (.own (own.length+1) 0),.brow e 0 []]/\v=.one (.ptr own.length 0)
 | .appS e x y=>match ev x,ev y with
  | .one (.own j ver),.one (.d (.str t))=>(match Xak own j with
   | .brow e' ver' bs=>e'=e/\ver'=ver/\bs.length+t.size<=140737488355328/\own'=Xb1 own j (.brow e (ver+1) (bs++t.data.toList))/\v=.one (.own j (ver+1))
   | _=>False)
  | _,_=>False
 | .box x=>(ev x).ok=true/\Xbt (ev x).cells=true/\own'=own++[.cells (ev x).cells]/\v=.one (.ptr own.length 0)
 | .ibox x=>(ev x).ok=true/\own'=own/\∃ ds,Xju (ev x).cells=some ds/\v=.one (.d (.bx ds))
 | .build z ps=>own'=own/\∃ cs,X3l ev (z.map A.ofZ) ps=some cs/\(ps.all fun p=>(ev p.2.2).ok)=true/\v=.agg cs
 | .bslice sz z n ps=>own'=own/\z.length=sz/\n*sz<=16777216/\0 < sz/\∃ xs,Xsn ev sz (Xc0 z n) ps=some xs/\(ps.all fun p=>(ev p.2).ok)=true/\v=.one (.d (.sl xs))
 | .bslO sz z n ps=>z.length=sz/\n*sz<=16777216/\0 < sz/\∃ xs,Xsn ev sz (Xc0 z n) ps=some xs/\(ps.all fun p=>(ev p.2).ok)=true/\own'=own++[.row sz 0 xs]/\v=.one (.own own.length 0)
 | .load n ag x=>own'=own/\(ag=true\/n=1)/\match ev x with
  | .one (.ptr i off)=>(match Xak own i with
   | .cells cs=>off+n<=cs.length/\v=mkV ag ((cs.drop off).take n)
   | _=>False)
  | .one (.d (.bx cs))=>n<=cs.length/\v=mkV ag ((cs.take n).map .d)
  | .one (.rp i ver sz e off)=>(match Xak own i with
   | .row sz' ver' xs=>sz'=sz/\ver'=ver/\∃ x,xs[e]?=some x/\off+n<=x.length/\v=mkV ag (((x.drop off).take n).map .d)
   | .rowA sz' ver' xs=>sz'=sz/\ver'=ver/\∃ x,xs[e]?=some x/\off+n<=x.length/\v=mkV ag ((x.drop off).take n)
   | _=>False)
  | .one (.d (.raw (.pointer (some ⟨g,0,none⟩))))=>∃ cells T fz ds,S.gp g=some (.cells cells T fz)/\Xhl cells.toList=some ds/\n<=ds.length/\v=mkV ag ((ds.take n).map .d)
  | _=>False
 | .ild n ag x=>own'=own/\(ag=true\/n=1)/\match ev x with
  | .one (.d (.bx cs))=>n<=cs.length/\v=mkV ag ((cs.take n).map .d)
  | _=>False
 | .cld n ag x=>own'=own/\(ag=true\/n=1)/\match ev x with
  | .one (.ptr i off)=>(match Xak own i with
   | .cells cs=>off+n<=cs.length/\v=mkV ag ((cs.drop off).take n)
   | _=>False)
  | .one (.d (.bx cs))=>n<=cs.length/\v=mkV ag ((cs.take n).map .d)
  | .one (.rp i ver sz e off)=>(match Xak own i with
   | .rowA sz' ver' xs=>sz'=sz/\ver'=ver/\∃ x,xs[e]?=some x/\off+n<=x.length/\v=mkV ag ((x.drop off).take n)
   | _=>False)
  | _=>False
 | .iac sz x i=>own'=own/\match ev x,ev i with
  | .one (.own j ver),.one (.d (.int _ n))=>(match Xak own j with
   | .rowA sz' ver' xs=>sz'=sz/\ver'=ver/\0<=n/\n.toNat < xs.length/\v=.one (.rp j ver sz n.toNat 0)
   | _=>False)
  | _,_=>False
 | .mkSD sz bytes z l=>own'=own/\match ev l with
  | .one (.d (.int _ n))=>0<=n/\0 < sz/\z.length=sz/\n*bytes<=140737488355328/\n < lenMax/\v=.one (.d (.sl (List.replicate n.toNat z)))
  | _=>False
 | .slcR sz x lo hi=>match ev x with
  | .one (.own j ver)=>(match Xak own j with
   | .row sz' ver' xs=>sz'=sz/\ver'=ver/\∃ l h:Nat,Xau ev lo 0 l/\Xau ev hi xs.length h/\l<=h/\h<=xs.length/\own'=Xb1 own j (.row sz (ver+1) ((xs.take h).drop l))/\v=.one (.own j (ver+1))
   | _=>False)
  | _=>False
 | .iadD sz x i=>own'=own/\match ev x,ev i with
  | .one (.d (.sl xs)),.one (.d (.int _ n))=>∃ cs,0<=n/\xs[n.toNat]?=some cs/\cs.length=sz/\v=.one (.d (.bx cs))
  | _,_=>False
 | .strB x=>own'=own/\∃ bs:List UInt8,bs≠[]/\ev x=.one (.d (.sl (bs.map fun b=>[.int .u8 b.toNat])))/\v=.one (.d (.str ⟨bs.toArray⟩))
 | .holes ts=>own'=own++List.replicate ts.length .dead/\v=.un/\(ts.all fun t=>Ww9 t.2 (ev (.t t.1)))=true
 | .store n x y=>(ev y).ok=true/\(ev y).cells.length=n/\v=.un/\match ev x with
  | .one (.ptr i off)=>(match Xak own i with
   | .cells cs=>off+n<=cs.length/\Xbt (ev y).cells=true/\own'=Xb1 own i (.cells (cs.take off++(ev y).cells++cs.drop (off+n)))
   | _=>False)
  | .one (.rp i ver sz e off)=>(match Xak own i with
   | .row sz' ver' xs=>sz'=sz/\ver'=ver/\∃ x ds,xs[e]?=some x/\off+n<=x.length/\Xju (ev y).cells=some ds/\own'=Xb1 own i (.row sz ver (xs.set e (x.take off++ds++x.drop (off+n))))
   | .rowA sz' ver' xs=>sz'=sz/\ver'=ver/\∃ x,xs[e]?=some x/\off+n<=x.length/\Xbt (ev y).cells=true/\own'=Xb1 own i (.rowA sz ver (xs.set e (x.take off++(ev y).cells++x.drop (off+n))))
   | _=>False)
  | _=>False
 | .fad off x=>own'=own/\match ev x with
  | .one (.ptr i o)=>v=.one (.ptr i (o+off))
  | .one (.d (.bx cs))=>v=.one (.d (.bx (cs.drop off)))
  | .one (.rp i ver sz e o)=>v=.one (.rp i ver sz e (o+off))
  | _=>False
 | .iad sz x i=>own'=own/\match ev x,ev i with
  | .one (.d (.sl xs)),.one (.d (.int _ n))=>∃ cs,0<=n/\xs[n.toNat]?=some cs/\cs.length=sz/\v=.one (.d (.bx cs))
  | .one (.own j ver),.one (.d (.int _ n))=>(match Xak own j with
   | .row sz' ver' xs=>sz'=sz/\ver'=ver/\0<=n/\n.toNat < xs.length/\v=.one (.rp j ver sz n.toNat 0)
   | .rowA sz' ver' xs=>sz'=sz/\ver'=ver/\0<=n/\n.toNat < xs.length/\v=.one (.rp j ver sz n.toNat 0)
   | _=>False)
  | _,_=>False
 | .iadA len sz x i=>own'=own/\match ev x,ev i with
  | .one (.ptr j off),.one (.d (.int _ n))=>∃ m:Nat,n=m/\m < len/\v=.one (.ptr j (off+m*sz))
  | .one (.d (.bx cs)),.one (.d (.int _ n))=>∃ m:Nat,n=m/\m < len/\v=.one (.d (.bx (cs.drop (m*sz))))
  | .one (.d (.raw (.pointer (some ⟨g,0,none⟩)))),.one (.d (.int _ n))=>∃ (m:Nat) (cells:Array Value) (T:TypeId) (fz:Nat × Nat) (ds:List D),n=m/\m < len/\S.gp g=some (.cells cells T fz)/\Xhl cells.toList=some ds/\v=.one (.d (.bx (ds.drop (m*sz))))
  | _,_=>False
 | .idxS x i=>own'=own/\match ev x,ev i with
  | .one (.d (.str s)),.one (.d (.int _ n))=>∃ (m:Nat) (b:UInt8),n=m/\s[m]?=some b/\v=.one (.d (.int .u8 b.toNat))
  | _,_=>False
 | .len kd x=>own'=own/\X3b kd (ev x).nrm own v
 | .app e sz bytes x y=>match (ev y).nrm with
  | .one (.d (.sl ys))=>(∀ q∈ys,q.length=sz)/\(match ev x with
   | .one .nil=>0 < sz/\ys.length*bytes<=140737488355328/\ys.length < lenMax/\own'=own++[.row sz 0 ys]/\v=.one (.own own.length 0)
   | .one (.own j ver)=>(match Xak own j with
    | .row sz' ver' xs=>sz'=sz/\ver'=ver/\(xs.length+ys.length)*bytes<=140737488355328/\xs.length+ys.length < lenMax/\own'=Xb1 own j (.row sz (ver+1) (xs++ys))/\v=.one (.own j (ver+1))
    | .brow e' ver' bs=>e'=e/\sz=1/\bytes=1/\ver'=ver/\(bs.length+ys.length)<=140737488355328/\∃ cs:List UInt8,ys=Yyf cs/\own'=Xb1 own j (.brow e (ver+1) (bs++cs))/\v=.one (.own j (ver+1))
    | _=>False)
   | _=>False)
  | _=>False
 | .min x y=>own'=own/\match ev x,ev y with
  | .one (.d (.int k a)),.one (.d (.int _ b))=>v=.one (.d (.int k (if b < a then b else a)))
  | _,_=>False
 | .max x y=>own'=own/\match ev x,ev y with
  | .one (.d (.int k a)),.one (.d (.int _ b))=>v=.one (.d (.int k (if a < b then b else a)))
  | _,_=>False
 | .bin kd o x y=>own'=own/\(Xua kd o (ev x) (ev y)).1/\v=.one (.d (Xua kd o (ev x) (ev y)).2)
 | .eqs neg ks x y=>own'=own/\match ev x,ev y with
  | .agg a,.agg b=>∃ r,Xcz ks a b=some r/\v=.one (.d (.bool (if neg then !r else r)))
  | _,_=>False
 | .nilq kd neg x=>own'=own/\∃ r,Yn1 kd (ev x)=some r/\v=.one (.d (.bool (if neg then !r else r)))
 | .not x=>own'=own/\match ev x with
  | .one (.d (.bool b))=>v=.one (.d (.bool !b))
  | _=>False
 | .conv k x=>own'=own/\match ev x with
  | .one (.d (.int _ n))=>v=.one (.d (.int k (k.wrap n)))
  | _=>False
 | .mkI t x=>own'=own/\∃ r,ifv t (ev x)=some r/\v=.one r
 | .mkF f caps=>own'=own/\∃ r,Wxc f (caps.map ev)=some r/\v=.one r
 | .mkMv f x=>own'=own/\∃ r,mvv f (ev x)=some r/\v=.one r
 | .mkM=>own'=own++[.map []]/\v=.one (.own own.length 0)
 | .lkp ok z kag ks m k=>own'=own/\∃ r u,(match ev m with
   | .one (.own j 0)=>(match Xak own j with
    | .map es=>Xdz kag ks es (ev k)=some r
    | _=>False)
   | .one (.d (.raw (.map none)))=>r=none
   | _=>False)/\eqV kag ks (ev k) (ev k)≠none/\u=r.getD z/\u.ok=true/\v=if ok then .tup [u,.one (.d (.bool r.isSome))] else u
 | .mupd kag ks m k x=>v=.un/\eqV kag ks (ev k) (ev k)≠none/\(ev k).ok=true/\(ev x).ok=true/\match ev m with
  | .one (.own j 0)=>(match Xak own j with
   | .map es=>∃ r,Xmx kag ks es (ev k) (ev x)=some r/\own'=Xb1 own j (.map r)
   | _=>False)
  | _=>False
 | .mkS sz bytes z l=>match ev l with
  | .one (.d (.int _ n))=>0<=n/\0 < sz/\z.length=sz/\n*bytes<=140737488355328/\n < lenMax/\own'=own++[.row sz 0 (List.replicate n.toNat z)]/\v=.one (.own own.length 0)
  | _=>False
 | .slcS x lo hi=>own'=own/\match ev x with
  | .one (.d (.str s))=>∃ l h:Nat,Xau ev lo 0 l/\Xau ev hi s.size h/\l<=h/\h<=s.size/\v=.one (.d (.str (s.extract l h)))
  | _=>False
 | .slc sz x lo hi=>match (ev x).nrm with
  | .one (.d (.sl xs))=>own'=own/\∃ l h:Nat,Xau ev lo 0 l/\Xau ev hi xs.length h/\l<=h/\h<=xs.length/\(∀ q∈xs,q.length=sz)/\v=.one (.d (.sl ((xs.take h).drop l)))
  | .one (.own j ver)=>(match Xak own j with
   | .row sz' ver' xs=>sz'=sz/\ver'=ver/\∃ l h:Nat,Xau ev lo 0 l/\Xau ev hi xs.length h/\l<=h/\h<=xs.length/\own'=Xb1 own j (.row sz (ver+1) ((xs.take h).drop l))/\v=.one (.own j (ver+1))
   | _=>False)
  | _=>False
 | .ext x i=>own'=own/\match ev x with
  | .tup l=>v=Xbn l i/\i < l.length
  | _=>False
 | .rng x=>match ev x with
  | .one (.d (.str s))=>own'=own++[.siter s 0]/\v=.one (.own own.length 0)
  | _=>False
 | .nxt x=>match ev x with
  | .one (.own j 0)=>(match Xak own j with
   | .siter s pos=>if pos < s.size then own'=Xb1 own j (.siter s (pos+(Utf8.decode s pos).2))/\v=.tup [.one (.d (.bool true)),.one (.d (.int .i64 pos)),.one (.d (.int .i32 (Utf8.decode s pos).1))]
     else own'=own/\v=.tup [.one (.d (.bool false))]
   | _=>False)
  | _=>False
 | .tas t ok z x=>own'=own/\match ev x with
  | .one (.d (.ifc t' ag cs))=>if t'=t then v=(if ok then .tup [mkV ag (cs.map .d),.one (.d (.bool true))] else mkV ag (cs.map .d)) else ok=true/\z.ok=true/\v=.tup [z,.one (.d (.bool false))]
  | .one (.d .nilI)=>ok=true/\z.ok=true/\v=.tup [z,.one (.d (.bool false))]
  | _=>False
 | .idxA len x i=>own'=own/\match ev x,ev i with
  | .agg cs,.one (.d (.int _ n))=>∃ (m:Nat) (c:A),n=m/\m < len/\cs[m]?=some c/\v=.one c
  | _,_=>False
 | .nck x=>own'=own/\v=ev x/\Yn1 .ptr (ev x)=some false
 | .cpy sz x y=>match ev x,(ev y).nrm with
  | .one (.own j ver),.one (.d (.sl ys))=>(match Xak own j with
   | .row sz' ver' xs=>sz'=sz/\ver'=ver/\(∀ q∈ys,q.length=sz)/\ys.length=xs.length/\own'=Xb1 own j (.row sz ver ys)/\v=.one (.d (.int .i64 ys.length))
   | _=>False)
  | _,_=>False
 | .call f args=>(own'=own/\Xpx S f (args.map ev) own v)\/(∃ j v0 c',own'=Xb1 own j c'/\v=Xpy j v0/\Xsq S f (args.map ev) own j v0 c') \/
   ∃ own1,own'=own1++[.dead]/\own.length<=own1.length/\Ynz S f (args.map ev) own v own1
 | .appF e sz bytes x y=>match (ev y).nrm,ev x with
  | .one (.d (.sl ys)),.one (.own j ver)=>(match Xak own j with
   | .row sz' ver' xs=>(∀ q∈ys,q.length=sz)/\sz'=sz/\ver'=ver/\(xs.length+ys.length)*bytes<=140737488355328/\xs.length+ys.length < lenMax/\own'=Xb1 own j .dead/\v=.one (.d (.sl (xs++ys)))
   | _=>False)
  | _,_=>False
 | .inv m x=>own'=own/\match ev x with
  | .one (.d (.ifc t ag cs))=>∃ f,Yn2 S.P t m f/\Xpx S f [mkV ag (cs.map .d)] own v
  | _=>False
 | .callN f args=>∃ own1,own'=own1++[.dead]/\∃ v0 post,Xay S f (args.map ev) own [] v0 post/\v=bkV own.length [] v0/\own1=own++post.map (bkC own.length [])
 | .callvF g args=>∃ f l own1,own'=own1++[.dead]/\Xeo (ev g) (args.map ev)=some (f,l)/\∃ js v0 post,Xay S f l own js v0 post/\v=bkV own.length js v0/\own1=bkO own.length js js own post/\own.length<=own1.length/\Xhq own own'
 | .callv g args=>(∃ f l,Xeo (ev g) (args.map ev)=some (f,l)/\((own'=own/\Xpx S f l own v)\/(∃ j v0 c',own'=Xb1 own j c'/\v=Xpy j v0/\(l.flatMap V.refs0).contains j=true/\Xsq S f l own j v0 c') \/
   ∃ own1,own'=own1++[.dead]/\own.length<=own1.length/\Ynz S f l own v own1)) \/
   ∃ l own1 b,ev g=.one (.d (.raw (.func (.yield l) #[] #[])))/\own'=own1++[.dead]/\own.length<=own1.length/\v=.one (.d (.bool b))/\Xn4 S l (args.map ev) own own1 b
def Xsr:MOp->Bool
 | .slc ..=>true
 | .call ..=>true
 | .callv ..=>true
 | _=>false
def Jir (b:Bool) (u:V):Prop:=u=.tup []\/∃ c,u=.one (.d (.bool c))/\c≠b
def Xss (S:Sx) (q:Bool) (K:St->Prop):List Rc->St->Prop
 | [],s=>K s
 | ⟨g,d,o,fx⟩::r,s=>(∃ v own',(∀ t b,g=some (t,b)->Xbn s.fr t=.one (.d (.bool b)))/\Ev S o (evO s.fr) s.own v own'/\(q=true->fx=false->Xsr o=true->own'=s.own)/\Xss S q K r ⟨Xa3 s.fr d v,own'⟩) \/
   (∃ t b,g=some (t,b)/\Jir b (Xbn s.fr t)/\Xss S q K r ⟨Xa3 s.fr d (.tup []),s.own⟩)
end Go.Fw
namespace Go.Fw
open Go
section
variable {P:Program} {w:World}
theorem Xe0 {t:TypeId} {n:Nat} (h:szOf P t=some n):∃ i d,P.info? t=some i/\i.size=n/\P.underlying t=some d:=by
 unfold szOf at h
 split at h
 ·rename_i hu
  cases hi:P.info? t with
  | none=>simp[hi] at h
  | some i =>
   simp[hi] at h
   obtain⟨d,hd⟩:=Option.isSome_iff_exists.1 hu
   exact⟨i,d,rfl,h,hd⟩
 ·cases h
theorem Xav {t:TypeId} {n:Nat} (h:szOf P t=some n):(sizeOf t).run P w=.ok n w:=by
 obtain⟨i,d,hi,hn,hd⟩:=Xe0 h
 simp[sizeOf,typeInfo,hi,hn]
theorem Xim {t:TypeId} {n:Nat} (h:szOf P t=some n):(isAgg t).run P w=.ok (isAggB P t) w:=by
 obtain⟨i,d,hi,hn,hd⟩:=Xe0 h
 unfold isAgg isAggB
 simp only[Sem.run_bind,Go.run_underlying hd,Result.andThen_ok,hd]
 cases d <;> rfl
theorem run_loadVar' {t:TypeId} {n:Nat} (h:szOf P t=some n) (hn:isAggB P t=true\/n=1) (b o:Nat) (vs:List Value) (hl:vs.length=n)
  (hc:∀ j v,vs[j]?=some v->w.cell? ⟨b,o+j,none⟩=some v) :
  (loadVar t ⟨b,o,none⟩).run P w=.ok (if isAggB P t then .agg vs.toArray else vs.headD undef) w:=by
 subst hl
 simp only[loadVar,Sem.run_bind,Xim h,Result.andThen_ok]
 cases e:isAggB P t with
 | true =>
  have hk:∀ j v,vs[j]?=some v->w.cell? ((⟨b,o,none⟩:Addr).add j)=some v:=by
   intro j v hv
   have:(⟨b,o,none⟩:Addr).add j=⟨b,o+j,none⟩:=by unfold Addr.add;split <;> simp_all
   rw[this];exact hc j v hv
  simp[Xav h,run_loadCells_list w _ vs hk]
 | false =>
  rw[e] at hn
  match vs,hn,hc with
  | [v],_,hc =>
   have:=hc 0 v rfl
   simp at this
   simp[this]
  | [],hn,_=>simp at hn
  | _::_::_,hn,_=>simp at hn
theorem cell_of_heap {b i:Nat} {cs:Array Value} {T:TypeId} {fz:Nat × Nat} (h:w.heap[b]?=some (.cells cs T fz)):w.cell? ⟨b,i,none⟩=cs[i]?:=by
 simp[World.cell?,h]
theorem Xc6 (w:World) (g:Nat) (r:Array Value):WKeep w (w.setRow g r) (fun x=>x=g) :=
 ⟨rfl,rfl,rfl,by simp[World.setRow],fun b _ hb=>by
  simp only[World.setRow,Array.getElem?_modify]
  rw[if_neg (fun e=>hb e.symm)]⟩
theorem run_storeVar' {t:TypeId} {n:Nat} (h:szOf P t=some n) (b o:Nat) (u:Value) (us cur:List Value) (T:TypeId) (hu:u.cells=us.toArray) (hl:us.length=n)
  (h1:∀ v∈us,v.oneCell'=true) (hb:w.heap[b]?=some (.cells cur.toArray T (0,0))) (hs:o+n<=cur.length) :
  ∃ w',(storeVar t ⟨b,o,none⟩ u).run P w=.ok () w'/\WKeep w w' (fun x=>x=b)/\w'.heap[b]?=some (.cells (cur.take o++us++cur.drop (o+n)).toArray T (0,0)):=by
 subst hl
 have hr:=run_storeCells_at P b o T us 0 cur.toArray w hb (by simpa using hs) h1
 refine⟨_,?_,Xc6 w b _,setRow_heap w b _ _ T (0,0) hb⟩
 simp only[storeVar,Sem.run_bind,Xav h,Result.andThen_ok,hu,List.size_toArray,Sem.run_ite,ne_eq,not_true,if_false,hr]
 simp
end
section
variable {H:Heap} {an:Anc} {u:Value}
theorem Xbl {k:IntKind} {n:Int} (h:Xax H an (.one (.d (.int k n))) u):u=.int k n:=by cases h;rfl
theorem Xda {b:Bool} (h:Xax H an (.one (.d (.bool b))) u):u=.bool b:=by cases h;rfl
theorem Xff {s:ByteArray} (h:Xax H an (.one (.d (.str s))) u):u=.string s:=by cases h;rfl
theorem Xkn {v:Value} (h:Xax H an (.one (.d (.raw v))) u):u=v:=by cases h;rfl
theorem Xub (h:Xax H an (.one (.d .nilI)) u):u=.nilIface:=by cases h;rfl
theorem Xb0.nrm {a:A} {u:Value} (h:Xb0 H an a u):Xb0 H an a.nrm u:=by
 cases a with
 | nil=>obtain⟨a,rfl⟩:=h;exact Den.slE a 0
 | _=>exact h
theorem Xaz.nrm:∀ {l:List A} {m:List Value},Xaz H an l m->Xaz H an (l.map A.nrm) m
 | [],[],_=>trivial
 | _::_,_::_,h=>⟨Xb0.nrm h.1,Xaz.nrm h.2⟩
theorem Xam.nrm {x:V} {u:Value} (h:Xam H an x u):Xam H an x.nrm u:=by
 cases x with
 | one a=>exact Xb0.nrm h
 | agg cs=>obtain⟨vs,e,hv⟩:=h;exact⟨vs,e,Xaz.nrm hv⟩
 | tup l=>exact h
 | un=>trivial
theorem Xax.nrm {x:V} {u:Value} (h:Xax H an x u):Xax H an x.nrm u:=by
 cases x with
 | one a=>exact Xam.nrm (x:=.one a) h
 | agg cs=>exact Xam.nrm (x:=.agg cs) h
 | tup l=>exact h
 | un=>trivial
theorem Xax.nrm2 {x:V} {u:Value} (h:Xax H an x u):Xax H an x.nrm2 u:=by
 cases x with
 | one a=>exact Xam.nrm (x:=.one a) h
 | agg cs=>exact Xam.nrm (x:=.agg cs) h
 | tup l =>
  obtain⟨vs,e,hv⟩:=h
  refine⟨vs,e,?_⟩
  clear e
  induction l generalizing vs with
  | nil=>cases vs <;> simp_all [Xal]
  | cons x l ih=>cases vs with
   | nil=>simp[Xal] at hv
   | cons v vs=>exact⟨Xam.nrm hv.1,ih vs hv.2⟩
 | un=>trivial
theorem Xax.cells {x:V} {u:Value} (h:Xax H an x u) (h1:x.ok=true):∃ us,u.cells=us.toArray/\Xaz H an x.cells us/\(∀ cs,x=.agg cs->u=.agg us.toArray)/\(∀ a,x=.one a->us=[u]):=by
 cases x with
 | one a =>
  have h:Xb0 H an a u:=h
  have h0:=Xb0.oneCell h h1
  refine⟨[u],?_,⟨h,trivial⟩,fun _ e=>(by cases e),fun _ _=>rfl⟩
  cases u <;> first|rfl|(simp[Value.oneCell'] at h0)
 | agg cs =>
  obtain⟨vs,rfl,hv⟩:=h
  exact⟨vs,rfl,hv,fun _ _=>rfl,fun a e=>by cases e⟩
 | tup l=>cases h1
 | un=>cases h1
theorem Xfg:∀ {l:List A} {us:List Value},Xaz H an l us->Xbt l=true->∀ v∈us,v.oneCell'=true
 | [],[],_,_,v,hv=>by simp at hv
 | a::l,u::us,h,hs,v,hv=>by
  have ha:a.solid=true/\Xbt l=true:=by
   cases a <;> simp_all [Xbt,A.solid]
  rcases List.mem_cons.1 hv with rfl|hv
  ·exact Xb0.oneCell h.1 ha.1
  ·exact Xfg h.2 ha.2 v hv
theorem Xdq:∀ {l:List A} {ds:List D} {vs:List Value},Xju l=some ds->Xaz H an l vs->Xc3 H ds vs
 | [],ds,vs,h,k=>by simp[Xju] at h;subst h;cases vs with|nil=>trivial|cons _ _=>simp[Xal] at k
 | a::l,ds,vs,h,k=>by
  cases vs with
  | nil=>simp[Xal] at k
  | cons v vs =>
   cases a with
   | d x =>
    simp only[Xju] at h
    cases e:Xju l with
    | none=>simp[e] at h
    | some r=>simp[e] at h;subst h;exact⟨k.1,Xdq e k.2⟩
   | nil =>
    simp only[Xju] at h
    cases e:Xju l with
    | none=>simp[e] at h
    | some r =>
     simp[e] at h;subst h
     obtain⟨a,ha⟩:=k.1
     exact⟨by rw[ha];exact .slE a 0,Xdq e k.2⟩
   | _=>simp[Xju] at h
theorem Xc3.den_d:∀ {l:List D} {m:List Value},Xc3 H l m->Xaz H an (l.map .d) m
 | [],[],_=>trivial
 | _::_,_::_,h=>⟨h.1,Xc3.den_d h.2⟩
theorem X3o {ag:Bool} {l:List A} {vs:List Value} (h:Xaz H an l vs) (hn:ag=true\/l.length=1):Xax H an (mkV ag l) (if ag then .agg vs.toArray else vs.headD undef):=by
 cases ag with
 | true=>exact⟨vs,rfl,h⟩
 | false =>
  match l,vs,h,hn with
  | [a],[v],h,_=>exact h.1
  | [],_,_,hn=>simp at hn
  | _::_::_,_,_,hn=>simp at hn
end
end Go.Fw
namespace Go.Fw
open Go
def Xbj (S:Sx) (Y:Dyn) (fr:List V) (own':List Ch) (a:Act) (ms:List Nat) (v:V) (r:Result Next):Prop :=
 ∃ x u w' H' an' F',r=.ok x w'/\(x=.value u\/(x=.skip/\u=undef))/\SatX S Y ⟨fr,own'⟩ a w' H' an' F' ms/\Xax H' an' v u
section
variable {S:Sx} {Y:Dyn} {s:St} {a:Act} {w:World} {H:Heap} {an:Anc} {F:Nat->Nat->Prop} {ms:List Nat} {o:Oper} {v:V}
theorem Xbj.same (h:SatX S Y s a w H an F ms) {u:Value} {r:Result Next} (hr:r=.ok (.value u) w) (hd:Xax H an v u):Xbj S Y s.fr s.own a ms v r :=
 ⟨_,u,w,H,an,F,hr,.inl rfl,h,hd⟩
theorem Xa4:∀ {l:List Ch} {i:Nat} {c:Ch},Xak l i=c->c≠.dead->l[i]?=some c
 | [],_,_,h,hn=>absurd h.symm (by simpa [Xak] using hn)
 | _::_,0,_,h,_=>by simpa [Xak] using h
 | _::l,i+1,c,h,hn=>by simpa using Xa4 (l:=l) (i:=i) (by simpa [Xak] using h) hn
theorem Xat:∀ (l:List Ch) (i:Nat) (c:Ch),Xb1 l i c=l.set i c
 | [],_,_=>rfl
 | _::_,0,_=>rfl
 | _::l,i+1,c=>by simp[Xb1,Xat l i c]
theorem Xdr (b o i:Nat):(⟨b,o,none⟩:Addr).add i=⟨b,o+i,none⟩:=by unfold Addr.add;split <;> simp_all
theorem SatX.box (h:SatX S Y s a w H an F ms) {i:Nat} {cs:List A} (hc:Xak s.own i=.cells cs) :
  ∃ b T vs,an i=some (0,.pointer (some ⟨b,0,none⟩))/\(∀ x,F i x↔x=b)/\w.heap[b]?=some (.cells vs.toArray T (0,0))/\Xaz H an cs vs:=by
 obtain⟨p,hp,h0,b,T,vs,h1,h2,h3,h4⟩:=h.own i _ (Xa4 hc (by simp))
 refine⟨b,T,vs,?_,h2,h3,h4⟩
 obtain⟨p1,p2⟩:=p
 simp only at h0 h1
 rw[hp,h0,h1]
theorem SatX.ptr (h:SatX S Y s a w H an F ms) {i off:Nat} {b:Nat} {u:Value} (hb:an i=some (0,.pointer (some ⟨b,0,none⟩))) (hu:Xax H an (.one (.ptr i off)) u) :
  u=.pointer (some ⟨b,off,none⟩):=by
 obtain⟨b0,rfl,p,hp,he⟩:=hu
 rw[hb] at hp;cases hp
 rw[he b rfl]
theorem Wxe (h:Xci w H) {cs:List D} {u:Value} (hu:Xax H an (.one (.d (.bx cs))) u) :
  ∃ b o cells T fz vs,u=.pointer (some ⟨b,o,none⟩)/\H b=some (.cells cells T fz)/\w.heap[b]?=some (.cells cells T fz)/\Xc3 H cs vs/\∀ j v,vs[j]?=some v->cells[o+j]?=some v:=by
 cases hu with
 | bx cs b o cells T fz f hb hf hd =>
  refine⟨b,o,cells,T,fz,(List.range cs.length).map f,rfl,hb,h _ _ hb,?_,?_⟩
  ·refine Xal.of_get (by simp) fun j x y hx hy=>?_
   simp only[List.getElem?_map] at hy
   cases e:(List.range cs.length)[j]? with
   | none=>simp[e] at hy
   | some k =>
    have:=List.getElem?_eq_some_iff.1 e
    obtain⟨hl,hk⟩:=this
    simp at hk
    subst hk
    simp[e] at hy
    subst hy
    exact hd j x hx
  ·intro j v hv
   simp only[List.getElem?_map] at hv
   cases e:(List.range cs.length)[j]? with
   | none=>simp[e] at hv
   | some k =>
    obtain⟨hl,hk⟩:=List.getElem?_eq_some_iff.1 e
    simp at hk hl
    subst hk
    simp[e] at hv
    subst hv
    obtain⟨y,hy⟩:∃ y,cs[j]?=some y:=⟨_,List.getElem?_eq_getElem hl⟩
    exact hf j y hy
theorem Xpz {x:Operand} (h:SatX S Y s a w H an F ms) (ho:o.op=.move x\/o.op=.assign x) (hv:v=evO s.fr (Xac x)) :
  Xbj S Y s.fr s.own a ms v ((execOp a.eval o).run S.P w):=by
 subst hv
 refine Xbj.same h (u:=a.eval x) ?_ (h.ev x)
 rcases ho with ho|ho <;> simp[execOp,ho]
theorem X3p {c x y:Operand} (h:SatX S Y s a w H an F ms) (ho:o.op=.pick c x y)
  (hv:match evO s.fr (Xac c) with|.one (.d (.bool b))=>v=if b then evO s.fr (Xac x) else evO s.fr (Xac y)|_=>False) :
  Xbj S Y s.fr s.own a ms v ((execOp a.eval o).run S.P w):=by
 split at hv
 ·rename_i b hc
  have hb:=Xda (hc ▸ h.ev c)
  cases b with
  | true=>refine Xbj.same h (u:=a.eval x) ?_ (by rw[hv];exact h.ev x);simp[execOp,ho,hb,asBool]
  | false=>refine Xbj.same h (u:=a.eval y) ?_ (by rw[hv];exact h.ev y);simp[execOp,ho,hb,asBool]
 ·exact hv.elim
theorem SatX.new_box (h:SatX S Y s a w H an F ms) {cs:List A} {vs:List Value} (T:TypeId) (hd:Xaz H an cs vs) :
  SatX S Y { s with own:=s.own++[.cells cs] } a { w with heap:=w.heap.push (.cells vs.toArray T) } H (an.put s.own.length (0,.pointer (some ⟨w.heap.size,0,none⟩)))
   (fun i b=>if i=s.own.length then b=w.heap.size else F i b) ms:=by
 refine h.push_own (.cells vs.toArray T) (.cells cs) (0,.pointer (some ⟨w.heap.size,0,none⟩)) ⟨rfl,w.heap.size,T,vs,rfl,fun x=>Iff.rfl,by simp,?_⟩
 refine Xal.mono (fun _ _=>Xb0.mono (Heap.Le.refl _) ⟨fun i q hq=>⟨q,?_,.inl rfl⟩⟩) hd
 unfold Anc.put
 rw[if_neg (by have:=(h.anc i).1 ⟨q,hq⟩;omega)]
 exact hq
theorem Xb2 {P:Program} {t:TypeId} {z:List D} (h:Xb6 P t=some z):∃ i u,P.info? t=some i/\i.zero=some u/\Xhl u.cells.toList=some z:=by
 unfold Xb6 at h
 cases hi:P.info? t with
 | none=>simp[hi] at h
 | some i =>
  cases hz:i.zero with
  | none=>simp[hi,hz] at h
  | some u=>simp[hi,hz] at h;exact⟨i,u,rfl,hz,h⟩
theorem X1x {e:TypeId} {z:List D} {own':List Ch} (h:SatX S Y s a w H an F ms) (ho:o.op=.alloc e) (hz:Xb6 S.P e=some z)
  (hv:own'=s.own++[.cells (z.map A.ofZ)]/\v=.one (.ptr s.own.length 0)):Xbj S Y s.fr own' a ms v ((execOp a.eval o).run S.P w):=by
 obtain⟨rfl,rfl⟩:=hv
 obtain⟨i,u,hi,hu,hd⟩:=Xb2 hz
 refine⟨.value (.pointer (some ⟨w.heap.size,0,none⟩)),_,_,_,_,_,?_,.inl rfl,h.new_box e (Xho H an hd),?_⟩
 ·simp only[execOp,ho,Instr.alloc]
  simp[zeroValue,typeInfo,hi,hu,newVar,newRow]
 ·exact⟨_,rfl,(0,.pointer (some ⟨w.heap.size,0,none⟩)),by simp[Anc.put],fun b e=>by cases e;rfl⟩
theorem X1y {P:Program} {t e:TypeId} (h:Ynw P t=some e):∃ i u,P.info? t=some i/\i.zero=some u/\Xhl u.cells.toList=some [.nilP,.sl []]:=by
 unfold Ynw at h
 split at h
 ·split at h
  ·split at h
   ·split at h
    ·rename_i hz;exact Xb2 hz
    ·cases h
   ·cases h
  ·cases h
 ·cases h
theorem Yn3 {v:Value} (h:dOf v=some .nilP):v=.pointer none:=by
 unfold dOf at h
 split at h <;> first|rfl|cases h
theorem Wxf {v:Value} (h:dOf v=some (.sl [])):v=.slice none 0 0:=by
 unfold dOf at h
 split at h <;> first|rfl|cases h
theorem Yn4 {e:TypeId} {x:Operand} {own':List Ch} (h:SatX S Y s a w H an F ms) (ho:o.op=.box e x)
  (hv:(evO s.fr (Xac x)).ok=true/\Xbt (evO s.fr (Xac x)).cells=true/\own'=s.own++[.cells (evO s.fr (Xac x)).cells]/\v=.one (.ptr s.own.length 0)) :
  Xbj S Y s.fr own' a ms v ((execOp a.eval o).run S.P w):=by
 obtain⟨hk,hs,rfl,rfl⟩:=hv
 obtain⟨us,hu,hd,_⟩:=(h.ev x).cells hk
 refine⟨.value (.pointer (some ⟨w.heap.size,0,none⟩)),_,_,_,_,_,?_,.inl rfl,h.new_box e hd,?_⟩
 ·simp only[execOp,ho,Instr.box]
  simp[newVar,newRow,hu]
 ·exact⟨_,rfl,(0,.pointer (some ⟨w.heap.size,0,none⟩)),by simp[Anc.put],fun b e=>by cases e;rfl⟩
theorem X3q {e:TypeId} {x:Operand} (h:SatX S Y s a w H an F ms) (ho:o.op=.box e x)
  (hv:(evO s.fr (Xac x)).ok=true/\∃ ds,Xju (evO s.fr (Xac x)).cells=some ds/\v=.one (.d (.bx ds))) :
  Xbj S Y s.fr s.own a ms v ((execOp a.eval o).run S.P w):=by
 obtain⟨hk,ds,hds,rfl⟩:=hv
 obtain⟨us,hu,hd,_⟩:=(h.ev x).cells hk
 have hdd:=Xdq hds hd
 refine⟨.value (.pointer (some ⟨w.heap.size,0,none⟩)),_,_,_,_,_,?_,.inl rfl,h.push_known (.cells us.toArray e),?_⟩
 ·simp only[execOp,ho,Instr.box]
  simp[newVar,newRow,hu]
 ·have hle:Heap.Le H (H.put w.heap.size (.cells us.toArray e)):=Heap.put_le (h.none_new (Nat.le_refl _))
  refine Den.bx ds w.heap.size 0 us.toArray e (0,0) (fun j=>us.getD j undef) (by simp[Heap.put]) (fun j y hy=>?_) (fun j y hy=>?_)
  ·obtain⟨q,hq,_⟩:=hdd.get hy
   simp[hq,List.getD]
  ·obtain⟨q,hq,hd'⟩:=hdd.get hy
   simp only[List.getD,hq,Option.getD_some]
   exact hd'.mono hle
theorem Xko:∀ (us:List Value) (k off:Nat) (cs:Array Value),off+k+us.length<=cs.size ->
  ((us.zipIdx k).foldl (fun (cs:Array Value) (p:Value × Nat)=>cs.setIfInBounds (off+p.2) p.1) cs).toList=cs.toList.take (off+k)++us++cs.toList.drop (off+k+us.length)
 | [],k,off,cs,_=>by simp
 | u::us,k,off,cs,h=>by
  have ih:=Xko us (k+1) off (cs.setIfInBounds (off+k) u) (by simp at h ⊢;omega)
  simp only[List.zipIdx_cons,List.foldl_cons]
  rw[ih]
  have e:=list_seg_step cs.toList (off+k) u us (by simp at h ⊢;omega)
  simpa [Array.toList_setIfInBounds,Nat.add_assoc] using e
theorem Xuc (ev:Opd->V) (ρ:Operand->Value) (hev:∀ x,Xax H an (ev (Xac x)) (ρ x)) (place:Nat->Option (Nat × Nat)) :
  ∀ (ps:List (Nat × Operand)) (qs:List (Nat × Nat × Opd)) (z cs:List A) (zs:Array Value),
   Xal (fun p q=>place p.1=some (q.1,q.2.1)/\q.2.2=Xac p.2) ps qs->Xaz H an z zs.toList->X3l ev z qs=some cs->(qs.all fun p=>(ev p.2.2).ok)=true ->
   ∃ rs,Instr.fill place zs (ps.map fun p=>(p.1,ρ p.2))=some rs/\Xaz H an cs rs.toList
 | [],[],z,cs,zs,_,hz,hl,_=>by simp[X3l] at hl;subst hl;exact⟨zs,rfl,hz⟩
 | (i,x)::ps,(off,n,y)::qs,z,cs,zs,hp,hz,hl,hk=>by
  obtain⟨⟨h1,h2⟩,h3⟩:=hp
  simp only at h1 h2
  subst h2
  simp only[List.all_cons,Bool.and_eq_true] at hk
  simp only[X3l] at hl
  split at hl
  ·rename_i hc
   obtain⟨us,hu,hd,_⟩:=(hev x).cells hk.1
   have hlu:us.length=n:=by rw[<- hd.length];exact hc.1
   have hlz:=hz.length
   simp at hlz
   obtain⟨rs,hr,hd'⟩:=Xuc ev ρ hev place ps qs _ cs (us.zipIdx.foldl (fun (cs:Array Value) (p:Value × Nat)=>cs.setIfInBounds (off+p.2) p.1) zs) h3 (by
    have e:=Xko us 0 off zs (by omega)
    simp only[Nat.add_zero] at e
    rw[e,hlu]
    exact ((hz.take off).append hd).append (hz.drop (off+n))) hl hk.2
   refine⟨rs,?_,hd'⟩
   simp only[List.map_cons,Instr.fill,h1,hu]
   simp only[List.size_toArray,hlu,ne_eq,not_true,Bool.or_eq_true,decide_eq_true_eq,false_or,gt_iff_lt]
   rw[if_neg (by simp;omega)]
   simpa using hr
  ·cases hl
theorem Xud {α β:Type} (P:Program) (g:α->Sem β) (f:α->β):∀ (l:List α) (w:World),(∀ x∈l,∀ w,(g x).run P w=.ok (f x) w)->(l.mapM g).run P w=.ok (l.map f) w
 | [],w,_=>by simp
 | x::l,w,h=>by
  simp only[List.mapM_cons,Sem.run_bind,h x (by simp) w,Result.andThen_ok,Xud P g f l w (fun y hy=>h y (by simp[hy])),Sem.run_pure,List.map_cons]
theorem Xkp {P:Program} {t:TypeId}:∀ {ps:List (Nat × Operand)} {qs:List (Nat × Nat × Opd)},Xf0 P t ps=some qs->Xal (fun p q=>Xmu P t p=some q) ps qs
 | [],qs,h=>by simp[Xf0] at h;subst h;trivial
 | p::ps,qs,h=>by
  simp only[Xf0] at h
  cases e:Xmu P t p with
  | none=>simp[e] at h
  | some q =>
   cases e':Xf0 P t ps with
   | none=>simp[e,e'] at h
   | some r=>simp[e,e'] at h;subst h;exact⟨e,Xkp e'⟩
theorem Xp0 (H:Heap) (an:Anc):∀ {l:List Value} {m:List D},Xhl l=some m->Xal (Xb0 H an) ((Jen m).map A.ofZ) l
 | [],m,h=>by simp[Xhl] at h;subst h;trivial
 | v::l,m,h=>by
  simp only[Xhl] at h
  cases e:dOf v with
  | none=>simp[e] at h
  | some x =>
   cases e':Xhl l with
   | none=>simp[e,e'] at h
   | some r =>
    simp[e,e'] at h;subst h
    refine⟨?_,Xp0 H an e'⟩
    have h1:=Xn3 H an e
    cases x with
    | sl ys =>
     unfold dOf at e
     split at e <;> cases e
     exact Den.raw (.slice none 0 0) rfl
    | _=>exact h1
theorem X1z {t:TypeId} {ps:Array (Nat × Operand)} {z0 z:List D} {qs:List (Nat × Nat × Opd)} (h:SatX S Y s a w H an F ms) (ho:o.op=.build t ps) (hf:Xn1 S.P t=true)
  (hz:Xb6 S.P t=some z0) (hzz:z=z0\/z=Jen z0) (hq:Xf0 S.P t ps.toList=some qs)
  (hv:∃ cs,X3l (evO s.fr) (z.map A.ofZ) qs=some cs/\(qs.all fun p=>(evO s.fr p.2.2).ok)=true/\v=.agg cs) :
  Xbj S Y s.fr s.own a ms v ((execOp a.eval o).run S.P w):=by
 obtain⟨cs,hl,hk,rfl⟩:=hv
 obtain⟨i,u,hi,hu,hd⟩:=Xb2 hz
 have hall:=Xkp hq
 have key:∀ (place:Nat->Option (Nat × Nat)),(∀ p q,Xmu S.P t p=some q->place p.1=some (q.1,q.2.1)/\q.2.2=Xac p.2) ->
   ∃ rs,Instr.fill place u.cells ((ps.map fun (p:Nat × Operand)=>(p.1,a.eval p.2)).toList)=some rs/\Xaz H an cs rs.toList:=by
  intro place hp
  obtain⟨rs,hr,hd'⟩:=Xuc (evO s.fr) a.eval h.ev place ps.toList qs (z.map A.ofZ) cs u.cells (hall.mono hp) (hzz.elim (fun e=>e ▸ Xho H an hd) fun e=>e ▸ Xp0 H an hd) hl hk
  exact⟨rs,by simpa using hr,hd'⟩
 unfold Xn1 at hf
 cases e:S.P.underlying t with
 | none=>simp[e] at hf
 | some d =>
  rw[e] at hf
  cases d <;> first|(cases hf;done)|skip
  case struct fs =>
   have hf:=List.all_eq_true.1 hf
   obtain⟨rs,hr,hd'⟩:=key ((fs.map fun f=>(f.offset,(szOf S.P f.type).getD 0))[·]?) (by
    intro p q hpq
    simp only[Xmu,e] at hpq
    cases e1:fs[p.1]? with
    | none=>simp[e1] at hpq
    | some f =>
     cases e2:szOf S.P f.type with
     | none=>simp[e1,e2] at hpq
     | some n =>
      simp[e1,e2] at hpq
      subst hpq
      simp[e1,e2])
   refine Xbj.same h (u:=.agg rs) ?_ ⟨rs.toList,by simp,hd'⟩
   have hm:=Xud S.P (fun (f:Field)=>(do pure (f.offset,<- sizeOf f.type):Sem (Nat × Nat))) (fun f=>(f.offset,(szOf S.P f.type).getD 0)) fs.toList w (by
    intro f hfm w'
    have:=hf f hfm
    cases e2:szOf S.P f.type with
    | none=>simp[e2] at this
    | some n=>simp[Xav e2])
   simp only[execOp,ho,Instr.build,Sem.run_bind,zeroValue,typeInfo,run_program,Result.andThen_ok,hi,Sem.run_pure,hu,Go.run_underlying e]
   rw[Array.mapM_eq_mapM_toList]
   simp only[Sem.run_map,hm,Result.andThen_ok]
   have hr':Instr.fill (fun x=>(List.map (fun f=>(f.offset,(szOf S.P f.type).getD 0)) fs.toList).toArray[x]?) u.cells ((ps.map fun (p:Nat × Operand)=>(p.1,a.eval p.2)).toList)=some rs:=by
    rw[<- hr];congr 1;funext x;simp
   simp only[hr',Sem.run_pure,Result.andThen_ok]
  case array len el =>
   cases e2:szOf S.P el with
   | none=>simp[e2] at hf
   | some n =>
    obtain⟨rs,hr,hd'⟩:=key (fun i=>some (i*n,n)) (by
     intro p q hpq
     simp only[Xmu,e,e2,Option.map_some,Option.some.injEq] at hpq
     subst hpq
     exact⟨rfl,rfl⟩)
    refine Xbj.same h (u:=.agg rs) ?_ ⟨rs.toList,by simp,hd'⟩
    simp only[execOp,ho,Instr.build,Sem.run_bind,zeroValue,typeInfo,run_program,Result.andThen_ok,hi,Sem.run_pure,hu,Go.run_underlying e,Xav e2,hr]
end
end Go.Fw
namespace Go.Fw
open Go
section
variable {α:Type} {sz:Nat}
theorem flat_len:∀ {xs:List (List α)},(∀ x∈xs,x.length=sz)->xs.flatten.length=xs.length*sz
 | [],_=>by simp
 | x::xs,h=>by
  simp only[List.flatten_cons,List.length_append,List.length_cons,h x (by simp),flat_len (xs:=xs) (fun y hy=>h y (by simp[hy]))]
  rw[Nat.add_mul];omega
theorem Xds:∀ {xs:List (List α)} {i j:Nat} {x:List α} {y:α},(∀ x∈xs,x.length=sz)->xs[i]?=some x->x[j]?=some y->xs.flatten[i*sz+j]?=some y
 | [],i,j,x,y,_,hx,_=>by simp at hx
 | z::xs,0,j,x,y,h,hx,hy=>by
  simp at hx;subst hx
  have:=(List.getElem?_eq_some_iff.1 hy).1
  simp only[Nat.zero_mul,Nat.zero_add,List.flatten_cons]
  rw[List.getElem?_append_left this];exact hy
 | z::xs,i+1,j,x,y,h,hx,hy=>by
  have hz:=h z (by simp)
  have:=Xds (xs:=xs) (i:=i) (j:=j) (fun y hy=>h y (by simp[hy])) (by simpa using hx) hy
  simp only[List.flatten_cons]
  rw[List.getElem?_append_right (by rw[hz,Nat.add_mul];omega),hz,<- this]
  congr 1
  rw[Nat.add_mul];omega
theorem Xue:∀ {xs:List (List α)} {i:Nat} {x:List α},(∀ x∈xs,x.length=sz)->i < xs.length->(xs.set i x).flatten=xs.flatten.take (i*sz)++x++xs.flatten.drop (i*sz+sz)
 | [],i,x,_,hi=>by simp at hi
 | z::xs,0,x,h,_=>by
  have hz:=h z (by simp)
  simp[<- hz]
 | z::xs,i+1,x,h,hi=>by
  have hz:=h z (by simp)
  have ih:=Xue (xs:=xs) (i:=i) (x:=x) (fun y hy=>h y (by simp[hy])) (by simpa using hi)
  simp only[List.set_cons_succ,List.flatten_cons,ih]
  have e1:(i+1)*sz=z.length+i*sz:=by rw[hz,Nat.add_mul];omega
  rw[e1,List.take_length_add_append,Nat.add_assoc,List.drop_length_add_append]
  simp
theorem Xn5:∀ {xs:List (List α)} {k:Nat},0 < sz->(∀ x∈xs,x.length=sz)->k < xs.length*sz->∃ x y,xs[k / sz]?=some x/\x[k % sz]?=some y/\xs.flatten[k]?=some y:=by
 intro xs k hs h hk
 have h1:k / sz < xs.length:=Nat.div_lt_of_lt_mul (by rw[Nat.mul_comm];exact hk)
 have h2:k % sz < sz:=Nat.mod_lt _ hs
 have hx:=List.getElem?_eq_getElem h1
 have hl:=h _ (List.getElem_mem h1)
 have hy:(xs[k / sz])[k % sz]?=some ((xs[k / sz])[k % sz]'(by omega)):=List.getElem?_eq_getElem (by omega)
 refine⟨_,_,hx,hy,?_⟩
 have:=Xds h hx hy
 rw[<- this]
 congr 1
 rw[Nat.mul_comm]
 exact (Nat.div_add_mod k sz).symm
end
theorem Xbq (z:List D):∀ n,(Xc0 z n).length=n
 | 0=>rfl
 | n+1=>by simp[Xc0,Xbq z n]
theorem Xe1 {z x:List D}:∀ {n:Nat},x∈Xc0 z n->x=z
 | 0,h=>by simp[Xc0] at h
 | n+1,h=>by
  simp only[Xc0,List.mem_cons] at h
  rcases h with h|h
  ·exact h
  ·exact Xe1 h
theorem Xp1 {z:List D}:∀ {n i:Nat},i < n->(Xc0 z n)[i]?=some z
 | 0,_,h=>by omega
 | _+1,0,_=>rfl
 | n+1,i+1,h=>by simpa [Xc0] using Xp1 (n:=n) (i:=i) (by omega)
section
variable {S:Sx} {Y:Dyn} {s:St} {a:Act} {w:World} {H:Heap} {an:Anc} {F:Nat->Nat->Prop} {ms:List Nat} {o:Oper} {v:V}
theorem Xkq (ev:Opd->V) (ρ:Operand->Value) (hev:∀ x,Xax H an (ev (Xac x)) (ρ x)) (sz:Nat) :
  ∀ (ps:List (Nat × Operand)) (z xs:List (List D)) (zs:Array Value),Xc3 H z.flatten zs.toList->(∀ x∈z,x.length=sz)->Xsn ev sz z (ps.map fun p=>(p.1,Xac p.2))=some xs ->
   ((ps.map fun p=>(p.1,Xac p.2)).all fun p=>(ev p.2).ok)=true ->
   ∃ rs,Instr.fill (fun i=>some (i*sz,sz)) zs (ps.map fun p=>(p.1,ρ p.2))=some rs/\Xc3 H xs.flatten rs.toList/\(∀ x∈xs,x.length=sz)/\xs.length=z.length
 | [],z,xs,zs,hz,hs,hl,_=>by simp[Xsn] at hl;subst hl;exact⟨zs,rfl,hz,hs,rfl⟩
 | (i,x)::ps,z,xs,zs,hz,hs,hl,hk=>by
  simp only[List.map_cons,List.all_cons,Bool.and_eq_true] at hk
  simp only[List.map_cons,Xsn] at hl
  cases e:Xju (ev (Xac x)).cells with
  | none=>simp[e] at hl
  | some cs =>
   simp only[e] at hl
   split at hl
   ·rename_i hc
    obtain⟨us,hu,hd,_⟩:=(hev x).cells hk.1
    have hd:=Xdq e hd
    have hlu:us.length=sz:=by rw[<- hd.length];exact hc.1
    have hlz:=hz.length
    rw[flat_len hs] at hlz
    simp only[Array.length_toList] at hlz
    have hi:i*sz+sz<=zs.size:=by
     rw[<- hlz]
     have:(i+1)*sz<=z.length*sz:=Nat.mul_le_mul_right _ hc.2
     rw[Nat.add_mul] at this;omega
    obtain⟨rs,hr,hd',h1,h2⟩:=Xkq ev ρ hev sz ps (z.set i cs) xs (us.zipIdx.foldl (fun (cs:Array Value) (p:Value × Nat)=>cs.setIfInBounds (i*sz+p.2) p.1) zs) (by
     have e:=Xko us 0 (i*sz) zs (by omega)
     simp only[Nat.add_zero] at e
     rw[e,hlu,Xue hs hc.2]
     exact ((hz.take (i*sz)).append hd).append (hz.drop (i*sz+sz))) (by
     intro y hy
     rcases List.mem_or_eq_of_mem_set hy with hy|hy
     ·exact hs y hy
     ·rw[hy];exact hc.1) hl hk.2
    refine⟨rs,?_,hd',h1,by simpa using h2⟩
    simp only[List.map_cons,Instr.fill,hu]
    simp only[List.size_toArray,hlu,ne_eq,not_true,Bool.or_eq_true,decide_eq_true_eq,false_or,gt_iff_lt]
    rw[if_neg (by simp;omega)]
    simpa using hr
   ·cases hl
theorem Xc3.row {xs:List (List D)} {sz b o c:Nat} {cells:Array Value} {T:TypeId} {fz:Nat × Nat} (hs:0 < sz) (hb:H b=some (.cells cells T fz)) (h1:∀ x∈xs,x.length=sz)
  (hc:xs.length<=c) (hl:xs.length < lenMax) (hd:Xc3 H xs.flatten ((cells.toList.drop o).take (xs.length*sz))):Den H (.sl xs) (.slice (some ⟨b,o,none⟩) xs.length c):=by
 refine Den.sl xs b o c sz cells T fz (fun i j=>cells.getD (o+i*sz+j) undef) hb h1 hc hl ?_ ?_
 ·intro i x j y hx hy
  obtain⟨q,hq,_⟩:=hd.get (Xds h1 hx hy)
  rw[List.getElem?_take] at hq
  split at hq
  ·rw[List.getElem?_drop] at hq
   have:cells[o+i*sz+j]?=some q:=by rw[<- Array.getElem?_toList,<- hq];congr 1;omega
   simp[Array.getD_eq_getD_getElem?,this]
  ·cases hq
 ·intro i x j y hx hy
  obtain⟨q,hq,hd'⟩:=hd.get (Xds h1 hx hy)
  rw[List.getElem?_take] at hq
  split at hq
  ·rw[List.getElem?_drop] at hq
   have:cells[o+i*sz+j]?=some q:=by rw[<- Array.getElem?_toList,<- hq];congr 1;omega
   simp only[Array.getD_eq_getD_getElem?,this,Option.getD_some]
   exact hd'
  ·cases hq
theorem Xgo {z:List D} {u:Value} (hd:Xhl u.cells.toList=some z) {sz:Nat} (hz:z.length=sz) (hs:0 < sz) (n:Nat) :
  Xc3 H (Xc0 z n).flatten ((Array.range (n*sz)).map (u.cells[· % u.cells.size]!)).toList:=by
 have hdd:=Xhn H hd
 have hus:u.cells.size=sz:=by have:=hdd.length;simp at this;omega
 have hm:∀ x∈Xc0 z n,x.length=sz:=fun x hx=>by rw[Xe1 hx];exact hz
 refine Xal.of_get (by rw[flat_len hm,Xbq];simp) fun k x y hx hy=>?_
 have hk:k < n*sz:=by
  have:=(List.getElem?_eq_some_iff.1 hy).1
  simpa using this
 obtain⟨x',y',h1,h2,h3⟩:=Xn5 (xs:=Xc0 z n) hs hm (by rw[Xbq];exact hk)
 rw[h3] at hx;cases hx
 rw[Xp1 (Nat.div_lt_of_lt_mul (by rw[Nat.mul_comm];exact hk))] at h1
 cases h1
 obtain⟨q,hq,hd'⟩:=hdd.get h2
 have:y=q:=by
  simp only[Array.toList_map,List.getElem?_map,Array.toList_range,List.getElem?_range hk,Option.map_some,Option.some.injEq] at hy
  rw[<- hy,hus]
  have hq':u.cells[k % sz]?=some q:=by rw[<- Array.getElem?_toList];exact hq
  simp[getElem!_def,hq']
 rw[this];exact hd'
theorem Xst {t e:TypeId} {len:Nat} {ps:Array (Nat × Operand)} {z:List D} {n:Nat} (h:SatX S Y s a w H an F ms) (ho:o.op=.buildSlice t len ps) (ht:S.P.underlying t=some (.slice e))
  (hn:szOf S.P e=some n) (hz:Xb6 S.P e=some z)
  (hv:z.length=n/\len*n<=16777216/\0 < n/\∃ xs,Xsn (evO s.fr) n (Xc0 z len) (ps.toList.map fun p=>(p.1,Xac p.2))=some xs/\((ps.toList.map fun p=>(p.1,Xac p.2)).all fun p=>(evO s.fr p.2).ok)=true/\v=.one (.d (.sl xs))) :
  Xbj S Y s.fr s.own a ms v ((execOp a.eval o).run S.P w):=by
 obtain⟨hzl,hlen,hpos,xs,hl,hk,rfl⟩:=hv
 obtain⟨i,u,hi,hu,hd⟩:=Xb2 hz
 have hc:=Xgo (H:=H) hd hzl hpos len
 obtain⟨rs,hr,hd',h1,h2⟩:=Xkq (evO s.fr) a.eval h.ev n ps.toList (Xc0 z len) xs _ hc (fun x hx=>by rw[Xe1 hx];exact hzl) hl hk
 rw[Xbq] at h2
 have hr':Instr.fill (fun i=>some (i*n,n)) ((Array.range (len*n)).map (u.cells[· % u.cells.size]!)) (ps.map fun (p:Nat × Operand)=>(p.1,a.eval p.2)).toList=some rs:=by simpa using hr
 refine⟨.value (.slice (some ⟨w.heap.size,0,none⟩) len len),_,_,_,_,_,?_,.inl rfl,h.push_known (.cells rs e),?_⟩
 ·by_cases h0:len*n=0
  ·have hl0:len=0:=by rcases Nat.mul_eq_zero.1 h0 with h|h <;> omega
   subst hl0
   simp only[Nat.zero_mul] at hr'
   have e0:(Array.range 0).map (u.cells[· % u.cells.size]!)=(#[]:Array Value):=by simp
   rw[e0] at hr'
   have e1:(Array.range 0).map ((#[]:Array Value)[· % (#[]:Array Value).size]!)=(#[]:Array Value):=by simp
   simp only[execOp,ho,Instr.buildSlice,Sem.run_bind,Go.run_underlying ht,Result.andThen_ok,Xav hn,Nat.zero_mul]
   simp only[Nat.not_lt_zero,gt_iff_lt,if_false,if_true,Sem.run_bind,Sem.run_pure,Result.andThen_ok]
   rw[e1,hr']
   simp[newRow]
  ·simp only[execOp,ho,Instr.buildSlice,Sem.run_bind,Go.run_underlying ht,Result.andThen_ok,Xav hn]
   rw[if_neg (by omega)]
   simp only[if_neg h0,Sem.run_bind,zeroValue,typeInfo,run_program,hi,hu,Sem.run_pure,Result.andThen_ok,hr']
   simp[newRow]
 ·have hle:Heap.Le H (H.put w.heap.size (.cells rs e)):=Heap.put_le (h.none_new (Nat.le_refl _))
  show Den _ (.sl xs) _
  have hll:xs.length < lenMax:=by
   have:xs.length*1<=xs.length*n:=Nat.mul_le_mul_left _ hpos
   rw[h2] at this ⊢
   unfold lenMax;omega
  rw[<- h2]
  refine Xc3.row (cells:=rs) (T:=e) (fz:=(0,0)) hpos (by simp[Heap.put]) h1 (Nat.le_refl _) hll ?_
  have hlr:=hd'.length
  rw[flat_len h1] at hlr
  rw[List.drop_zero,List.take_of_length_le (by omega)]
  exact hd'.mono hle
end
end Go.Fw
