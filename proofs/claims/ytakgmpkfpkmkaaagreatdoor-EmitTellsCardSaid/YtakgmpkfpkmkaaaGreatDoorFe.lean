/- The framework,part 27: arguments that read as plain data are data. -/
import Derived.Test.YtakgmpkfpkmkaaaGreatDoorFd
import Derived.DataReads
import Derived.SizedLaws
import Derived.RowKit
import Derived.Carry
import Derived.ChangeOld
import Derived.Handed
import Derived.JoinedOf
set_option linter.all false
namespace Go.Fw
open Go
theorem Xj5 {α β:Type} {f:α->Option β}:∀ {l:List α} {m:List β},l.mapM f=some m->Xal (fun a b=>f a=some b) l m
 | [],m,h=>by simp at h;subst h;trivial
 | a::l,m,h=>by
  simp only[List.mapM_cons,Option.pure_def,Option.bind_eq_bind,Option.bind_eq_some_iff] at h
  obtain⟨b,h1,r,h2,h3⟩:=h
  cases h3
  exact⟨h1,Xj5 h2⟩
section
variable (P:Program)
def Cat (R:Field->List D->Prop):List Field->List D->Prop
 | [],ds=>ds=[]
 | f::l,ds=>∃ a b,ds=a++b/\R f a/\Cat R l b
def Xcg:Nat->TypeId->List D->Prop
 | 0,_,_=>False
 | n+1,t,ds=>match P.underlying t with
  | some .bool=>∃ b,ds=[.bool b]
  | some (.int k)=>∃ m,ds=[.int k m]
  | some .string=>∃ s,ds=[.str s]
  | some (.slice e)=>∃ xs,ds=[.sl xs]/\∀ x∈xs,Xcg n e x
  | some (.struct fs)=>Cat (fun f d=>Xcg n f.type d) fs.toList ds
  | _=>False
def Xnk:List Field->Nat->Nat->Bool
 | [],o,N=>o==N
 | f::l,o,N=>f.offset==o && Xnk l (o+P.cellsOf f.type) N
def Xe5:Nat->TypeId->Bool
 | 0,_=>false
 | n+1,t=>match P.underlying t with
  | some .bool=>true
  | some (.int _)=>true
  | some .string=>true
  | some (.slice e)=>decide (0 < P.cellsOf e) && decide (0 < P.bytesOf e) && Xe5 n e
  | some (.struct fs)=>Xnk P fs.toList 0 (P.cellsOf t) && fs.toList.all fun f=>Xe5 n f.type
  | _=>false
end
def Xbd (w:World):Heap:=fun b=>w.heap[b]?
theorem Xti {w:World} {b o:Nat} {v:Value} (h:w.cell? ⟨b,o,none⟩=some v):∃ cells T fz,w.heap[b]?=some (.cells cells T fz)/\cells[o]?=some v:=by
 unfold World.cell? at h
 cases e:w.heap[b]? with
 | none=>simp[e] at h
 | some ob =>
  cases ob <;> simp[e] at h
  exact⟨_,_,_,rfl,h⟩
variable {P:Program} {H:Type} {enc:TypeId × Value->H} {w:World} {base:Nat} {sp:Nat->Bool} {held:Bool}
theorem Xrg {a:Addr} {n:Nat} {cs:List Value} (h:w.cells? base a n=some cs):cs.length=n/\∀ j v,cs[j]?=some v->w.cell? (a.add j)=some v:=by
 unfold World.cells? at h
 split at h
 ·have:=Xj5 h
  have hl:=this.length
  simp at hl
  refine⟨hl.symm,fun j v hv=>?_⟩
  have hj:j < n:=by
   have:=(List.getElem?_eq_some_iff.1 hv).1;omega
  obtain⟨u,hu,hd⟩:=this.get (i:=j) (a:=j) (by simp[hj])
  rw[hu] at hv;cases hv;exact hd
 ·cases h
theorem Xlv {n:Nat} {N:Nat} {fuel:Nat}
  (ih:∀ (fuel:Nat) (t:TypeId) (cs:List Value) (x:DataW H × List MemPlace),Xe5 P n t=true->DataW.trod enc P w base sp held fuel t cs=some x->(∀ k∈x.1.weights P t,k<=reachBytes)->∃ ds,Xc3 (Xbd w) ds cs/\Xcg P n t ds)
  (cs:List Value) (hN:cs.length=N):∀ (fs:List Field) (o:Nat) (xs:List (DataW H × List MemPlace)),Xnk P fs o N=true->(fs.all fun f=>Xe5 P n f.type)=true ->
   (fs.mapM fun f=>DataW.trod enc P w base sp held fuel f.type ((cs.drop f.offset).take (P.cellsOf f.type)))=some xs->(∀ k∈DataW.weightsEach P (fs.map (·.type)) (xs.map (·.1)),k<=reachBytes)->∃ ds,Xc3 (Xbd w) ds (cs.drop o)/\Cat (fun f d=>Xcg P n f.type d) fs ds
 | [],o,xs,hc,_,_,_=>by
  simp only[Xnk,beq_iff_eq] at hc
  refine⟨[],?_,rfl⟩
  rw[List.drop_of_length_le (by omega)]
  trivial
 | f::fs,o,xs,hc,ha,hm,hw=>by
  simp only[Xnk,Bool.and_eq_true,beq_iff_eq] at hc
  simp only[List.all_cons,Bool.and_eq_true] at ha
  simp only[List.mapM_cons,Option.pure_def,Option.bind_eq_bind,Option.bind_eq_some_iff] at hm
  obtain⟨y,h1,r,h2,h3⟩:=hm
  cases h3
  simp only[List.map_cons,DataW.weightsEach,List.mem_append] at hw
  obtain⟨d1,hd1,hs1⟩:=ih fuel f.type _ y ha.1 h1 fun k hk=>hw k (.inl hk)
  obtain⟨d2,hd2,hs2⟩:=Xlv ih cs hN fs (o+P.cellsOf f.type) r hc.2 ha.2 h2 fun k hk=>hw k (.inr hk)
  refine⟨d1++d2,?_,d1,d2,rfl,hs1,hs2⟩
  rw[hc.1] at hd1
  have e:cs.drop o=(cs.drop o).take (P.cellsOf f.type)++cs.drop (o+P.cellsOf f.type):=by
   rw[<- List.drop_drop,List.take_append_drop]
  rw[e]
  exact hd1.append hd2
theorem Wn8 (a:Addr) (i j:Nat):a.add (i+j)=(a.add i).add j:=by
 unfold Addr.add
 by_cases hi:i=0
 ·subst hi;simp
 ·by_cases hj:j=0
  ·subst hj;simp[hi]
  ·simp[hi,hj,Nat.add_assoc]
theorem Yf6 (b o n:Nat):(Addr.add ⟨b,o,none⟩ n)=⟨b,o+n,none⟩:=by
 unfold Addr.add
 by_cases hn:n=0 <;> simp[hn]
theorem Xlw {e:TypeId} {d:DataW H}:∀ {l:List (DataW H)},d∈l->∀ k∈d.weights P e,k∈DataW.weightsAll P e l
 | a::l,h,k,hk=>by
  simp only[DataW.weightsAll,List.mem_append]
  rcases List.mem_cons.1 h with rfl|h
  ·exact .inl hk
  ·exact .inr (Xlw h k hk)
theorem Yuq {n:Nat} {fuel:Nat} {e:TypeId}
  (ih:∀ (fuel:Nat) (t:TypeId) (cs:List Value) (x:DataW H × List MemPlace),Xe5 P n t=true->DataW.trod enc P w base sp held fuel t cs=some x->(∀ k∈x.1.weights P t,k<=reachBytes)->∃ ds,Xc3 (Xbd w) ds cs/\Xcg P n t ds)
  (he:0 < P.cellsOf e) (hp:Xe5 P n e=true) (a:Addr) (len c:Nat) (hl:len<=c) (hc:len < lenMax) (l:List (DataW H × List MemPlace))
  (hm:((List.range len).mapM fun i=>(w.cells? base (a.add (i*P.cellsOf e)) (P.cellsOf e)).bind (DataW.trod enc P w base sp held fuel e))=some l) (hw:∀ y∈l,∀ k∈y.1.weights P e,k<=reachBytes) :
  ∃ xs,Den (Xbd w) (.sl xs) (.slice (some a) len c)/\∀ x∈xs,Xcg P n e x:=by
 have hA:=Xj5 hm
 have hL:=hA.length
 rw[List.length_range] at hL
 have key:∀ i,i < len->∃ ds cs,w.cells? base (a.add (i*P.cellsOf e)) (P.cellsOf e)=some cs/\Xc3 (Xbd w) ds cs/\Xcg P n e ds:=by
  intro i hi
  obtain⟨u,hu,hd⟩:=hA.get (i:=i) (a:=i) (by simp[hi])
  simp only[Option.bind_eq_some_iff] at hd
  obtain⟨cs,h1,h2⟩:=hd
  obtain⟨ds,h3,h4⟩:=ih _ _ _ _ hp h2 (hw u (List.mem_of_getElem? hu))
  exact⟨ds,cs,h1,h3,h4⟩
 by_cases h0:len=0
 ·subst h0
  exact⟨[],Den.slE _ _,by simp⟩
 ·let g:Nat->List D:=fun i=>if h:i < len then (key i h).choose else []
  let xs:=(List.range len).map g
  have hx:∀ i x,xs[i]?=some x->∃ h:i < len,x=(key i h).choose:=by
   intro i x hx
   simp only[xs,List.getElem?_map,Option.map_eq_some_iff] at hx
   obtain⟨j,hj,rfl⟩:=hx
   have hi:i < len:=by
    have:=(List.getElem?_eq_some_iff.1 hj).1;simpa using this
   rw[List.getElem?_range hi] at hj
   cases hj
   exact⟨hi,by simp[g,hi]⟩
  have hlen:xs.length=len:=by simp[xs]
  have cell:∀ i x j y,xs[i]?=some x->x[j]?=some y->∃ v,w.cell? (a.add (i*P.cellsOf e+j))=some v/\Den (Xbd w) y v:=by
   intro i x j y hi hj
   obtain⟨hlt,rfl⟩:=hx i x hi
   obtain⟨cs,h1,h2,_⟩:=(key i hlt).choose_spec
   obtain⟨v,hv,hd⟩:=h2.get hj
   have:=(Xrg h1).2 j v hv
   refine⟨v,?_,hd⟩
   rw[<- this,Wn8]
  have hsz:∀ x∈xs,x.length=P.cellsOf e:=by
   intro x hxm
   obtain⟨i,hi⟩:=List.mem_iff_getElem?.1 hxm
   obtain⟨hlt,rfl⟩:=hx i x hi
   obtain⟨cs,h1,h2,_⟩:=(key i hlt).choose_spec
   rw[h2.length,(Xrg h1).1]
  -- the block
  have h00:=(key 0 (by omega)).choose_spec
  have hx0:xs[0]?=some (key 0 (by omega)).choose:=by
   simp[xs,g,h0,Nat.pos_of_ne_zero h0]
  have hne:0 < ((key 0 (by omega)).choose).length:=by
   rw[hsz _ (List.mem_of_getElem? hx0)];exact he
  obtain⟨v0,hv0,_⟩:=cell 0 _ 0 _ hx0 (List.getElem?_eq_getElem hne)
  have hs:a.spot=none:=by
   have:=World.cell?_spot hv0
   simpa [Addr.add] using this
  obtain⟨ab,ao,asp⟩:=a
  cases hs
  simp only[Yf6] at hv0 cell
  obtain⟨cells,T,fz,hb,_⟩:=Xti hv0
  refine⟨xs,?_,?_⟩
  ·have hD:=Den.sl (H:=Xbd w) xs ab ao c (P.cellsOf e) cells T fz (fun i j=>(cells[ao+i*P.cellsOf e+j]?).getD .nilFunc) hb hsz (by omega) (by omega) ?_ ?_
   ·rw[hlen] at hD;exact hD
   ·intro i x j y hi hj
    obtain⟨v,hv,_⟩:=cell i x j y hi hj
    obtain⟨cells',T',fz',hb',hv'⟩:=Xti hv
    rw[hb] at hb';cases hb'
    rw[<- Nat.add_assoc] at hv'
    simp[hv']
   ·intro i x j y hi hj
    obtain⟨v,hv,hd⟩:=cell i x j y hi hj
    obtain⟨cells',T',fz',hb',hv'⟩:=Xti hv
    rw[hb] at hb';cases hb'
    rw[<- Nat.add_assoc] at hv'
    simpa [hv'] using hd
  ·intro x hxm
   obtain⟨i,hi⟩:=List.mem_iff_getElem?.1 hxm
   obtain⟨hlt,rfl⟩:=hx i x hi
   obtain⟨cs,h1,h2,h3⟩:=(key i hlt).choose_spec
   exact h3
theorem Xo5:∀ (n:Nat) (fuel:Nat) (t:TypeId) (cs:List Value) (x:DataW H × List MemPlace),Xe5 P n t=true->DataW.trod enc P w base sp held fuel t cs=some x->(∀ k∈x.1.weights P t,k<=reachBytes)->∃ ds,Xc3 (Xbd w) ds cs/\Xcg P n t ds
 | 0,_,_,_,_,h,_,_=>by cases h
 | n+1,0,t,cs,x,_,h,_=>by simp[DataW.trod] at h
 | n+1,fuel+1,t,cs,x,hp,h,hwt=>by
  rw[DataW.trod_step] at h
  unfold DataW.trodStep at h
  unfold Xe5 at hp
  unfold Xcg
  cases ht:P.underlying t with
  | none=>rw[ht] at hp;cases hp
  | some k =>
   rw[ht] at h hp
   cases k <;> simp only at hp <;> first|(cases hp;done)|skip
   case bool =>
    split at h <;> first|(have:=‹some TypeDesc.bool=some _›;cases this;done)|skip
    ·exact⟨[.bool _],⟨Den.bool _,trivial⟩,_,rfl⟩
    ·cases h
   case int k =>
    split at h <;> first|(have:=‹some (TypeDesc.int k)=some _›;cases this;done)|skip
    ·rename_i e1
     cases e1
     split at h
     ·rename_i e2
      cases e2.1
      exact⟨[.int k _],⟨Den.int _ _,trivial⟩,_,rfl⟩
     ·cases h
    ·cases h
   case string =>
    split at h <;> first|(have:=‹some TypeDesc.string=some _›;cases this;done)|skip
    ·exact⟨[.str _],⟨Den.str _,trivial⟩,_,rfl⟩
    ·cases h
   case slice e =>
    split at h <;> first|(have:=‹some (TypeDesc.slice e)=some _›;cases this;done)|skip
    ·exact⟨[.sl []],⟨Den.slE _ _,trivial⟩,[],rfl,by simp⟩
    ·rename_i a len c e1
     cases e1
     simp only[Bool.and_eq_true,decide_eq_true_eq] at hp
     dsimp only at h
     split at h
     ·rename_i hb
      simp only[Option.bind_eq_some_iff,Option.map_eq_some_iff] at h
      obtain⟨l,h1,r,h2,rfl⟩:=h
      simp only[DataW.weights,ht,List.mem_cons,List.mem_append,List.length_map] at hwt
      have hl:l.length=len:=by simpa using (Xj5 h1).length.symm
      have h47:=hwt _ (.inl rfl)
      have hlen:len < lenMax:=by
       have:len*1<=(l.length+r.length)*P.bytesOf _:=Nat.mul_le_mul (by omega) hp.1.2
       have:=reachBytes_lt
       simp only[lenMax]
       omega
      obtain⟨xs,hx,hs⟩:=Yuq (Xo5 n) hp.1.1 hp.2 a len c hb.2.1 hlen l h1 (fun y hy k hk=>hwt k (.inr (.inl (Xlw (List.mem_map.2 ⟨y,hy,rfl⟩) k hk))))
      exact⟨[.sl xs],⟨hx,trivial⟩,xs,rfl,hs⟩
     ·cases h
    ·cases h
   case struct fs =>
    split at h <;> first|(have:=‹some (TypeDesc.struct fs)=some _›;cases this;done)|skip
    ·rename_i e1
     cases e1
     simp only[Bool.and_eq_true] at hp
     split at h
     ·rename_i hl
      simp only[Option.map_eq_some_iff] at h
      obtain⟨xs,h1,rfl⟩:=h
      simp only[DataW.weights,ht] at hwt
      have:=Xlv (Xo5 n) _ hl fs.toList 0 xs hp.1 hp.2 h1 hwt
      simpa using this
     ·cases h
    ·exact absurd rfl ((‹∀ (fs_1:Array Field),some (TypeDesc.struct fs)=some (TypeDesc.struct fs_1)->False›) fs)
theorem Yur {t:TypeId} {v:Value} {d:DataW H} {ps:List MemPlace} (n:Nat) (hp:Xe5 P n t=true) (h:DataW.Trod enc P w base sp held t v d ps) (hw:∀ k∈d.weights P t,k<=reachBytes) :
  ∃ ds,Xc3 (Xbd w) ds v.cells.toList/\Xcg P n t ds:=by
 obtain⟨fuel,h⟩:=h
 exact Xo5 n fuel t _ _ hp h hw
end Go.Fw
namespace Go.Fw
open Go Go.RowKit Go.ChangeShapes
section
variable (P:Program)
def Wn9 (t:TypeId) (ds:List D):V:=match P.underlying t with
 | some (.struct _)=>.agg (ds.map .d)
 | _=>match ds with
  | [d]=>.one (.d d)
  | _=>.un
def Yf7:List TypeId->List (List D)->List V
 | t::ts,ds::r=>Wn9 P t ds::Yf7 ts r
 | _,_=>[]
end
variable {P:Program} {H:Type} {enc:TypeId × Value->H} {W:World}
theorem Xrh {K:Heap} {an:Anc}:∀ {ds:List D} {vs:List Value},Xc3 K ds vs->Xaz K an (ds.map .d) vs
 | [],[],_=>trivial
 | _::_,_::_,h=>⟨h.1,Xrh h.2⟩
theorem Woa {an:Anc} {r:Reach} {b0:Nat} {base:Nat} {sp:Nat->Bool} {held:Bool} {t:TypeId} {v:Value} {d:DataW H} {ps:List MemPlace} (n:Nat) (hp:Xe5 P (n+1) t=true)
  (hval:Value.okWide P W r b0 t v) (h:DataW.Trod enc P W base sp held t v d ps) (hw:∀ k∈d.weights P t,k<=reachBytes) :
  ∃ ds,Xcg P (n+1) t ds/\Xax (Xbd W) an (Wn9 P t ds) v:=by
 obtain⟨ds,h1,h2⟩:=Yur (n+1) hp h hw
 refine⟨ds,h2,?_⟩
 unfold Value.okWide at hval
 unfold Wn9
 unfold Xcg at h2
 unfold Xe5 at hp
 cases ht:P.underlying t with
 | none=>rw[ht] at hp;cases hp
 | some k =>
  rw[ht] at hp h2 hval
  have one:∀ d:D,ds=[d]->Cell.okWide P W r b0 t v->(∀ cs,¬ Cell.okWide P W r b0 t (.agg cs))->Xam (Xbd W) an (.one (.d d)) v:=by
   intro d e hc hn
   subst e
   cases v <;> first|exact h1.1|exact absurd hc (hn _)
  have na:∀ cs,(match some k with|some (.struct _)=>False|some (.array ..)=>False|_=>True)->¬ Cell.okWide P W r b0 t (.agg cs):=by
   intro cs hk hc
   unfold Cell.okWide Cell.ok at hc
   rw[ht] at hc
   cases k <;> simp at hc
  cases k <;> simp only at hp <;> first|(cases hp;done)|skip
  case bool=>obtain⟨b,rfl⟩:=h2;exact one _ rfl hval fun cs=>na cs trivial
  case int=>obtain⟨b,rfl⟩:=h2;exact one _ rfl hval fun cs=>na cs trivial
  case string=>obtain⟨b,rfl⟩:=h2;exact one _ rfl hval fun cs=>na cs trivial
  case slice=>obtain⟨b,rfl,_⟩:=h2;exact one _ rfl hval fun cs=>na cs trivial
  case struct =>
   obtain⟨cs,rfl,_⟩:=hval
   exact⟨cs.toList,by simp,Xrh h1⟩
theorem Xy7 {an:Anc} {r:Reach} {b0:Nat} {base:Nat} {sp:Nat->Bool} {held:Bool} (n:Nat) :
  ∀ {ts:List TypeId} {vs:List Value} {ds:List (DataW H)} {ps:List MemPlace},(ts.all fun t=>Xe5 P (n+1) t)=true ->
   (∀ (j:Nat) t v,ts[j]?=some t->vs[j]?=some v->Value.okWide P W r b0 t v)->DataW.TrodAll enc P W base sp held ts vs ds ps->(∀ k∈DataW.weightsEach P ts ds,k<=reachBytes) ->
   ∃ dss,Xal (Xcg P (n+1)) ts dss/\Xal (Xax (Xbd W) an) (Yf7 P ts dss) vs
 | [],[],[],_,_,_,_,_=>⟨[],trivial,trivial⟩
 | t::ts,v::vs,d::ds,ps,hp,hval,h,hw=>by
  obtain⟨p,q,h1,h2,rfl⟩:=h
  simp only[List.all_cons,Bool.and_eq_true] at hp
  simp only[DataW.weightsEach,List.mem_append] at hw
  obtain⟨d1,a1,b1⟩:=Woa (an:=an) n hp.1 (hval 0 t v rfl rfl) h1 fun k hk=>hw k (.inl hk)
  obtain⟨d2,a2,b2⟩:=Xy7 (an:=an) n hp.2 (fun j t' v' e1 e2=>hval (j+1) t' v' e1 e2) h2 fun k hk=>hw k (.inr hk)
  exact⟨d1::d2,⟨a1,a2⟩,b1,b2⟩
 | [],_::_,_,_,_,_,h,_=>h.elim
 | [],[],_::_,_,_,_,h,_=>h.elim
 | _::_,[],_,_,_,_,h,_=>h.elim
 | _::_,_::_,[],_,_,_,h,_=>h.elim
theorem Xo6 {w w':World} {may:Nat->Prop} (h:WKeep w w' may) (hm:∀ b,¬ may b):Below w.heap.size w w' :=
 ⟨h.os,h.tape,h.output,h.size,fun k hk=>h.block k hk (hm k)⟩
theorem Xia (hl:laidOutB P=true) {W W':World} (hb:Below W.heap.size W W') :
  ∀ {ts:List TypeId} {vs:List Value} {ds:List (DataW H)} {ps:List MemPlace},(ts.all fun t=>P.readableRec t && decide (t < P.types.size))=true ->
   DataW.TrodAll enc P W 0 (fun _=>true) true ts vs ds ps->(∀ x∈ps,x.block < W.heap.size)->DataW.TrodAll enc P W' 0 (fun b=>decide (b < W.heap.size)) true ts vs ds ps
 | [],[],[],_,_,h,_=>h
 | t::ts,v::vs,d::ds,ps,hp,h,hlt=>by
  obtain⟨p,q,h1,h2,rfl⟩:=h
  simp only[List.all_cons,Bool.and_eq_true,decide_eq_true_eq] at hp
  exact⟨p,q,Below.trod hl hp.1.1 hp.1.2 h1 hb (fun x hx=>hlt x (by simp[hx])),Xia hl hb hp.2 h2 (fun x hx=>hlt x (by simp[hx])),rfl⟩
 | [],_::_,_,_,_,h,_=>h.elim
 | [],[],_::_,_,_,h,_=>h.elim
 | _::_,[],_,_,_,h,_=>h.elim
 | _::_,_::_,[],_,_,h,_=>h.elim
def Yus:Anc:=fun _=>none
theorem X2k {f:FuncId} {fn:Func} {s:ChangeSpec} {apart:Bool} {args:Array Value} {ds gs:List (DataW H)} {before:List MemPlace} {tb:TypeId}
  (hl:laidOutB P=true) (hv:s.vars=[]) (hr:fn.resultTypes=#[tb]) (htb:P.underlying tb=some .bool)
  (hp:(fn.params.toList.all fun t=>P.readableRec t && decide (t < P.types.size))=true)
  (hs:s.fn H (ds++gs)={ results:=[.lit (.bool true)],args:=ds })
  (hW:DataW.Whole enc P fn.params.toList s.vars apart W args.toList ds gs before)
  (V:List V) (hV:Xal (Xax (Xbd W) Yus) V args.toList)
  (h:Does P (Xbd W) f V (.one (.d (.bool true)))) :
  Calls P f args W fun e W'=>∃ v,e=.returned v/\s.post enc P fn apart true false false W args v W':=by
 have hlt:=hW.lt
 have h2:=h.2 (Xbd W) W Yus (fun _ _=>False) args.toList (Heap.Le.refl _) (fun _ _ h=>h) (fun i=>⟨fun ⟨p,hp⟩=>absurd hp (by simp[Yus]),fun hi=>absurd hi (by simp)⟩)
  (fun i c hc=>absurd hc (by simp)) (fun _ _ h=>h.elim) (fun _ _ _ h=>h.elim) hV
 rw[Array.toArray_toList] at h2
 refine h2.mono fun e W' ⟨v,res,post,H',an',F',he,⟨hR,hpost⟩,hk,_,_,_,_,_,_,_,_,hden⟩=>?_
 subst he;subst hR;subst hpost
 have hb:Below W.heap.size W W':=Xo6 hk fun b ⟨_,h⟩=>h
 have hv':v=.bool true:=by cases hden;rfl
 subst hv'
 refine⟨_,rfl,ds,gs,before,[],before,[],hW,?_,?_,?_,hb.frame _,fun h=>by cases h⟩
 ·rw[hs,hr]
  exact trodAll_mk1 (shut_bool htb true)
 ·rw[hs]
  obtain⟨p,q,hA,hV0,rfl,_⟩:=hW
  rw[hv] at hV0
  have:q=[]:=by
   cases gs with
   | nil=>exact hV0
   | cons g r=>exact hV0.elim
  subst this
  rw[List.append_nil]
  exact Xia hl hb hp hA fun x hx=>hlt x (by simp[hx])
 ·rw[hs,hv]
  rfl
def fieldsOf (P:Program) (t:TypeId):Option (List TypeId):=match P.underlying t with
 | some (.struct fs)=>some (fs.toList.map (·.type))
 | _=>none
def Jgw (R:TypeId->List D->Prop):List TypeId->List D->Prop
 | [],ds=>ds=[]
 | t::l,ds=>∃ a b,ds=a++b/\R t a/\Jgw R l b
theorem Yf8 {R:TypeId->List D->Prop}:∀ {fs:List Field} {ds:List D},Cat (fun f d=>R f.type d) fs ds->Jgw R (fs.map (·.type)) ds
 | [],_,h=>h
 | _::_,_,⟨a,b,e,h1,h2⟩=>⟨a,b,e,h1,Yf8 h2⟩
theorem Xgd {n:Nat} {t:TypeId} {ts:List TypeId} {ds:List D} (hf:fieldsOf P t=some ts) (h:Xcg P (n+1) t ds):Jgw (Xcg P n) ts ds:=by
 unfold fieldsOf at hf
 unfold Xcg at h
 split at hf
 ·rename_i fs e
  rw[e] at h
  cases hf
  exact Yf8 h
 ·cases hf
theorem Xge {n:Nat} {t:TypeId} {k:IntKind} {ds:List D} (hf:P.underlying t=some (.int k)) (h:Xcg P (n+1) t ds):∃ m,ds=[.int k m]:=by
 unfold Xcg at h;rw[hf] at h;exact h
theorem X2l {n:Nat} {t:TypeId} {ds:List D} (hf:P.underlying t=some .bool) (h:Xcg P (n+1) t ds):∃ m,ds=[.bool m]:=by
 unfold Xcg at h;rw[hf] at h;exact h
theorem Yf9 {n:Nat} {t:TypeId} {ds:List D} (hf:P.underlying t=some .string) (h:Xcg P (n+1) t ds):∃ m,ds=[.str m]:=by
 unfold Xcg at h;rw[hf] at h;exact h
theorem Xhi {n:Nat} {t e:TypeId} {ds:List D} (hf:P.underlying t=some (.slice e)) (h:Xcg P (n+1) t ds):∃ xs,ds=[.sl xs]/\∀ x∈xs,Xcg P n e x:=by
 unfold Xcg at h;rw[hf] at h;exact h
theorem Xo7 {α:Type} {f:α->List D} {R:List D->Prop} (h:∀ x,R x->∃ a,x=f a):∀ {xs:List (List D)},(∀ x∈xs,R x)->∃ l:List α,xs=l.map f
 | [],_=>⟨[],rfl⟩
 | x::xs,k=>by
  obtain⟨a,rfl⟩:=h x (k x (by simp))
  obtain⟨l,rfl⟩:=Xo7 h (xs:=xs) fun y hy=>k y (by simp[hy])
  exact⟨a::l,rfl⟩
end Go.Fw
namespace Go.Fw
open Go Go.RowKit
theorem Xlx {H:Type} {enc:TypeId × Value->H} {P:Program} {w:World} {base:Nat} {sp:Nat->Bool} {held:Bool}:∀ {ts:List TypeId} {vs:List Value} {ds:List (DataW H)} {ps:List MemPlace},
  DataW.TrodAll enc P w base sp held ts vs ds ps->ds.length=ts.length
 | [],[],[],_,_=>rfl
 | _::_,_::_,_::_,_,⟨_,_,_,h,_⟩=>by simp[Xlx h]
 | [],_::_,_,_,h=>h.elim
 | [],[],_::_,_,h=>h.elim
 | _::_,[],_,_,h=>h.elim
 | _::_,_::_,[],_,h=>h.elim
theorem Yut {H:Type} {enc:TypeId × Value->H} {C:Checked} {os:Os} {f:FuncId} {fn:Func} {s:ChangeSpec} {apart:Bool} {X:World->Prop} {tb:TypeId} (n:Nat)
  (hX:∀ (w w':World),w.heap=w'.heap->X w->X w')
  (own:ownKnob C.prog.godebug=none) (started:os.Started) (noInit:C.prog.inits.idxOf? f=none) (hfn:C.prog.funcs[f]?=some fn)
  (witness:∃ (w:World) (tape:Tape) (i:Input),w.os=os/\(w.forCall tape i).Shaped C.prog/\i.vars=[]/\Input.okWide C.prog (w.forCall tape i) .any w.heap.size f i /\
   ((s.pre enc C.prog fn [] apart (w.forCall tape i).memory i.args/\X (w.forCall tape i).memory)/\sizedMet enc C.prog fn (OpenSpec.ofChange s) apart (w.forCall tape i).memory i.args)/\({}:Assume).holds C.prog (lone (Frame.enter C.prog f i.args .normal) [] (w.forCall tape i)))
  (hl:laidOutB C.prog=true) (hv:s.vars=[]) (hr:fn.resultTypes=#[tb]) (htb:C.prog.underlying tb=some .bool)
  (hpl:(fn.params.toList.all fun t=>Xe5 C.prog (n+1) t)=true)
  (hp:(fn.params.toList.all fun t=>C.prog.readableRec t && decide (t < C.prog.types.size))=true)
  (hs:∀ ds:List (DataW H),ds.length=fn.params.toList.length->s.fn H ds={ results:=[.lit (.bool true)],args:=ds })
  (law:∀ (W:World) (dss:List (List D)),X W->Xal (Xcg C.prog (n+1)) fn.params.toList dss->Does C.prog (Xbd W) f (Yf7 C.prog fn.params.toList dss) (.one (.d (.bool true)))) :
  ReturnsInHanded {} C os f .any (fun w args=>(s.pre enc C.prog fn [] apart w args/\X w)/\sizedMet enc C.prog fn (OpenSpec.ofChange s) apart w args) (s.post enc C.prog fn apart true false false):=by
 refine returnsInHanded_of_change_and (C:=C) (X:=fun w _=>X w) (fun w w' _ hh h=>hX w w' hh h) own started noInit hfn witness ?_
 intro W base args ds gs before hval hW _ hsz hL _
 obtain⟨p,q,hA,hV,hpq,_⟩:=id hW
 have hg:gs=[]:=by
  rw[hv] at hV
  cases gs with
  | nil=>rfl
  | cons g r=>exact hV.elim
 subst hg
 have hvt:s.plain.varTypes C.prog=[]:=by
  simp[DataSpec.varTypes,ChangeSpec.plain,hv]
 rw[hvt,List.append_nil,List.append_nil] at hsz
 obtain⟨dss,hsh,hden⟩:=Xy7 (an:=Yus) n hpl (fun j t v h1 h2=>hval j t v (by simpa using h1) (by simpa using h2)) hA (fun k hk=>by simpa using List.all_eq_true.1 hsz k hk)
 exact X2k hl hv hr htb hp (by rw[List.append_nil];exact hs ds (Xlx hA)) hW _ hden (law W dss hL hsh)
theorem Yuu {α β:Type} {R:α->β->Prop} {a b:α} {l:List β} (h:Xal R [a,b] l):∃ x y,l=[x,y]/\R a x/\R b y:=by
 match l,h with
 | [x,y],h=>exact⟨x,y,rfl,h.1,h.2.1⟩
end Go.Fw
namespace Go.Fw
open Go Go.RowKit Go.ChangeShapes
def Ji0 (P:Program) (ts:List TypeId):Bool:=ts.all fun t=>match P.underlying t with
 | some .bool=>true
 | some (.int _)=>true
 | some .string=>true
 | some (.slice e)=>decide (0 < P.cellsOf e) && decide (0 < P.bytesOf e) && ts.contains e
 | some (.struct fs)=>Xnk P fs.toList 0 (P.cellsOf t) && fs.toList.all fun f=>ts.contains f.type
 | _=>false
variable {P:Program} {H:Type} {enc:TypeId × Value->H} {w:World} {base:Nat} {sp:Nat->Bool} {held:Bool}
section
variable {W:World}
end
end Go.Fw
