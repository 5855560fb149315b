/- The framework,part 15: calls; an operation's step in the model. -/
import Derived.Test.YtejnfjophhnaeaaGreatDoorFb
set_option linter.all false
namespace Go.Fw
open Go
section
variable {S:Sx} {Y:Dyn} {s:St} {a:Act} {w w':World} {H:Xal} {an:Anc} {F:Nat->Nat->Prop} {ms:List Nat} {o:Oper} {v:V}
theorem Xig {bn:Anc} {x:A} {u:Value} (h:Xbj H an x u) (hr:∀ i∈x.refs0,bn i=an i):Xbj H bn x u:=by
 cases x with
 | own i ver=>obtain⟨h1,p,hp,h2⟩:=h;exact⟨h1,p,by rw[hr i (by simp[A.refs0]),hp],h2⟩
 | ptr i off=>obtain⟨b,h1,p,hp,h2⟩:=h;exact⟨b,h1,p,by rw[hr i (by simp[A.refs0]),hp],h2⟩
 | rp i ver sz e off=>obtain⟨b,q,h1,p,hp,h2⟩:=h;exact⟨b,q,h1,p,by rw[hr i (by simp[A.refs0]),hp],h2⟩
 | _=>exact h
theorem Xih {bn:Anc}:∀ {xs:List A} {us:List Value},Xap (Xbj H an) xs us->(∀ i∈xs.flatMap A.refs0,bn i=an i)->Xap (Xbj H bn) xs us
 | [],[],_,_=>trivial
 | x::xs,u::us,h,hr=>⟨Xig h.1 fun i hi=>hr i (by simp[hi]),Xih h.2 fun i hi=>hr i (by simp only[List.flatMap_cons,List.mem_append];exact .inr hi)⟩
theorem Xoz {bn:Anc} {x:A} {u:Value} (h:Xcx H an x u) (hr:∀ i∈x.refs,bn i=an i):Xcx H bn x u:=by
 cases x with
 | clo f caps=>obtain⟨vs,e,hv⟩:=h;exact⟨vs,e,Xih hv hr⟩
 | mvo f ag rcv =>
  cases ag with
  | false=>obtain⟨v,e,hv⟩:=h;exact⟨v,e,Xih hv hr⟩
  | true=>obtain⟨vs,e,hv⟩:=h;exact⟨vs,e,Xih hv hr⟩
 | ifo t a=>obtain⟨v,e,hv⟩:=h;exact⟨v,e,Xig hv hr⟩
 | d x=>exact h
 | nil=>exact h
 | un=>trivial
 | own i ver=>exact Xig (H:=H) (x:=.own i ver) h hr
 | ptr i off=>exact Xig (H:=H) (x:=.ptr i off) h hr
 | rp i ver sz e off=>exact Xig (H:=H) (x:=.rp i ver sz e off) h hr
theorem Xo0 {bn:Anc}:∀ {xs:List A} {us:List Value},Xa1 H an xs us->(∀ i∈xs.flatMap A.refs,bn i=an i)->Xa1 H bn xs us
 | [],[],_,_=>trivial
 | x::xs,u::us,h,hr=>⟨Xoz h.1 fun i hi=>hr i (by simp[hi]),Xo0 h.2 fun i hi=>hr i (by simp only[List.flatMap_cons,List.mem_append];exact .inr hi)⟩
theorem Xgu {bn:Anc} {x:V} {u:Value} (h:Xaq H an x u) (hr:∀ i∈x.refs,bn i=an i):Xaq H bn x u:=by
 cases x with
 | one a=>exact Xoz (H:=H) (x:=a) h hr
 | agg l=>obtain⟨vs,e,hv⟩:=h;exact⟨vs,e,Xo0 hv hr⟩
 | tup l=>exact h
 | un=>trivial
theorem Xqw {bn:Anc}:∀ {xs:List V} {us:List Value},Xap (Xaq H an) xs us->(∀ i∈xs.flatMap V.refs,bn i=an i)->Xap (Xaq H bn) xs us
 | [],[],_,_=>trivial
 | x::xs,u::us,h,hr=>⟨Xgu h.1 fun i hi=>hr i (by simp[hi]),Xqw h.2 fun i hi=>hr i (by simp only[List.flatMap_cons,List.mem_append];exact .inr hi)⟩
theorem Xur {bn:Anc} {x:V} {u:Value} (h:Xa0 H an x u) (hr:∀ i∈x.refsT,bn i=an i):Xa0 H bn x u:=by
 cases x with
 | tup l=>obtain⟨vs,e,hv⟩:=h;exact⟨vs,e,Xqw hv hr⟩
 | one a=>exact Xgu (x:=.one a) h hr
 | agg l=>exact Xgu (x:=.agg l) h hr
 | un=>trivial
theorem Xcy.on {bn:Anc} {c:Ch} {p:Nat × Value} {f:Nat->Prop} (h:Xcy H an w c p f) (hr:∀ i∈c.refs,bn i=an i):Xcy H bn w c p f:=by
 cases c with
 | bld T y=>obtain⟨h0,b,p0,v,T',h1,h2,h3,h4,h5⟩:=h;exact⟨h0,b,p0,v,T',h1,h2,h3,h4,Xoz h5 hr⟩
 | cells cs=>obtain⟨h0,b,T,vs,h1,h2,h3,h4⟩:=h;exact⟨h0,b,T,vs,h1,h2,h3,Xo0 h4 hr⟩
 | map es =>
  obtain⟨h0,b,ents,clk,h1,h2,h3,h4⟩:=h
  refine⟨h0,b,ents,clk,h1,h2,h3,?_⟩
  have:∀ (l:List (V × V)) (m:List MapEntry),(∀ i∈l.flatMap fun e=>e.1.refs++e.2.refs,bn i=an i)->Xap (fun e en=>Xaq H an e.1 en.key/\Xaq H an e.2 en.val) l m->Xap (fun e en=>Xaq H bn e.1 en.key/\Xaq H bn e.2 en.val) l m:=by
   intro l
   induction l with
   | nil=>intro m _ h;cases m <;> exact h
   | cons e l ih =>
    intro m hr h
    cases m with
    | nil=>exact h.elim
    | cons en m =>
     simp only[List.flatMap_cons,List.mem_append] at hr
     exact⟨⟨Xgu h.1.1 fun i hi=>hr i (.inl (.inl hi)),Xgu h.1.2 fun i hi=>hr i (.inl (.inr hi))⟩,ih m (fun i hi=>hr i (.inr hi)) h.2⟩
  exact this es _ hr h4
 | rowA sz ver xs =>
  obtain⟨h0,h1,h2,h3,b,o,cap,vs,T,e1,e2,e3,e4,e5,e6⟩:=h
  exact⟨h0,h1,h2,h3,b,o,cap,vs,T,e1,e2,e3,e4,e5,fun i x j y hx hy=>let ⟨v,hv,hd⟩:=e6 i x j y hx hy
   ⟨v,hv,Xoz hd fun k hk=>hr k (List.mem_flatMap.2 ⟨x,List.mem_of_getElem? hx,List.mem_flatMap.2 ⟨y,List.mem_of_getElem? hy,hk⟩⟩)⟩⟩
 | lp l fr rc st pd =>
  obtain⟨h1,h2,h3⟩:=h
  refine⟨h1,h2,?_⟩
  have:∀ (l:List V) (m:List Value),(∀ i∈l.flatMap V.refsT,bn i=an i)->Xap (Xa0 H an) l m->Xap (Xa0 H bn) l m:=by
   intro l
   induction l with
   | nil=>intro m _ h;cases m <;> exact h
   | cons x l ih =>
    intro m hr h
    cases m with
    | nil=>exact h.elim
    | cons y m=>exact⟨Xur h.1 fun i hi=>hr i (by simp[hi]),ih m (fun i hi=>hr i (by simp only[List.flatMap_cons,List.mem_append];exact .inr hi)) h.2⟩
  exact this _ _ hr h3
 | _=>exact h
def Ch.lends:Ch->Bool
 | .row ..=>true
 | .cells _=>true
 | _=>false
open Classical in
noncomputable def Xus (own:List Ch) (F:Nat->Nat->Prop) (w:World) (H:Xal):Xal:=fun b =>
 if ∃ i,F i b/\(Xao own i).lends=true then w.heap[b]? else H b
theorem Xo1 (h:SatX S Y s a w H an F ms):Xal.Le H (Xus s.own F w H):=fun b o hb=>by
 unfold Xus
 split
 ·rename_i hx;obtain⟨i,hi,_⟩:=hx;rw[(h.fp i b hi).2.1] at hb;cases hb
 ·exact hb
theorem Xly (h:SatX S Y s a w H an F ms):Xdm w (Xus s.own F w H):=fun b o hb=>by
 unfold Xus at hb
 split at hb
 ·exact hb
 ·exact h.mod b o hb
theorem Xs0 {i b:Nat} (hF:F i b) (hl:(Xao s.own i).lends=true):Xus s.own F w H b=w.heap[b]?:=by
 unfold Xus
 rw[if_pos ⟨i,hF,hl⟩]
theorem X0e (h:SatX S Y s a w H an F ms) {x:A} {y:D} {u:Value} (hx:Xcx H an x u) (hl:Xll s.own x=some y):Den (Xus s.own F w H) y u:=by
 have hle:=Xo1 h
 cases x with
 | d z=>cases hl;exact Den.mono hle hx
 | nil=>cases hl;obtain⟨a,rfl⟩:=hx;exact Den.slE _ _
 | own j ver =>
  simp only[Xll] at hl
  split at hl
  ·rename_i sz ver' xs hc
   split at hl
   ·rename_i hv
    cases hl
    subst hv
    obtain⟨p,hp,hps,h0,hsz,hlen,h4⟩:=h.row hc
    have hu:u=p:=Xdp hp (show Xa0 H an (.one (.own j ver')) u from hx)
    rcases h4 with ⟨rfl,⟨A,rfl⟩,_⟩|⟨b,of,cap,vs,T,rfl,e2,e3,e4,e5,e6⟩
    ·rw[hu];exact Den.slE _ _
    ·rw[hu]
     exact Xej.row (cells:=vs) (T:=T) (fz:=(0,0)) h0 (by rw[Xs0 ((e2 b).2 rfl) (by rw[hc];rfl)];exact e3) hsz e4 hlen (Xej.mono hle e6)
   ·cases hl
  ·cases hl
 | ptr j off=>cases hl
 | rp i ver sz e off=>cases hl
 | clo f caps=>cases hl
 | mvo f ag rcv=>cases hl
 | ifo t a=>cases hl
 | un=>cases hl
theorem Xn3 (h:SatX S Y s a w H an F ms):∀ {xs:List A} {ys:List D} {us:List Value},Xa1 H an xs us->Xia s.own xs=some ys->Xej (Xus s.own F w H) ys us
 | [],ys,[],_,hl=>by simp[Xia] at hl;subst hl;trivial
 | x::xs,ys,u::us,hx,hl=>by
  simp only[Xia] at hl
  split at hl
  ·rename_i y r h1 h2
   cases hl
   exact⟨X0e h hx.1 h1,Xn3 h hx.2 h2⟩
  ·cases hl
theorem Xqx (h:SatX S Y s a w H an F ms) {x:A} {y:D} {u:Value} (hx:Xcx H an x u) (hl:Xlm s.own x=some y):Den (Xus s.own F w H) y u:=by
 have hle:=Xo1 h
 cases x with
 | d z=>cases hl;exact Den.mono hle hx
 | nil=>cases hl;obtain⟨a,rfl⟩:=hx;exact Den.slE _ _
 | own j ver =>
  simp only[Xlm] at hl
  split at hl
  ·rename_i sz ver' xs hc
   split at hl
   ·rename_i hv
    cases hl
    subst hv
    obtain⟨p,hp,hps,h0,hsz,hlen,h4⟩:=h.row hc
    have hu:u=p:=Xdp hp (show Xa0 H an (.one (.own j ver')) u from hx)
    rcases h4 with ⟨rfl,⟨A,rfl⟩,_⟩|⟨b,of,cap,vs,T,rfl,e2,e3,e4,e5,e6⟩
    ·rw[hu];exact Den.slE _ _
    ·rw[hu]
     exact Xej.row (cells:=vs) (T:=T) (fz:=(0,0)) h0 (by rw[Xs0 ((e2 b).2 rfl) (by rw[hc];rfl)];exact e3) hsz e4 hlen (Xej.mono hle e6)
   ·cases hl
  ·cases hl
 | ptr j off =>
  simp only[Xlm] at hl
  split at hl
  ·rename_i cs hc
   split at hl
   ·rename_i ds hds
    cases hl
    obtain⟨b,T,vs,hb,hF,hw,hd⟩:=h.box hc
    have hu:=h.ptr hb (show Xa0 H an (.one (.ptr j off)) u from hx)
    have hdd:=Xn3 h hd hds
    rw[hu]
    refine Den.bx _ b off vs.toArray T (0,0) (fun k=>vs.getD (off+k) undef) (by rw[Xs0 ((hF b).2 rfl) (by rw[hc];rfl)];exact hw) (fun k y hy=>?_) (fun k y hy=>?_)
    ·rw[List.getElem?_drop] at hy
     obtain⟨q,hq,_⟩:=hdd.get hy
     simp[List.getD,hq]
    ·rw[List.getElem?_drop] at hy
     obtain⟨q,hq,hqd⟩:=hdd.get hy
     simp only[List.getD,hq,Option.getD_some]
     exact hqd
   ·cases hl
  ·cases hl
 | rp i ver sz e off=>cases hl
 | clo f caps=>cases hl
 | mvo f ag rcv=>cases hl
 | ifo t a=>cases hl
 | un=>cases hl
theorem Xn4 (h:SatX S Y s a w H an F ms) (bn:Anc):∀ {xs:List A} {ys:List D} {us:List Value},Xa1 H an xs us->Xgi s.own xs=some ys->Xa1 (Xus s.own F w H) bn (ys.map .d) us
 | [],ys,[],_,hl=>by simp[Xgi] at hl;subst hl;trivial
 | x::xs,ys,u::us,hx,hl=>by
  simp only[Xgi] at hl
  split at hl
  ·rename_i y r h1 h2
   cases hl
   exact⟨Xqx h hx.1 h1,Xn4 h bn hx.2 h2⟩
  ·cases hl
theorem X2l (h:SatX S Y s a w H an F ms) (bn:Anc) {x y:V} {u:Value} (hx:Xa0 H an x u) (hl:Xln s.own x=some y):Xa0 (Xus s.own F w H) bn y u:=by
 cases x with
 | one a =>
  simp only[Xln] at hl
  split at hl
  ·rename_i z hz;cases hl;exact Xqx h hx hz
  ·cases hl
 | agg l =>
  simp only[Xln] at hl
  split at hl
  ·rename_i z hz;cases hl;obtain⟨vs,rfl,hv⟩:=hx;exact⟨vs,rfl,Xn4 h bn hv hz⟩
  ·cases hl
 | tup l=>cases hl
 | un=>cases hl
theorem Xlz (h:SatX S Y s a w H an F ms) (bn:Anc):∀ {xs ys:List V} {us:List Value},Xap (Xa0 H an) xs us->Xhz s.own xs=some ys->Xap (Xa0 (Xus s.own F w H) bn) ys us
 | [],ys,[],_,hl=>by simp[Xhz] at hl;subst hl;trivial
 | x::xs,ys,u::us,hx,hl=>by
  simp only[Xhz] at hl
  split at hl
  ·rename_i y r h1 h2
   cases hl
   exact⟨X2l h bn hx.1 h1,Xlz h bn hx.2 h2⟩
  ·cases hl
theorem Xn5 (bn:Anc) {own:List Ch} {x:A} {y:D} {u:Value} (hx:Xcx H an x u) (hd:x.data=true) (hl:Xlm own x=some y):Den H y u:=by
 cases x <;> first|(cases hd;done)|skip
 ·cases hl;exact hx
 ·cases hl;obtain⟨a,rfl⟩:=hx;exact Den.slE _ _
theorem Xl0 (bn:Anc) {own:List Ch}:∀ {xs:List A} {ys:List D} {us:List Value},Xa1 H an xs us->xs.all A.data=true->Xgi own xs=some ys->Xa1 H bn (ys.map .d) us
 | [],ys,[],_,_,hl=>by simp[Xgi] at hl;subst hl;trivial
 | x::xs,ys,u::us,hx,hd,hl=>by
  simp only[List.all_cons,Bool.and_eq_true] at hd
  simp only[Xgi] at hl
  split at hl
  ·rename_i y r h1 h2
   cases hl
   exact⟨Xn5 bn hx.1 hd.1 h1,Xl0 bn hx.2 hd.2 h2⟩
  ·cases hl
theorem Xn6 (bn:Anc) {own:List Ch}:∀ {xs ys:List V} {us:List Value},Xap (Xa0 H an) xs us->xs.all V.data=true->Xhz own xs=some ys->Xap (Xa0 H bn) ys us
 | [],ys,[],_,_,hl=>by simp[Xhz] at hl;subst hl;trivial
 | x::xs,ys,u::us,hx,hd,hl=>by
  simp only[List.all_cons,Bool.and_eq_true] at hd
  simp only[Xhz] at hl
  split at hl
  ·rename_i y r h1 h2
   cases hl
   refine⟨?_,Xn6 bn hx.2 hd.2 h2⟩
   have hx1:=hx.1
   cases x with
   | one a =>
    simp only[Xln] at h1
    split at h1
    ·rename_i z hz;cases h1;exact Xn5 bn hx1 hd.1 hz
    ·cases h1
   | agg l =>
    simp only[Xln] at h1
    split at h1
    ·rename_i z hz;cases h1;obtain⟨vs,rfl,hv⟩:=hx1;exact⟨vs,rfl,Xl0 bn hv hd.1 hz⟩
    ·cases h1
   | tup l=>cases h1
   | un=>cases h1
  ·cases hl
theorem D.scal_den {K:Xal} {x:D} {u:Value} (h:Den H x u) (hs:x.scal=true):Den K x u:=by
 cases h <;> first|(cases hs;done)|constructor <;> assumption|constructor
theorem A.scal_den {K:Xal} {bn:Anc} {x:A} {u:Value} (h:Xcx H an x u) (hs:x.scal=true):Xcx K bn x u:=by
 cases x <;> first|(cases hs;done)|skip
 ·exact D.scal_den (x:=_) h hs
 ·trivial
theorem As.scal_den {K:Xal} {bn:Anc}:∀ {xs:List A} {us:List Value},Xa1 H an xs us->xs.all A.scal=true->Xa1 K bn xs us
 | [],[],_,_=>trivial
 | _::_,_::_,h,hs=>by
  simp only[List.all_cons,Bool.and_eq_true] at hs
  exact⟨A.scal_den h.1 hs.1,As.scal_den h.2 hs.2⟩
theorem V.scal1_den {K:Xal} {bn:Anc} {x:V} {u:Value} (h:Xaq H an x u) (hs:x.scal1=true):Xaq K bn x u:=by
 cases x with
 | one a=>exact A.scal_den (x:=a) h hs
 | agg l=>obtain⟨vs,e,hv⟩:=h;exact⟨vs,e,As.scal_den hv hs⟩
 | tup l=>cases hs
 | un=>trivial
theorem Vs.scal_den {K:Xal} {bn:Anc}:∀ {xs:List V} {us:List Value},Xap (Xaq H an) xs us->xs.all V.scal1=true->Xap (Xaq K bn) xs us
 | [],[],_,_=>trivial
 | _::_,_::_,h,hs=>by
  simp only[List.all_cons,Bool.and_eq_true] at hs
  exact⟨V.scal1_den h.1 hs.1,Vs.scal_den h.2 hs.2⟩
theorem V.scal_den {K:Xal} {bn:Anc} {x:V} {u:Value} (h:Xa0 H an x u) (hs:x.scal=true):Xa0 K bn x u:=by
 cases x with
 | tup l=>obtain⟨vs,e,hv⟩:=h;exact⟨vs,e,Vs.scal_den hv hs⟩
 | one a=>exact V.scal1_den (x:=.one a) h hs
 | agg l=>exact V.scal1_den (x:=.agg l) h hs
 | un=>trivial
theorem X0f {f:FuncId} {args:List V} {vs:List Value} (h:SatX S Y s a w H an F ms) (hc:Xst S f args s.own v) (ha:Xap (Xa0 H an) args vs) :
  Xaa S.P f=true/\Calls S.P f vs.toArray w fun e w'=>∃ u H',e=.returned u/\SatX S Y s a w' H' an F ms/\Xa0 H' an v u:=by
 obtain⟨l,hl,⟨hcal,htri⟩,hk⟩:=hc
 refine⟨hcal,?_⟩
 have none_le:∀ bn cn:Anc,(∀ i,(∃ p,bn i=some p)↔i < ([]:List Ch).length)->Anc.Le bn cn:=fun bn cn hb=>⟨fun i p hp=>by
  have:=(hb i).1 ⟨p,hp⟩;simp at this⟩
 rcases hk with hk|hk
 ·have hd:=Xn6 (fun _=>none) ha hk hl
  have:=htri H w (fun _=>none) (fun _ _=>False) vs h.gp h.mod (by simp) (by simp) (by simp) (by simp) hd
  intro cs
  obtain⟨e,w',fr,⟨u,res,post,H',an',F',rfl,⟨rfl,rfl⟩,hw,hH,hmod,hnew,_,han,_,_,_,hden⟩,h2,h3,h4⟩:=this cs
  refine⟨_,w',fr,⟨u,H',rfl,?_,?_⟩,h2,h3,h4⟩
  ·exact h.grow (hw.mono fun _ hx=>by obtain⟨_,hx⟩:=hx;exact hx) hH hmod (fun b o hb=>by
    rcases hnew b o hb with h5|h5|⟨_,h5⟩
    ·exact .inl h5
    ·exact .inr h5
    ·exact h5.elim)
  ·exact Xa0.mono (Xal.Le.refl _) (none_le _ _ han) hden
 ·have hd:=Xlz h (fun _=>none) ha hl
  have:=htri (Xus s.own F w H) w (fun _=>none) (fun _ _=>False) vs (h.gp.trans (Xo1 h)) (Xly h) (by simp) (by simp) (by simp) (by simp) hd
  intro cs
  obtain⟨e,w',fr,⟨u,res,post,H',an',F',rfl,⟨rfl,rfl⟩,hw,hH,hmod,hnew,_,han,_,_,_,hden⟩,h2,h3,h4⟩:=this cs
  have hw':WKeep w w' (fun _=>False):=hw.mono fun _ hx=>by obtain⟨_,hx⟩:=hx;exact hx
  refine⟨_,w',fr,⟨u,H,rfl,?_,V.scal_den hden hk⟩,h2,h3,h4⟩
  exact h.grow hw' (Xal.Le.refl _) (h.models hw' fun _ hx=>hx.elim) (fun b o hb=>.inl hb)
theorem Xha {H:Xal} {an:Anc} {n:Nat} (ha:∀ i,(∃ p,an i=some p)↔i < n) {x:A} {u:Value} (h:Xbj H an x u):∀ i∈x.refs0,i < n:=by
 cases x <;> simp only[A.refs0,List.mem_singleton,List.not_mem_nil,false_implies,implies_true]
 ·rintro i rfl;obtain⟨_,p,hp,_⟩:=h;exact (ha _).1 ⟨p,hp⟩
 ·rintro i rfl;obtain⟨_,_,p,hp,_⟩:=h;exact (ha _).1 ⟨p,hp⟩
 ·rintro i rfl;obtain⟨_,_,_,p,hp,_⟩:=h;exact (ha _).1 ⟨p,hp⟩
theorem Xii {H:Xal} {an:Anc} {n:Nat} (ha:∀ i,(∃ p,an i=some p)↔i < n):∀ {xs:List A} {us:List Value},Xap (Xbj H an) xs us->∀ i∈xs.flatMap A.refs0,i < n
 | [],_,_,i,hi=>by simp at hi
 | x::xs,u::us,h,i,hi=>by
  simp only[List.flatMap_cons,List.mem_append] at hi
  rcases hi with hi|hi
  ·exact Xha ha h.1 i hi
  ·exact Xii ha h.2 i hi
theorem refs_lt {H:Xal} {an:Anc} {n:Nat} (ha:∀ i,(∃ p,an i=some p)↔i < n) {x:A} {u:Value} (h:Xcx H an x u):∀ i∈x.refs,i < n:=by
 cases x with
 | clo f caps=>obtain⟨vs,_,hv⟩:=h;exact Xii ha hv
 | mvo f ag rcv =>
  cases ag with
  | false=>obtain⟨v,_,hv⟩:=h;exact Xii ha hv
  | true=>obtain⟨vs,_,hv⟩:=h;exact Xii ha hv
 | ifo t a=>obtain⟨v,_,hv⟩:=h;exact Xha ha hv
 | d x=>exact Xha (H:=H) ha (x:=.d x) h
 | nil=>exact fun i hi=>by simp[A.refs,A.refs0] at hi
 | own i ver=>exact Xha (H:=H) ha (x:=.own i ver) h
 | ptr i off=>exact Xha (H:=H) ha (x:=.ptr i off) h
 | rp i ver sz e off=>exact Xha (H:=H) ha (x:=.rp i ver sz e off) h
 | un=>exact fun i hi=>by simp[A.refs,A.refs0] at hi
theorem Xij {H:Xal} {an:Anc} {n:Nat} (ha:∀ i,(∃ p,an i=some p)↔i < n) {x:V} {u:Value} (h:Xa0 H an x u):∀ i∈x.refs,i < n:=by
 cases x with
 | one a=>exact refs_lt (H:=H) ha (x:=a) h
 | agg l =>
  obtain⟨vs,_,hv⟩:=h
  intro i hi
  simp only[V.refs,List.mem_flatMap] at hi
  obtain⟨x,hx,hi⟩:=hi
  obtain⟨k,hk⟩:=List.mem_iff_getElem?.1 hx
  obtain⟨u,_,hd⟩:=hv.get hk
  exact refs_lt ha hd i hi
 | tup l=>intro i hi;simp[V.refs] at hi
 | un=>intro i hi;simp[V.refs] at hi
section
variable {bn:Anc} {j:Nat}
theorem Xut (hb:bn 0=an j) {x y:A} {u:Value} (hx:Xcx H an x u) (hr:Y19 j x=some y):Xcx H bn y u:=by
 cases x with
 | d z=>cases hr;exact hx
 | nil=>cases hr;obtain⟨a,rfl⟩:=hx;exact Den.slE _ _
 | own i ver =>
  simp only[Y19] at hr
  split at hr
  ·rename_i e;subst e;cases hr
   obtain⟨h1,p,hp,h2⟩:=hx
   exact⟨h1,p,by rw[hb,hp],h2⟩
  ·cases hr
 | ptr i off =>
  simp only[Y19] at hr
  split at hr
  ·rename_i e;subst e;cases hr
   obtain⟨b,h1,p,hp,h2⟩:=hx
   exact⟨b,h1,p,by rw[hb,hp],h2⟩
  ·cases hr
 | ifo t a =>
  cases a with
  | ptr i off =>
   simp only[Y19] at hr
   split at hr
   ·rename_i e;subst e;cases hr
    obtain⟨w,rfl,b,h1,p,hp,h2⟩:=hx
    exact⟨w,rfl,b,h1,p,by rw[hb,hp],h2⟩
   ·cases hr
  | _=>cases hr
 | _=>cases hr
theorem Xqy (hb:bn 0=an j):∀ {xs ys:List A} {us:List Value},Xa1 H an xs us->Xz7 j xs=some ys->Xa1 H bn ys us
 | [],ys,[],_,hr=>by simp[Xz7] at hr;subst hr;trivial
 | x::xs,ys,u::us,hx,hr=>by
  simp only[Xz7] at hr
  split at hr
  ·rename_i y r h1 h2;cases hr;exact⟨Xut hb hx.1 h1,Xqy hb hx.2 h2⟩
  ·cases hr
theorem Ykv (hb:bn 0=an j) {x y:V} {u:Value} (hx:Xa0 H an x u) (hr:Wnz j x=some y):Xa0 H bn y u:=by
 cases x with
 | one a =>
  simp only[Wnz] at hr
  split at hr
  ·rename_i z hz;cases hr;exact Xut hb (x:=a) hx hz
  ·cases hr
 | agg l =>
  simp only[Wnz] at hr
  split at hr
  ·rename_i z hz;cases hr;obtain⟨vs,rfl,hv⟩:=hx;exact⟨vs,rfl,Xqy hb hv hz⟩
  ·cases hr
 | tup l=>cases hr
 | un=>cases hr
theorem Xuu (hb:bn 0=an j):∀ {xs ys:List V} {us:List Value},Xap (Xa0 H an) xs us->Y2a j xs=some ys->Xap (Xa0 H bn) ys us
 | [],ys,[],_,hr=>by simp[Y2a] at hr;subst hr;trivial
 | x::xs,ys,u::us,hx,hr=>by
  simp only[Y2a] at hr
  split at hr
  ·rename_i y r h1 h2;cases hr;exact⟨Ykv hb hx.1 h1,Xuu hb hx.2 h2⟩
  ·cases hr
theorem Xqz (hb:bn j=an 0) {x:A} {u:Value} (hx:Xcx H an x u):Xcx H bn (Xz8 j x) u:=by
 unfold Xz8
 split
 ·obtain⟨h1,p,hp,h2⟩:=hx;exact⟨h1,p,by rw[hb,hp],h2⟩
 ·obtain⟨b,h1,p,hp,h2⟩:=hx;exact⟨b,h1,p,by rw[hb,hp],h2⟩
 ·exact hx
 ·exact hx
 ·trivial
theorem Xl1 (hb:bn j=an 0) {x:V} {u:Value} (hx:Xaq H an x u):Xaq H bn (X1z j x) u:=by
 cases x with
 | one a=>exact Xqz (x:=a) hb hx
 | agg l =>
  obtain⟨vs,rfl,hv⟩:=hx
  refine⟨vs,rfl,?_⟩
  have:=Xap.map (R:=Xcx H bn) (f:=Xz8 j) (g:=id) (fun a b hab=>Xqz hb hab) hv
  simpa using this
 | tup l=>exact hx.elim
 | un=>trivial
theorem X2m (hb:bn j=an 0) {x:V} {u:Value} (hx:Xa0 H an x u):Xa0 H bn (Xqi j x) u:=by
 cases x with
 | tup l =>
  obtain⟨vs,rfl,hv⟩:=hx
  refine⟨vs,rfl,?_⟩
  have:=Xap.map (R:=Xaq H bn) (f:=X1z j) (g:=id) (fun a b hab=>Xl1 hb hab) hv
  simpa using this
 | one a=>exact Xl1 (x:=.one a) hb hx
 | agg l=>exact Xl1 (x:=.agg l) hb hx
 | un=>trivial
end
theorem Xs1 {f:FuncId} {args:List V} {vs:List Value} {j:Nat} {v0:V} {c':Ch} (h:SatX S Y s a w H an F ms) (hc:Xsu S f args s.own j v0 c') (ha:Xap (Xa0 H an) args vs) :
  Xaa S.P f=true/\Calls S.P f vs.toArray w fun e w'=>∃ u H' an' F',e=.returned u/\SatX S Y ⟨s.fr,Xbx s.own j c'⟩ a w' H' an' F' ms/\Xa0 H' an' (Xqi j v0) u:=by
 obtain⟨l,hl,hj,_,hr1,hr2,hcal,htri⟩:=hc
 refine⟨hcal,?_⟩
 have hjl:j < s.own.length:=by
  rw[List.contains_iff_mem,List.mem_flatMap] at hj
  obtain⟨x,hx,hj⟩:=hj
  obtain⟨i,hi⟩:=List.mem_iff_getElem?.1 hx
  obtain⟨u,_,hd⟩:=ha.get hi
  exact Xij h.anc hd j hj
 have hget:∀ (l:List Ch) (i:Nat),i < l.length->l[i]?=some (Xao l i):=by
  intro l
  induction l with
  | nil=>intro i hi;simp at hi
  | cons c l ih =>
   intro i hi
   cases i with
   | zero=>rfl
   | succ i=>simpa [Xao] using ih i (by simpa using hi)
 obtain⟨p,hp,hsc⟩:=h.own j _ (hget s.own j hjl)
 let an1:Anc:=fun i=>if i=0 then an j else none
 let F1:Nat->Nat->Prop:=fun i b=>i=0/\F j b
 have hargs:Xap (Xa0 H an1) l vs:=Xuu (an:=an) (j:=j) (bn:=an1) (by simp[an1]) ha hl
 have hF1:F1 0=F j:=by funext b;simp[F1]
 have hcalls:=htri H w an1 F1 vs h.gp h.mod (fun i=>by
   simp only[an1,List.length_cons,List.length_nil]
   by_cases e:i=0
   ·subst e;simp[hp]
   ·simp[e]) (fun i c hc=>by
   cases i with
   | zero =>
    simp at hc
    subst hc
    refine⟨p,hp,?_⟩
    rw[hF1]
    exact hsc.on fun i hi=>by rw[hr1] at hi;cases hi
   | succ i=>simp at hc) (fun i b hb=>by
   obtain⟨g1,g2,_⟩:=h.fp j b hb.2
   exact⟨by rw[hb.1];simp,g1,g2⟩) (fun i i' b hb hb'=>by rw[hb.1,hb'.1]) hargs
 intro cs
 obtain⟨e,w',fr,⟨u,res,post,H',an',F',rfl,⟨rfl,rfl⟩,hw,hH,hmod,hnew,hle,han,hown,hF',hdj,hden⟩,h2,h3,h4⟩:=hcalls cs
 obtain⟨p',hp',hsc'⟩:=hown 0 c' rfl
 have hmay:∀ b,(∃ i,F1 i b)->∃ i,F i b:=fun b ⟨i,hi⟩=>⟨j,hi.2⟩
 have hp0:p'=p\/(p.1 < p'.1/\∃ a n c,p'.2=.slice a n c):=by
  obtain⟨q,hq,h5⟩:=hle.same 0 p hp
  rw[hp'] at hq;cases hq;exact h5
 have hle2:Anc.Le an (an.put j p'):=⟨fun i q hq=>by
  unfold Anc.put
  by_cases e:i=j
  ·subst e
   rw[hp] at hq;cases hq
   exact⟨p',by simp,hp0⟩
  ·exact⟨q,by simp[e,hq],.inl rfl⟩⟩
 refine⟨_,w',fr,⟨u,H',an.put j p',fun i b=>if i=j then F' 0 b else F i b,rfl,?_,X2m (by simp[Anc.put,hp']) hden⟩,h2,h3,h4⟩
 rw[Xam]
 refine h.evolve (may:=fun b=>∃ i,F1 i b) hw hmay hH hmod (fun b o hb=>by
   rcases hnew b o hb with h5|h5|⟨i,h5⟩
   ·exact .inl h5
   ·exact .inr (.inl h5)
   ·exact .inr (.inr ⟨j,h5.2⟩)) hle2 (fun i=>by
   rw[List.length_set]
   unfold Anc.put
   by_cases e:i=j
   ·subst e;simp[hjl]
   ·rw[if_neg e];exact h.anc i) (fun i c hc=>by
   rw[List.getElem?_set] at hc
   by_cases e:j=i
   ·subst e
    simp only[if_true,if_pos hjl] at hc
    cases hc
    refine⟨p',by simp[Anc.put],?_⟩
    simp only[if_true]
    exact hsc'.on fun i hi=>by rw[hr2] at hi;cases hi
   ·rw[if_neg e] at hc
    obtain⟨q,hq,hs⟩:=h.own i c hc
    refine⟨q,by simp[Anc.put,Ne.symm e,hq],?_⟩
    have:=hs.keep (w':=w') hH hle2 (fun x hx=>hw.block x (h.fp i x hx).1 (fun ⟨_,hm⟩=>e (h.dj j i x hm.2 hx)))
    simpa [Ne.symm e] using this) (fun i b hb=>by
   rw[List.length_set]
   by_cases e:i=j
   ·subst e
    simp only[if_true] at hb
    obtain⟨_,g1,g2,g3⟩:=hF' 0 b hb
    exact⟨hjl,g1,g2,g3.imp id fun ⟨_,q⟩=>⟨_,q.2⟩⟩
   ·simp only[if_neg e] at hb
    obtain⟨g1,g2,g3⟩:=h.fp i b hb
    refine⟨h.fl i b hb,Nat.lt_of_lt_of_le g1 hw.size,?_,.inr ⟨i,hb⟩⟩
    cases e':H' b with
    | none=>rfl
    | some o =>
     rcases hnew b o e' with h5|h5|⟨_,h5⟩
     ·rw[g2] at h5;cases h5
     ·omega
     ·exact absurd (h.dj i j b hb h5.2) e) (fun i i' b hb hb'=>by
   by_cases e:i=j <;> by_cases e':i'=j
   ·omega
   ·simp only[if_pos e] at hb;simp only[if_neg e'] at hb'
    exfalso
    rcases (hF' 0 b hb).2.2.2 with h5|⟨_,h5⟩
    ·have:=(h.fp i' b hb').1;omega
    ·exact e' (h.dj i' j b hb' h5.2)
   ·simp only[if_pos e'] at hb';simp only[if_neg e] at hb
    exfalso
    rcases (hF' 0 b hb').2.2.2 with h5|⟨_,h5⟩
    ·have:=(h.fp i b hb).1;omega
    ·exact e (h.dj i j b hb h5.2)
   ·simp only[if_neg e] at hb;simp only[if_neg e'] at hb'
    exact h.dj i i' b hb hb')
theorem SatX.add_dead (h:SatX S Y s a w H an F ms):SatX S Y { s with own:=s.own++[.dead] } a w H (an.put s.own.length (0,.nilFunc)) (fun j b=>if j=s.own.length then False else F j b) ms :=
 h.add_own (WKeep.refl w _) (fun _ hb=>hb.elim) (fun _ hb=>hb)
theorem Sat.add_dead (h:Sat S Y s a w):Sat S Y { s with own:=s.own++[.dead] } a w:=by
 obtain⟨H,an,F,ms,h⟩:=h
 exact⟨_,_,_,_,h.add_dead⟩
theorem X2n {H:Xal} {an:Anc} {x:A} {u:Value} (h:Xbj H an x u):Xcx H an x u:=by
 cases x <;> first|exact h|exact h.elim
theorem X0g {H:Xal} {an:Anc} {x:V} {u:Value} (h:Xaq H an x u):Xa0 H an x u:=by
 cases x <;> first|exact h|exact h.elim
theorem Xk1:∀ {js:List Nat} {i k:Nat},Xc5 js i=some k->js[k]?=some i
 | [],_,_,h=>by cases h
 | j::js,i,k,h=>by
  simp only[Xc5] at h
  split at h
  ·rename_i e;cases h;simp[e]
  ·split at h
   ·rename_i k' hk;cases h;simpa using Xk1 hk
   ·cases h
theorem Xfl:∀ {js:List Nat} {n k j:Nat},X10 n js=true->js[k]?=some j->j < n/\Xc5 js j=some k
 | [],_,_,_,_,h=>by simp at h
 | j0::js,n,0,j,hl,h=>by
  simp at h;subst h
  simp only[X10,Bool.and_eq_true,decide_eq_true_eq] at hl
  exact⟨hl.1,by simp[Xc5]⟩
 | j0::js,n,k+1,j,hl,h=>by
  simp only[X10,Bool.and_eq_true,decide_eq_true_eq] at hl
  obtain⟨h1,h2⟩:=Xfl hl.2.2 (by simpa using h)
  refine⟨h1,?_⟩
  simp only[Xc5,h2]
  rw[if_neg]
  intro e
  rw[e] at h2
  have:=hl.2.1
  rw[h2] at this;cases this
theorem Xs2:∀ {js:List Nat} {n k j:Nat},js[k]?=some j->sgN n js k=j
 | [],_,_,_,h=>by simp at h
 | j0::js,n,0,j,h=>by simp at h;simp[sgN,h]
 | j0::js,n,k+1,j,h=>by simpa [sgN] using Xs2 (js:=js) (n:=n) (k:=k) (by simpa using h)
theorem X2o:∀ {js:List Nat} {n k:Nat},js.length<=k->sgN n js k=n+(k - js.length)
 | [],_,_,_=>by simp[sgN]
 | j0::js,n,0,h=>by simp at h
 | j0::js,n,k+1,h=>by
  have:=X2o (js:=js) (n:=n) (k:=k) (by simpa using h)
  simp[sgN,this]
def wh (n:Nat) (js:List Nat) (i:Nat):Option Nat:=match Xc5 js i with
 | some k=>some k
 | none=>if i < n then none else some (js.length+(i - n))
theorem Xs3 {js:List Nat} {n i k:Nat} (hl:X10 n js=true) (h:Xc5 js i=some k):i < n/\k < js.length:=by
 have:=Xk1 h
 exact⟨(Xfl hl this).1,(List.getElem?_eq_some_iff.1 this).1⟩
theorem W38 {n:Nat} {js:List Nat} (hl:X10 n js=true) (k:Nat):wh n js (sgN n js k)=some k:=by
 rcases Nat.lt_or_ge k js.length with h|h
 ·have hg:js[k]?=some js[k]:=List.getElem?_eq_getElem h
  obtain⟨h1,h2⟩:=Xfl hl hg
  rw[Xs2 hg]
  simp only[wh,h2]
 ·rw[X2o h]
  have:Xc5 js (n+(k - js.length))=none:=by
   cases e:Xc5 js (n+(k - js.length)) with
   | none=>rfl
   | some m=>have:=(Xs3 hl e).1;omega
  simp only[wh,this]
  rw[if_neg (by omega)]
  congr 1;omega
theorem Wn2 {n:Nat} {js:List Nat} {i k:Nat} (h:wh n js i=some k):sgN n js k=i:=by
 unfold wh at h
 split at h
 ·rename_i m hm;cases h;exact Xs2 (Xk1 hm)
 ·split at h
  ·cases h
  ·rename_i hm;cases h;rw[X2o (by omega)];omega
theorem Xo2 {n:Nat} {js:List Nat} {i:Nat} (h:wh n js i=none):i < n/\Xc5 js i=none:=by
 unfold wh at h
 split at h
 ·cases h
 ·rename_i hm
  split at h
  ·rename_i hi;exact⟨hi,hm⟩
  ·cases h
theorem X2p {n:Nat} {js0:List Nat}:∀ {js:List Nat} {own post:List Ch},X10 own.length js=true->js.length<=post.length->∀ i:Nat,
  (bkO n js0 js own post)[i]?=match wh own.length js i with
   | some k=>(post[k]?).map (bkC n js0)
   | none=>own[i]?
 | [],own,post,_,_,i=>by
  simp only[bkO,wh,Xc5,List.getElem?_append,List.getElem?_map,List.length_nil,Nat.zero_add]
  split <;> rfl
 | j::js,own,[],_,h,_=>by simp at h
 | j::js,own,c::post,hl,h,i=>by
  simp only[X10,Bool.and_eq_true,decide_eq_true_eq] at hl
  have hlen:(Xbx own j (bkC n js0 c)).length=own.length:=by rw[Xam,List.length_set]
  have ih:=X2p (n:=n) (js0:=js0) (js:=js) (own:=Xbx own j (bkC n js0 c)) (post:=post) (by rw[hlen];exact hl.2.2) (by simpa using h) i
  simp only[bkO]
  rw[ih,hlen]
  by_cases e:i=j
  ·subst e
   have hn:Xc5 js i=none:=by simpa using hl.2.1
   have h1:wh own.length js i=none:=by simp only[wh,hn,if_pos hl.1]
   have h2:wh own.length (i::js) i=some 0:=by simp[wh,Xc5]
   rw[h1,h2,Xam]
   simp[hl.1]
  ·cases hp:Xc5 js i with
   | some k =>
    have h1:wh own.length js i=some k:=by simp only[wh,hp]
    have h2:wh own.length (j::js) i=some (k+1):=by simp only[wh,Xc5,if_neg e,hp]
    rw[h1,h2]
    simp
   | none =>
    by_cases hi:i < own.length
    ·have h1:wh own.length js i=none:=by simp only[wh,hp,if_pos hi]
     have h2:wh own.length (j::js) i=none:=by simp only[wh,Xc5,if_neg e,hp,if_pos hi]
     rw[h1,h2,Xam]
     rw[List.getElem?_set_ne (Ne.symm e)]
    ·have h1:wh own.length js i=some (js.length+(i - own.length)):=by simp only[wh,hp,if_neg hi]
     have h2:wh own.length (j::js) i=some (js.length+(i - own.length)+1):=by
      simp only[wh,Xc5,if_neg e,hp,if_neg hi,List.length_cons]
      congr 1;omega
     rw[h1,h2]
     simp
theorem Xo3 {n:Nat} {js0:List Nat}:∀ {js:List Nat} {own post:List Ch},js.length<=post.length->(bkO n js0 js own post).length=own.length+(post.length - js.length)
 | [],own,post,_=>by simp[bkO]
 | j::js,own,[],h=>by simp at h
 | j::js,own,c::post,h=>by
  simp only[bkO]
  rw[Xo3 (by simpa using h),Xam,List.length_set]
  simp
section
variable {bn:Anc} {js:List Nat}
theorem Xs4 (hb:∀ i k,Xc5 js i=some k->bn k=an i) {x y:A} {u:Value} (hx:Xbj H an x u) (hr:rn0 js x=some y):Xbj H bn y u:=by
 cases x with
 | d z=>cases hr;exact hx
 | nil=>cases hr;exact hx
 | own i ver =>
  simp only[rn0] at hr
  split at hr
  ·rename_i k hk;cases hr
   obtain⟨h1,p,hp,h2⟩:=hx
   exact⟨h1,p,by rw[hb i k hk,hp],h2⟩
  ·cases hr
 | ptr i off =>
  simp only[rn0] at hr
  split at hr
  ·rename_i k hk;cases hr
   obtain⟨b,h1,p,hp,h2⟩:=hx
   exact⟨b,h1,p,by rw[hb i k hk,hp],h2⟩
  ·cases hr
 | rp i ver sz e off =>
  simp only[rn0] at hr
  split at hr
  ·rename_i k hk;cases hr
   obtain⟨b,q,h1,p,hp,h2⟩:=hx
   exact⟨b,q,h1,p,by rw[hb i k hk,hp],h2⟩
  ·cases hr
 | un=>cases hr;trivial
 | _=>cases hr
theorem Xk2 (hb:∀ i k,Xc5 js i=some k->bn k=an i):∀ {xs ys:List A} {us:List Value},Xap (Xbj H an) xs us->Xgj js xs=some ys->Xap (Xbj H bn) ys us
 | [],ys,[],_,hr=>by simp[Xgj] at hr;subst hr;trivial
 | x::xs,ys,u::us,hx,hr=>by
  simp only[Xgj] at hr
  split at hr
  ·rename_i y r h1 h2;cases hr;exact⟨Xs4 hb hx.1 h1,Xk2 hb hx.2 h2⟩
  ·cases hr
theorem Xs5 (hb:∀ i k,Xc5 js i=some k->bn k=an i) {x y:A} {u:Value} (hx:Xcx H an x u) (hr:rnA js x=some y):Xcx H bn y u:=by
 have low:∀ {x y:A},Xbj H an x u->rn0 js x=some y->Xcx H bn y u:=fun {x y} hx hr=>X2n (Xs4 hb hx hr)
 cases x with
 | clo f caps =>
  simp only[rnA] at hr
  split at hr
  ·rename_i l hl;cases hr;obtain⟨vs,e,hv⟩:=hx;exact⟨vs,e,Xk2 hb hv hl⟩
  ·cases hr
 | mvo f ag rcv =>
  simp only[rnA] at hr
  split at hr
  ·rename_i l hl;cases hr
   cases ag with
   | false=>obtain⟨v,e,hv⟩:=hx;exact⟨v,e,Xk2 hb hv hl⟩
   | true=>obtain⟨v,e,hv⟩:=hx;exact⟨v,e,Xk2 hb hv hl⟩
  ·cases hr
 | ifo t a =>
  simp only[rnA] at hr
  split at hr
  ·rename_i l hl;cases hr;obtain⟨v,e,hv⟩:=hx;exact⟨v,e,Xs4 hb hv hl⟩
  ·cases hr
 | d z=>exact low (x:=.d z) hx hr
 | nil=>exact low (x:=.nil) hx hr
 | own i ver=>exact low (x:=.own i ver) hx hr
 | ptr i off=>exact low (x:=.ptr i off) hx hr
 | rp i ver sz e off=>exact low (x:=.rp i ver sz e off) hx hr
 | un=>exact low (x:=.un) hx hr
theorem Xo4 (hb:∀ i k,Xc5 js i=some k->bn k=an i):∀ {xs ys:List A} {us:List Value},Xa1 H an xs us->Xgk js xs=some ys->Xa1 H bn ys us
 | [],ys,[],_,hr=>by simp[Xgk] at hr;subst hr;trivial
 | x::xs,ys,u::us,hx,hr=>by
  simp only[Xgk] at hr
  split at hr
  ·rename_i y r h1 h2;cases hr;exact⟨Xs5 hb hx.1 h1,Xo4 hb hx.2 h2⟩
  ·cases hr
theorem Xik (hb:∀ i k,Xc5 js i=some k->bn k=an i) {x y:V} {u:Value} (hx:Xaq H an x u) (hr:rnV js x=some y):Xaq H bn y u:=by
 cases x with
 | one a =>
  simp only[rnV] at hr
  split at hr
  ·rename_i z hz;cases hr;exact Xs5 hb (x:=a) hx hz
  ·cases hr
 | agg l =>
  simp only[rnV] at hr
  split at hr
  ·rename_i z hz;cases hr;obtain⟨vs,rfl,hv⟩:=hx;exact⟨vs,rfl,Xo4 hb hv hz⟩
  ·cases hr
 | tup l=>cases hr
 | un=>cases hr;trivial
theorem Y2d (hb:∀ i k,Xc5 js i=some k->bn k=an i) {x y:V} {u:Value} (hx:Xa0 H an x u) (hr:rnV js x=some y):Xa0 H bn y u:=by
 cases x with
 | tup l=>cases hr
 | one a=>exact X0g (Xik hb (x:=.one a) hx hr)
 | agg l=>exact X0g (Xik hb (x:=.agg l) hx hr)
 | un=>exact X0g (Xik hb (x:=.un) hx hr)
theorem Xuv (hb:∀ i k,Xc5 js i=some k->bn k=an i):∀ {xs ys:List V} {us:List Value},Xap (Xa0 H an) xs us->Xf0 js xs=some ys->Xap (Xa0 H bn) ys us
 | [],ys,[],_,hr=>by simp[Xf0] at hr;subst hr;trivial
 | x::xs,ys,u::us,hx,hr=>by
  simp only[Xf0] at hr
  split at hr
  ·rename_i y r h1 h2;cases hr;exact⟨Y2d hb hx.1 h1,Xuv hb hx.2 h2⟩
  ·cases hr
theorem Xuw (hb:∀ i k,Xc5 js i=some k->bn k=an i):∀ {xs ys:List (V × V)} {us:List MapEntry},Xap (fun e en=>Xaq H an e.1 en.key/\Xaq H an e.2 en.val) xs us->Wnm js xs=some ys->Xap (fun e en=>Xaq H bn e.1 en.key/\Xaq H bn e.2 en.val) ys us
 | [],ys,[],_,hr=>by simp[Wnm] at hr;subst hr;trivial
 | x::xs,ys,u::us,hx,hr=>by
  simp only[Wnm] at hr
  split at hr
  ·rename_i y z r h1 h2 h3;cases hr;exact⟨⟨Xik hb hx.1.1 h1,Xik hb hx.1.2 h2⟩,Xuw hb hx.2 h3⟩
  ·cases hr
theorem Y2e (hb:∀ i k,Xc5 js i=some k->bn k=an i) {c d:Ch} {p:Nat × Value} {f:Nat->Prop} (h:Xcy H an w c p f) (hr:rnC js c=some d):Xcy H bn w d p f:=by
 cases c with
 | dead=>cases hr;exact h
 | cells cs =>
  simp only[rnC] at hr
  split at hr
  ·rename_i l hl;cases hr
   obtain⟨h0,b,T,vs,h1,h2,h3,h4⟩:=h;exact⟨h0,b,T,vs,h1,h2,h3,Xo4 hb h4 hl⟩
  ·cases hr
 | row sz ver xs=>cases hr;exact h
 | map es =>
  simp only[rnC] at hr
  split at hr
  ·rename_i he;cases hr
   exact h.on fun i hi=>by rw[List.isEmpty_iff.1 he] at hi;cases hi
  ·split at hr
   ·rename_i l hl;cases hr
    obtain⟨h0,b,ents,clk,h1,h2,h3,h4⟩:=h;exact⟨h0,b,ents,clk,h1,h2,h3,Xuw hb h4 hl⟩
   ·cases hr
 | siter s pos=>cases hr;exact h
 | abs J=>cases hr;exact h
 | bld T y =>
  simp only[rnC] at hr
  split at hr
  ·rename_i z hz;cases hr
   obtain⟨h0,b,p0,v,T',h1,h2,h3,h4,h5⟩:=h;exact⟨h0,b,p0,v,T',h1,h2,h3,h4,Xs5 hb h5 hz⟩
  ·cases hr
 | brow e ver bs=>cases hr;exact h
 | lp=>cases hr
 | rowA sz ver xs=>cases hr
 | pool sz L=>cases hr;exact h
theorem Xux:∀ {l:List Nat} {own pre:List Ch},Xf1 js own l=some pre->pre.length=l.length/\∀ (k:Nat) (j:Nat) (c:Ch),l[k]?=some j->pre[k]?=some c->rnC js (Xao own j)=some c
 | [],_,_,h=>by simp[Xf1] at h;subst h;simp
 | j0::l,own,pre,h=>by
  simp only[Xf1] at h
  split at h
  ·rename_i x r h1 h2
   cases h
   obtain⟨h3,h4⟩:=Xux h2
   refine⟨by simp[h3],fun k j c hj hc=>?_⟩
   cases k with
   | zero=>simp at hj hc;subst hj;subst hc;exact h1
   | succ k=>exact h4 k j c (by simpa using hj) (by simpa using hc)
  ·cases h
theorem Xl2 {n:Nat} (hb:∀ k p,an k=some p->bn (sgN n js k)=some p) {x:A} {u:Value} (hx:Xbj H an x u):Xbj H bn (bk0 n js x) u:=by
 cases x with
 | own i ver=>obtain⟨h1,p,hp,h2⟩:=hx;exact⟨h1,p,hb i p hp,h2⟩
 | ptr i off=>obtain⟨b,h1,p,hp,h2⟩:=hx;exact⟨b,h1,p,hb i p hp,h2⟩
 | rp i ver sz e off=>obtain⟨b,q,h1,p,hp,h2⟩:=hx;exact⟨b,q,h1,p,hb i p hp,h2⟩
 | _=>exact hx
theorem Xo5 {n:Nat} (hb:∀ k p,an k=some p->bn (sgN n js k)=some p) {xs:List A} {us:List Value} (hx:Xap (Xbj H an) xs us):Xap (Xbj H bn) (xs.map (bk0 n js)) us:=by
 have:=Xap.map (R:=Xbj H bn) (f:=bk0 n js) (g:=id) (fun a b hab=>Xl2 hb hab) hx
 simpa using this
theorem Xs6 {n:Nat} (hb:∀ k p,an k=some p->bn (sgN n js k)=some p) {x:A} {u:Value} (hx:Xcx H an x u):Xcx H bn (bkA n js x) u:=by
 cases x with
 | clo f caps=>obtain⟨vs,e,hv⟩:=hx;exact⟨vs,e,Xo5 hb hv⟩
 | mvo f ag rcv =>
  cases ag with
  | false=>obtain⟨v,e,hv⟩:=hx;exact⟨v,e,Xo5 hb hv⟩
  | true=>obtain⟨v,e,hv⟩:=hx;exact⟨v,e,Xo5 hb hv⟩
 | ifo t a=>obtain⟨v,e,hv⟩:=hx;exact⟨v,e,Xl2 hb hv⟩
 | d z=>exact hx
 | nil=>exact hx
 | own i ver=>exact Xl2 (H:=H) (x:=.own i ver) hb hx
 | ptr i off=>exact Xl2 (H:=H) (x:=.ptr i off) hb hx
 | rp i ver sz e off=>exact Xl2 (H:=H) (x:=.rp i ver sz e off) hb hx
 | un=>trivial
theorem Xuy {n:Nat} (hb:∀ k p,an k=some p->bn (sgN n js k)=some p) {xs:List A} {us:List Value} (hx:Xa1 H an xs us):Xa1 H bn (xs.map (bkA n js)) us:=by
 have:=Xap.map (R:=Xcx H bn) (f:=bkA n js) (g:=id) (fun a b hab=>Xs6 hb hab) hx
 simpa using this
theorem Xjt {n:Nat} (hb:∀ k p,an k=some p->bn (sgN n js k)=some p) {x:V} {u:Value} (hx:Xaq H an x u):Xaq H bn (bk1 n js x) u:=by
 cases x with
 | one a=>exact Xs6 (x:=a) hb hx
 | agg l=>obtain⟨vs,rfl,hv⟩:=hx;exact⟨vs,rfl,Xuy hb hv⟩
 | tup l=>exact hx.elim
 | un=>trivial
theorem X2q {n:Nat} (hb:∀ k p,an k=some p->bn (sgN n js k)=some p) {x:V} {u:Value} (hx:Xa0 H an x u):Xa0 H bn (bkV n js x) u:=by
 cases x with
 | tup l =>
  obtain⟨vs,rfl,hv⟩:=hx
  refine⟨vs,rfl,?_⟩
  have:=Xap.map (R:=Xaq H bn) (f:=bk1 n js) (g:=id) (fun a b hab=>Xjt hb hab) hv
  simpa using this
 | one a=>exact X0g (Xjt (x:=.one a) hb hx)
 | agg l=>exact X0g (Xjt (x:=.agg l) hb hx)
 | un=>exact X0g (Xjt (x:=.un) hb hx)
theorem Y2f {n:Nat} (hb:∀ k p,an k=some p->bn (sgN n js k)=some p) {c:Ch} {p:Nat × Value} {f:Nat->Prop} (h:Xcy H an w c p f):Xcy H bn w (bkC n js c) p f:=by
 cases c with
 | cells cs=>obtain⟨h0,b,T,vs,h1,h2,h3,h4⟩:=h;exact⟨h0,b,T,vs,h1,h2,h3,Xuy hb h4⟩
 | bld T y=>obtain⟨h0,b,p0,v,T',h1,h2,h3,h4,h5⟩:=h;exact⟨h0,b,p0,v,T',h1,h2,h3,h4,Xs6 hb h5⟩
 | map es =>
  simp only[bkC]
  split
  ·rename_i he
   exact h.on fun i hi=>by rw[List.isEmpty_iff.1 he] at hi;cases hi
  ·obtain⟨h0,b,ents,clk,h1,h2,h3,h4⟩:=h
   refine⟨h0,b,ents,clk,h1,h2,h3,?_⟩
   have:=Xap.map (R:=fun (e:V × V) (en:MapEntry)=>Xaq H bn e.1 en.key/\Xaq H bn e.2 en.val) (f:=fun e=>(bk1 n js e.1,bk1 n js e.2)) (g:=id) (fun a b hab=>⟨Xjt hb hab.1,Xjt hb hab.2⟩) h4
   simpa using this
 | lp=>exact⟨trivial,fun _ _=>trivial⟩
 | rowA=>exact⟨trivial,fun _ _=>trivial⟩
 | _=>exact h
end
theorem Ykw:∀ (l:List Ch) (i:Nat),i < l.length->l[i]?=some (Xao l i):=by
 intro l
 induction l with
 | nil=>intro i hi;simp at hi
 | cons c l ih =>
  intro i hi
  cases i with
  | zero=>rfl
  | succ i=>simpa [Xao] using ih i (by simpa using hi)
theorem A.lone_den {K:Xal} {x:A} {u:Value} (h:Xcx H an x u) (hs:x.lone=true):Xcx K an x u:=by
 cases x <;> first|(cases hs;done)|skip
 ·exact D.scal_den (x:=_) h hs
 ·exact h
 ·exact h
 ·trivial
theorem As.lone_den {K:Xal}:∀ {xs:List A} {us:List Value},Xa1 H an xs us->xs.all A.lone=true->Xa1 K an xs us
 | [],[],_,_=>trivial
 | _::_,_::_,h,hs=>by
  simp only[List.all_cons,Bool.and_eq_true] at hs
  exact⟨A.lone_den h.1 hs.1,As.lone_den h.2 hs.2⟩
theorem V.lone1_den {K:Xal} {x:V} {u:Value} (h:Xaq H an x u) (hs:x.lone1=true):Xaq K an x u:=by
 cases x with
 | one a=>exact A.lone_den (x:=a) h hs
 | agg l=>obtain⟨vs,e,hv⟩:=h;exact⟨vs,e,As.lone_den hv hs⟩
 | tup l=>cases hs
 | un=>trivial
theorem Vs.lone_den {K:Xal}:∀ {xs:List V} {us:List Value},Xap (Xaq H an) xs us->xs.all V.lone1=true->Xap (Xaq K an) xs us
 | [],[],_,_=>trivial
 | _::_,_::_,h,hs=>by
  simp only[List.all_cons,Bool.and_eq_true] at hs
  exact⟨V.lone1_den h.1 hs.1,Vs.lone_den h.2 hs.2⟩
theorem V.lone_den {K:Xal} {x:V} {u:Value} (h:Xa0 H an x u) (hs:x.lone=true):Xa0 K an x u:=by
 cases x with
 | tup l=>obtain⟨vs,e,hv⟩:=h;exact⟨vs,e,Vs.lone_den hv hs⟩
 | one a=>exact V.lone1_den (x:=.one a) h hs
 | agg l=>exact V.lone1_den (x:=.agg l) h hs
 | un=>trivial
theorem Xs7 {K:Xal} {bn cn:Anc} {c:Ch} {p:Nat × Value} {f:Nat->Prop} {w:World} (h:Xcy H bn w c p f) (hs:c.scalRow=true):Xcy K cn w c p f:=by
 cases c <;> first|(cases hs;done)|skip
 ·exact h
 ·obtain⟨h0,h1,h2,h3,h4,h5⟩:=h
  refine⟨h0,h1,h2,h3,h4,h5.imp id ?_⟩
  rintro⟨b,o,cap,vs,T,e1,e2,e3,e4,e5,e6⟩
  refine⟨b,o,cap,vs,T,e1,e2,e3,e4,e5,fun i x j y hx hy=>?_⟩
  obtain⟨v,hv,hd⟩:=e6 i x j y hx hy
  have h6:=List.all_eq_true.1 hs x (List.mem_of_getElem? hx)
  exact⟨v,hv,D.scal_den hd (List.all_eq_true.1 h6 y (List.mem_of_getElem? hy))⟩
theorem Xn7 {n:Nat}:∀ {post:List Ch},post.all Ch.scalRow=true->post.map (bkC n [])=post
 | [],_=>rfl
 | c::post,h=>by
  simp only[List.all_cons,Bool.and_eq_true] at h
  rw[List.map_cons,Xn7 h.2]
  cases c <;> first|rfl|(cases h.1;done)
theorem X0h {f:FuncId} {args l:List V} {vs:List Value} {post:List Ch} {v0:V} (h:SatX S Y s a w H an F ms) (hps:post.all Ch.scalRow=true) (hlone:(bkV s.own.length [] v0).lone=true) (hcal:Xaa S.P f=true)
  (hl:Xhz s.own args=some l) (htri:Tri S.P S.gp f l [] (fun r c=>r=v0/\c=post)) (ha:Xap (Xa0 H an) args vs) :
  Xaa S.P f=true/\Calls S.P f vs.toArray w fun e w'=>∃ u H' an' F',e=.returned u/\SatX S Y ⟨s.fr,s.own++post⟩ a w' H' an' F' ms/\Xa0 H' an' (bkV s.own.length [] v0) u:=by
 refine⟨hcal,?_⟩
 have hd:=Xlz h (fun _=>none) ha hl
 have:=htri (Xus s.own F w H) w (fun _=>none) (fun _ _=>False) vs (h.gp.trans (Xo1 h)) (Xly h) (by simp) (by simp) (by simp) (by simp) hd
 intro cs
 obtain⟨e,w',fr,⟨u,res,post',H',an',F',rfl,⟨rfl,rfl⟩,hw,hH,hmod,hnew,hle,han,hown,hF',hdj,hden⟩,h2,h3,h4⟩:=this cs
 have hw':WKeep w w' (fun _=>False):=hw.mono fun _ hx=>by obtain⟨_,hx⟩:=hx;exact hx
 let n:=s.own.length
 let an2:Anc:=fun i=>if i < n then an i else an' (i - n)
 let F2:Nat->Nat->Prop:=fun i b=>if i < n then F i b else F' (i - n) b
 have hb2:∀ k p,an' k=some p->an2 (sgN n [] k)=some p:=fun k p hp=>by
  simp only[an2,sgN]
  rw[if_neg (by omega),Nat.add_sub_cancel_left];exact hp
 have hle2:Anc.Le an an2:=⟨fun i p hp=>by
  have hi:=(h.anc i).1 ⟨p,hp⟩
  exact⟨p,by simp only[an2];rw[if_pos hi];exact hp,.inl rfl⟩⟩
 have hfresh:∀ k b,F' k b->w.heap.size<=b:=fun k b hb=>by
  obtain⟨_,_,_,h5⟩:=hF' k b hb
  rcases h5 with h5|⟨_,h5⟩
  ·exact h5
  ·exact h5.elim
 refine⟨_,w',fr,⟨u,H,an2,F2,rfl,?_,V.lone_den (X2q hb2 hden) hlone⟩,h2,h3,h4⟩
 refine h.evolve (may:=fun _=>False) hw' (fun _ hb=>hb.elim) (Xal.Le.refl _) (h.models hw' fun _ hx=>hx.elim) (fun b o hb=>.inl hb) hle2 (fun i=>?_) (fun i c hc=>?_) (fun i b hb=>?_) (fun i j b hi hj=>?_)
 ·simp only[an2,List.length_append]
  by_cases hi:i < n
  ·rw[if_pos hi]
   exact⟨fun _=>by show i < n+_;omega,fun _=>(h.anc i).2 hi⟩
  ·rw[if_neg hi,han]
   show i - n < _↔i < n+_
   omega
 ·by_cases hi:i < n
  ·rw[List.getElem?_append_left hi] at hc
   obtain⟨q,hq,hs⟩:=h.own i c hc
   refine⟨q,by simp only[an2];rw[if_pos hi];exact hq,?_⟩
   have hFe:F2 i=F i:=by funext b;simp only[F2];rw[if_pos hi]
   rw[hFe]
   exact hs.keep (w':=w') (Xal.Le.refl _) hle2 (fun x hx=>hw'.block x (h.fp i x hx).1 (fun hm=>hm))
  ·rw[List.getElem?_append_right (by omega)] at hc
   obtain⟨q,hq,hs⟩:=hown (i - n) c hc
   refine⟨q,by simp only[an2];rw[if_neg hi];exact hq,?_⟩
   have hFe:F2 i=F' (i - n):=by funext b;simp only[F2];rw[if_neg hi]
   rw[hFe]
   exact Xs7 hs (List.all_eq_true.1 hps c (List.mem_of_getElem? hc))
 ·simp only[F2] at hb
  by_cases hi:i < n
  ·rw[if_pos hi] at hb
   obtain⟨g1,g2,g3⟩:=h.fp i b hb
   exact⟨by simp only[List.length_append];show i < n+_;omega,Nat.lt_of_lt_of_le g1 hw'.size,g2,.inr ⟨i,hb⟩⟩
  ·rw[if_neg hi] at hb
   obtain⟨g1,g2,g3,g4⟩:=hF' _ b hb
   exact⟨by simp only[List.length_append];show i < n+_;omega,g2,h.none_new (hfresh _ b hb),.inl (hfresh _ b hb)⟩
 ·simp only[F2] at hi hj
  by_cases h5:i < n
  ·rw[if_pos h5] at hi
   by_cases h6:j < n
   ·rw[if_pos h6] at hj;exact h.dj i j b hi hj
   ·rw[if_neg h6] at hj
    have g1:=(h.fp i b hi).1
    have g2:=hfresh _ b hj
    omega
  ·rw[if_neg h5] at hi
   by_cases h6:j < n
   ·rw[if_pos h6] at hj
    have g1:=(h.fp j b hj).1
    have g2:=hfresh _ b hi
    omega
   ·rw[if_neg h6] at hj
    have:=hdj _ _ b hi hj
    omega
theorem Xs8 {f:FuncId} {args:List V} {vs:List Value} {own1:List Ch} (h:SatX S Y s a w H an F ms) (hc:Yj6 S f args s.own v own1) (ha:Xap (Xa0 H an) args vs) :
  Xaa S.P f=true/\Calls S.P f vs.toArray w fun e w'=>∃ u H' an' F',e=.returned u/\SatX S Y ⟨s.fr,own1⟩ a w' H' an' F' ms/\Xa0 H' an' v u:=by
 obtain⟨js,v0,post,hc,rfl,rfl⟩:=hc
 by_cases hlent:∃ l pre,Xf0 js args=some l/\Xf1 js s.own js=some pre
 case neg =>
  unfold Xbo at hc
  split at hc
  ·rename_i l pre hl hpre;exact absurd ⟨l,pre,hl,hpre⟩ hlent
  ·obtain⟨rfl,⟨hps,hlone⟩,hcal,l,hl,htri⟩:=hc
   have:=X0h h hps hlone hcal hl htri ha
   simp only[bkO,Xn7 hps]
   exact this
 obtain⟨l,pre,hl,hpre,hjs,hlen,hcal,htri⟩:∃ l pre,Xf0 js args=some l/\Xf1 js s.own js=some pre/\X10 s.own.length js=true/\js.length<=post.length/\Xaa S.P f=true/\Tri S.P S.gp f l pre (fun r c=>r=v0/\c=post):=by
  unfold Xbo at hc
  split at hc
  ·rename_i l pre hl hpre;exact⟨l,pre,hl,hpre,hc⟩
  ·rename_i hno
   obtain⟨l,pre,hl,hpre⟩:=hlent
   exact absurd hpre (hno l pre hl)
 refine⟨hcal,?_⟩
 obtain⟨hpl,hpg⟩:=Xux hpre
 let an1:Anc:=fun k=>(js[k]?).bind an
 let F1:Nat->Nat->Prop:=fun k b=>∃ j,js[k]?=some j/\F j b
 have hb1:∀ i k,Xc5 js i=some k->an1 k=an i:=fun i k hk=>by simp[an1,Xk1 hk]
 have hcalls:=htri H w an1 F1 vs h.gp h.mod (fun k=>by
   rw[hpl]
   constructor
   ·rintro⟨p,hp⟩
    rcases Nat.lt_or_ge k js.length with h1|h1
    ·exact h1
    ·simp[an1,List.getElem?_eq_none h1] at hp
   ·intro hk
    have hg:js[k]?=some js[k]:=List.getElem?_eq_getElem hk
    obtain⟨p,hp⟩:=(h.anc js[k]).2 (Xfl hjs hg).1
    exact⟨p,by simp[an1,hg,hp]⟩) (fun k c hc=>by
   have hk:k < js.length:=by rw[<- hpl];exact (List.getElem?_eq_some_iff.1 hc).1
   have hg:js[k]?=some js[k]:=List.getElem?_eq_getElem hk
   obtain⟨p,hp,hsc⟩:=h.own js[k] _ (Ykw s.own js[k] (Xfl hjs hg).1)
   refine⟨p,by simp[an1,hg,hp],?_⟩
   have:F1 k=F js[k]:=by funext b;simp[F1,hg]
   rw[this]
   exact Y2e hb1 hsc (hpg k _ c hg hc)) (fun k b hb=>by
   obtain⟨j,hj,hF⟩:=hb
   obtain⟨g1,g2,_⟩:=h.fp j b hF
   exact⟨by rw[hpl];exact (List.getElem?_eq_some_iff.1 hj).1,g1,g2⟩) (fun k k' b hb hb'=>by
   obtain⟨j,hj,hF⟩:=hb
   obtain⟨j',hj',hF'⟩:=hb'
   have e:=h.dj j j' b hF hF'
   subst e
   have h1:=(Xfl hjs hj).2
   have h2:=(Xfl hjs hj').2
   rw[h1] at h2;exact Option.some.inj h2) (Xuv hb1 ha hl)
 intro cs
 obtain⟨e,w',fr,⟨u,res,post',H',an',F',rfl,⟨rfl,rfl⟩,hw,hH,hmod,hnew,hle,han,hown,hF',hdj,hden⟩,h2,h3,h4⟩:=hcalls cs
 let an2:Anc:=fun i=>match wh s.own.length js i with
  | some k=>an' k
  | none=>an i
 let F2:Nat->Nat->Prop:=fun i b=>match wh s.own.length js i with
  | some k=>F' k b
  | none=>F i b
 have hb2:∀ k p,an' k=some p->an2 (sgN s.own.length js k)=some p:=fun k p hp=>by simp only[an2,W38 hjs k,hp]
 have hmay:∀ b,(∃ i,F1 i b)->∃ i,F i b:=fun b ⟨k,j,_,hj⟩=>⟨j,hj⟩
 have hle2:Anc.Le an an2:=⟨fun i p hp=>by
  cases e:wh s.own.length js i with
  | none=>exact⟨p,by simp only[an2,e,hp],.inl rfl⟩
  | some k =>
   have hi:=(h.anc i).1 ⟨p,hp⟩
   have hpos:Xc5 js i=some k:=by
    unfold wh at e
    split at e
    ·rename_i m hm;cases e;exact hm
    ·rw[if_pos hi] at e;cases e
   obtain⟨q,hq,h5⟩:=hle.same k p (by rw[hb1 i k hpos,hp])
   exact⟨q,by simp only[an2,e,hq],h5⟩⟩
 refine⟨_,w',fr,⟨u,H',an2,F2,rfl,?_,X2q hb2 hden⟩,h2,h3,h4⟩
 refine h.evolve (may:=fun b=>∃ i,F1 i b) hw hmay hH hmod (fun b o hb=>by
   rcases hnew b o hb with h5|h5|⟨k,j,_,h5⟩
   ·exact .inl h5
   ·exact .inr (.inl h5)
   ·exact .inr (.inr ⟨j,h5⟩)) hle2 (fun i=>by
   rw[Xo3 hlen]
   cases e:wh s.own.length js i with
   | none =>
    have hi:=(Xo2 e).1
    obtain⟨p,hp⟩:=(h.anc i).2 hi
    exact⟨fun _=>by omega,fun _=>⟨p,by simp only[an2,e,hp]⟩⟩
   | some k =>
    have:(∃ p,an2 i=some p)↔k < post'.length:=by simp only[an2,e];exact han k
    rw[this]
    unfold wh at e
    split at e
    ·rename_i m hm;cases e
     have:=Xs3 hjs hm
     exact⟨fun _=>by omega,fun _=>by omega⟩
    ·split at e
     ·cases e
     ·cases e;omega) (fun i c hc=>by
   rw[X2p hjs hlen] at hc
   cases e:wh s.own.length js i with
   | none =>
    rw[e] at hc
    obtain⟨q,hq,hs⟩:=h.own i c hc
    refine⟨q,by simp only[an2,e,hq],?_⟩
    have hFe:F2 i=F i:=by funext b;simp only[F2,e]
    rw[hFe]
    refine hs.keep (w':=w') hH hle2 (fun x hx=>hw.block x (h.fp i x hx).1 (fun ⟨k,j,hj,hm⟩=>?_))
    have:=h.dj j i x hm hx
    subst this
    have h6:=(Xo2 e).2
    rw[(Xfl hjs hj).2] at h6
    cases h6
   | some k =>
    rw[e] at hc
    replace hc:(post'[k]?).map (bkC s.own.length js)=some c:=hc
    cases hk:post'[k]? with
    | none=>rw[hk] at hc;cases hc
    | some c' =>
     rw[hk] at hc
     cases hc
     obtain⟨p,hp,hs⟩:=hown k c' hk
     refine⟨p,by simp only[an2,e,hp],?_⟩
     have hFe:F2 i=F' k:=by funext b;simp only[F2,e]
     rw[hFe]
     exact Y2f hb2 hs) (fun i b hb=>by
   rw[Xo3 hlen]
   cases e:wh s.own.length js i with
   | none =>
    have hi:=(Xo2 e)
    simp only[F2,e] at hb
    obtain⟨g1,g2,g3⟩:=h.fp i b hb
    refine⟨by omega,Nat.lt_of_lt_of_le g1 hw.size,?_,.inr ⟨i,hb⟩⟩
    cases e':H' b with
    | none=>rfl
    | some o =>
     rcases hnew b o e' with h5|h5|⟨k,j,hj,h5⟩
     ·rw[g2] at h5;cases h5
     ·omega
     ·have:=h.dj j i b h5 hb
      subst this
      rw[(Xfl hjs hj).2] at hi
      cases hi.2
   | some k =>
    simp only[F2,e] at hb
    obtain⟨g0,g1,g2,g3⟩:=hF' k b hb
    refine⟨?_,g1,g2,g3.imp id fun ⟨_,j,_,q⟩=>⟨j,q⟩⟩
    unfold wh at e
    split at e
    ·rename_i m hm;cases e
     have:=Xs3 hjs hm
     omega
    ·split at e
     ·cases e
     ·cases e;omega) (fun i i' b hb hb'=>by
   have mixed:∀ i i' k,wh s.own.length js i=some k->wh s.own.length js i'=none->F' k b->F i' b->False:=fun i i' k e e' hb hb'=>by
    rcases (hF' k b hb).2.2.2 with h5|⟨k',j,hj,h5⟩
    ·have:=(h.fp i' b hb').1;omega
    ·have:=h.dj j i' b h5 hb'
     subst this
     have h6:=(Xo2 e').2
     rw[(Xfl hjs hj).2] at h6;cases h6
   cases e:wh s.own.length js i with
   | none =>
    simp only[F2,e] at hb
    cases e':wh s.own.length js i' with
    | none=>simp only[F2,e'] at hb';exact h.dj i i' b hb hb'
    | some k'=>simp only[F2,e'] at hb';exact (mixed i' i k' e' e hb' hb).elim
   | some k =>
    simp only[F2,e] at hb
    cases e':wh s.own.length js i' with
    | none=>simp only[F2,e'] at hb';exact (mixed i i' k e e' hb hb').elim
    | some k' =>
     simp only[F2,e'] at hb'
     have:=hdj k k' b hb hb'
     subst this
     rw[<- Wn2 e,<- Wn2 e'])
end
end Go.Fw
namespace Go.Fw
open Go
section
variable {S:Sx} {Y:Dyn} {s:St} {a:Act} {w w':World} {H:Xal} {an:Anc} {F:Nat->Nat->Prop} {ms:List Nat} {o:Oper} {v:V}
theorem Xfg {P:Program} {f:FuncId} (h:Xaa P f=true) (args:Array Value):(callFunc f args).run P w=.ok (.enter f args) w:=by
 unfold Xaa at h
 cases hf:P.funcs[f]? with
 | none=>simp[hf] at h
 | some fn =>
  simp[hf] at h
  have hb:fn.body.isNone=false:=by cases e:fn.body <;> simp_all
  simp only[callFunc,Sem.run_bind,run_program,Result.andThen_ok,hf]
  simp[h.2,hb]
theorem Xju (h:SatX S Y s a w H an F ms):∀ l:List Operand,Xap (Xa0 H an) (l.map fun x=>evO s.fr (Xae x)) (l.map a.eval)
 | []=>trivial
 | x::l=>⟨h.ev x,Xju h l⟩
theorem Xs9 {own':List Ch} {next:Act->World->Prop} {Q:Exit->Act->World->Prop} {r:Result Next} (hg:Xby S Y s.fr own' a ms v r)
  (hn:∀ a' w',Sat S Y ⟨Xbb s.fr o.dst v,own'⟩ a' w'->next a' w'):o.uponIn (Xhi Y.round) 0 S.P a next Q r:=by
 obtain⟨x,u,w',H',an',F',rfl,hx,hs,hd⟩:=hg
 have:=hn _ _ ⟨H',an',F',ms,hs.put o.dst hd⟩
 rcases hx with rfl|⟨rfl,rfl⟩ <;> exact this
theorem Xl3 {f:FuncId} {args:List V} {vs:List Value} {next:Act->World->Prop} {Q:Exit->Act->World->Prop} (h:SatX S Y s a w H an F ms) (hc:Xst S f args s.own v) (ha:Xap (Xa0 H an) args vs)
  (hn:∀ a' w',Sat S Y ⟨Xbb s.fr o.dst v,s.own⟩ a' w'->next a' w'):o.uponIn (Xhi Y.round) 0 S.P a next Q ((callFunc f vs.toArray).run S.P w):=by
 obtain⟨hcal,hcalls⟩:=X0f h hc ha
 rw[Xfg hcal,Oper.uponIn_enter]
 refine⟨fun hd=>by simp[Xhi,Fence.wide] at hd,trivial,fun cs _=>?_⟩
 obtain⟨e,w',fr,⟨u,H',rfl,hs,hd⟩,h2,h3,h4⟩:=hcalls cs
 refine⟨.returned u,w',fr,hn _ _ ⟨H',an,F,ms,hs.put o.dst hd⟩,?_,h3,h4⟩
 exact (StepsIn.of_steps h2).mono fun m _=>(fenced_wide S.P m:Machine.fenced S.P Fence.wide m)
theorem Xkl {f:FuncId} {args:List V} {vs:List Value} {j:Nat} {v0:V} {c':Ch} {next:Act->World->Prop} {Q:Exit->Act->World->Prop} (h:SatX S Y s a w H an F ms) (hc:Xsu S f args s.own j v0 c') (ha:Xap (Xa0 H an) args vs)
  (hn:∀ a' w',Sat S Y ⟨Xbb s.fr o.dst (Xqi j v0),Xbx s.own j c'⟩ a' w'->next a' w'):o.uponIn (Xhi Y.round) 0 S.P a next Q ((callFunc f vs.toArray).run S.P w):=by
 obtain⟨hcal,hcalls⟩:=Xs1 h hc ha
 rw[Xfg hcal,Oper.uponIn_enter]
 refine⟨fun hd=>by simp[Xhi,Fence.wide] at hd,trivial,fun cs _=>?_⟩
 obtain⟨e,w',fr,⟨u,H',an',F',rfl,hs,hd⟩,h2,h3,h4⟩:=hcalls cs
 refine⟨.returned u,w',fr,hn _ _ ⟨H',an',F',ms,hs.put o.dst hd⟩,?_,h3,h4⟩
 exact (StepsIn.of_steps h2).mono fun m _=>(fenced_wide S.P m:Machine.fenced S.P Fence.wide m)
theorem Xkm {f:FuncId} {args:List V} {vs:List Value} {own1:List Ch} {next:Act->World->Prop} {Q:Exit->Act->World->Prop} (h:SatX S Y s a w H an F ms) (hc:Yj6 S f args s.own v own1) (ha:Xap (Xa0 H an) args vs)
  (hn:∀ a' w',Sat S Y ⟨Xbb s.fr o.dst v,own1++[.dead]⟩ a' w'->next a' w'):o.uponIn (Xhi Y.round) 0 S.P a next Q ((callFunc f vs.toArray).run S.P w):=by
 obtain⟨hcal,hcalls⟩:=Xs8 h hc ha
 rw[Xfg hcal,Oper.uponIn_enter]
 refine⟨fun hd=>by simp[Xhi,Fence.wide] at hd,trivial,fun cs _=>?_⟩
 obtain⟨e,w',fr,⟨u,H',an',F',rfl,hs,hd⟩,h2,h3,h4⟩:=hcalls cs
 refine⟨.returned u,w',fr,hn _ _ (Sat.add_dead (s:=⟨Xbb s.fr o.dst v,own1⟩) ⟨H',an',F',ms,hs.put o.dst hd⟩),?_,h3,h4⟩
 exact (StepsIn.of_steps h2).mono fun m _=>(fenced_wide S.P m:Machine.fenced S.P Fence.wide m)
theorem Xq0:∀ (ps:List Nat) (fr args:List V) (tmps:Array Value) (vs:List Value),Xap (Xa0 H an) fr tmps.toList->Xap (Xa0 H an) args vs->args.length=ps.length ->
  Xap (Xa0 H an) (Xz9 fr ps args) ((ps.zip vs).foldl (fun tmps (p:Nat × Value)=>tmps.setIfInBounds p.1 p.2) tmps).toList
 | [],fr,args,tmps,vs,h,_,_=>by cases args <;> cases vs <;> exact h
 | p::ps,fr,[],tmps,vs,_,_,hl=>by simp at hl
 | p::ps,fr,v::args,tmps,[],_,h,_=>h.elim
 | p::ps,fr,v::args,tmps,u::vs,h,ha,hl=>by
  simp only[Xz9,List.zip_cons_cons,List.foldl_cons]
  refine Xq0 ps _ args _ vs ?_ ha.2 (by simpa using hl)
  have:=Xc4 fr tmps.toList p v u h ha.1
  simpa using this
theorem Xq1 {l:Nat} {args:List V} {vs:List Value} {own1:List Ch} {b:Bool} {next:Act->World->Prop} {Q:Exit->Act->World->Prop} (h:SatX S Y s a w H an F ms) (hr:Xsv S l args s.own own1 b) (ha:Xap (Xa0 H an) args vs)
  (hn:∀ a' w',Sat S Y ⟨Xbb s.fr o.dst (.one (.d (.bool b))),own1++[.dead]⟩ a' w'->next a' w'):o.uponIn (Xhi Y.round) 0 S.P a next Q ((Instr.yield l vs.toArray).run S.P w):=by
 obtain⟨i,fr,rc,hs,ma,mb,own2,jump,hc,hlen,hta,htb,hG,hd,rfl⟩:=hr
 have hi:=Xax hc (by simp)
 obtain⟨p,hp,hF,hw,hfr⟩:=h.own i _ hi
 have hil:=(List.getElem?_eq_some_iff.1 hi).1
 have hFl:F i l:=(hF l).2 rfl
 obtain⟨hlw,hHl,hUl⟩:=h.fp i l hFl
 rw[run_yield hw (by rw[List.size_toArray,<- ha.length,hlen]),Oper.uponIn_round]
 refine⟨fun hd=>by simp[Xhi,Fence.wide] at hd,roundIn_of_wpIn trivial ?_⟩
 -- the assignments
 let U:Nat->Prop:=fun x=>x < w.heap.size/\¬ ∃ j,j≠i/\F j x
 have hU:U l:=⟨hlw,fun ⟨j,hj,hx⟩=>hj (h.dj j i l hx hFl)⟩
 let F3:Nat->Nat->Prop:=fun j x=>j≠i/\F j x
 have hs3:SatX (W3w S s.own.length) ⟨H,an,U,w,some l⟩ ⟨Xz9 fr rc.params.toList args,Xbx s.own i .dead⟩
   { tmps:=(rc.params.zip vs.toArray).foldl (fun tmps (p:Nat × Value)=>tmps.setIfInBounds p.1 p.2) rc.tmps,defers:=[] } w H an F3 []:=by
  refine⟨h.gp,Xal.Le.refl _,h.mod,?_,?_,?_,?_,?_,?_,fun x o hx=>.inl hx,fun x hx=>⟨hx.1,rfl⟩,rfl,rfl,rfl,Nat.le_refl _,rfl,by simp,by simp,Anc.Le.refl _,fun j p hp=>(h.anc j).1 ⟨p,hp⟩,.inl rfl⟩
  ·have:=Xq0 (H:=H) (an:=an) rc.params.toList fr args rc.tmps vs hfr ha (by simpa using hlen)
   have e:(rc.params.zip vs.toArray).foldl (fun tmps (p:Nat × Value)=>tmps.setIfInBounds p.1 p.2) rc.tmps=(rc.params.toList.zip vs).foldl (fun tmps (p:Nat × Value)=>tmps.setIfInBounds p.1 p.2) rc.tmps:=by
    rw[<- Array.foldl_toList,Array.toList_zip]
   rw[e]
   exact this
  ·intro j;rw[Xam,List.length_set];exact h.anc j
  ·intro j c hc
   rw[Xam,List.getElem?_set] at hc
   split at hc
   ·rename_i e
    subst e
    cases hc
    exact⟨p,hp,fun x hx=>hx.1 rfl⟩
   ·rename_i e
    obtain⟨q,hq,hsc⟩:=h.own j c hc
    refine⟨q,hq,?_⟩
    have:F3 j=F j:=by funext x;simp[F3,Ne.symm e]
    rw[this];exact hsc
  ·intro j x hx;rw[Xam,List.length_set];exact h.fl j x hx.2
  ·intro j x hx
   obtain⟨g1,g2,_⟩:=h.fp j x hx.2
   exact⟨g1,g2,fun hu=>hu.2 ⟨j,hx⟩⟩
  ·intro j j' x hx hx';exact h.dj j j' x hx.2 hx'.2
 have hA:=hG ⟨H,an,U,w,some l⟩ _ w ⟨_,_,_,_,hs3⟩ hs rc.assign hta
 refine wpIn_mono hA ?_
 rintro e a1 w1 ⟨_,s1,⟨H1,an1,F1,ms1,hs1⟩,rfl,hG2⟩
 -- the record is busy
 have hl1:w1.heap[l]?=some (.loop { rc with state:=.ready,pending:=none }):=(hs1.ub l hU).2.trans hw
 have hl1s:l < w1.heap.size:=(Array.getElem?_eq_some_iff.1 hl1).1
 have hH1:H1 l=none:=by
  cases e:H1 l with
  | none=>rfl
  | some o =>
   rcases hs1.hn l o e with g|g
   ·have g':H l=some o:=g
    rw[hHl] at g';cases g'
   ·exact absurd hU g
 refine⟨_,run_beginRound hl1 rfl,?_⟩
 generalize hw1':w1.putObj l (.loop { ({ rc with state:=.ready,pending:=none }:Loop) with state:=.busy })=w1'
 have hoth:∀ x,x≠l->w1'.heap[x]?=w1.heap[x]?:=fun x hx=>by rw[<- hw1'];exact World.putObj_heap_other (fun e=>hx e)
 have hsame:w1'.heap[l]?=some (.loop { ({ rc with state:=.ready,pending:=none }:Loop) with state:=.busy }):=by rw[<- hw1'];exact World.putObj_heap_same hl1s
 have hsz:w1'.heap.size=w1.heap.size:=by rw[<- hw1'];simp[World.putObj]
 have hk1:WKeep w w1 (fun x=>¬ U x):=⟨hs1.os,hs1.tape,hs1.output,hs1.size,fun x hx hn=>(hs1.ub x (Classical.not_not.1 hn)).2⟩
 have hF1l:∀ j x,F1 j x->x≠l:=fun j x hx e=>(hs1.fp j x hx).2.2 (e ▸ hU)
 have hs4:SatX (W3w S s.own.length) ⟨H,an,U,w1',some l⟩ s1 a1 w1' H1 an1 F1 ms1:=by
  refine⟨hs1.gp,hs1.h0,?_,hs1.fr,hs1.anc,?_,hs1.fl,?_,hs1.dj,hs1.hn,?_,rfl,rfl,rfl,Nat.le_refl _,hs1.df,?_,hs1.nd,hs1.al,hs1.npl,.inl rfl⟩
  ·intro x o hx
   have hxl:x≠l:=fun e=>by rw[e,hH1] at hx;cases hx
   rw[hoth x hxl];exact hs1.mod x o hx
  ·intro j c hc
   obtain⟨q,hq,hsc⟩:=hs1.own j c hc
   exact⟨q,hq,hsc.keep (Xal.Le.refl _) (Anc.Le.refl _) fun x hx=>hoth x (hF1l j x hx)⟩
  ·intro j x hx
   obtain⟨g1,g2,g3⟩:=hs1.fp j x hx
   exact⟨by rw[hsz];exact g1,g2,g3⟩
  ·intro x hx
   exact⟨by show x < w1'.heap.size;rw[hsz];exact Nat.lt_of_lt_of_le hx.1 hs1.size,rfl⟩
  ·intro r hr
   obtain⟨g1,g2,g3,g4⟩:=hs1.mks r hr
   have hrl:r≠l:=fun e=>by rw[e,hl1] at g1;cases g1
   exact⟨by rw[hoth r hrl];exact g1,g2,g3,g4⟩
 have hB:=hG2 ⟨H,an,U,w1',some l⟩ a1 w1' ⟨_,_,_,_,hs4⟩ hs rc.body htb
 refine wpIn_mono hB ?_
 rintro e a2 w2 ⟨_,s2,⟨H2,an2,F2,ms2,hs2⟩,hend,rfl⟩
 have hl2:w2.heap[l]?=some (.loop { ({ rc with state:=.ready,pending:=none }:Loop) with state:=.busy }):=(hs2.ub l hU).2.trans hsame
 have hl2s:l < w2.heap.size:=(Array.getElem?_eq_some_iff.1 hl2).1
 have hH2:H2 l=none:=by
  cases e:H2 l with
  | none=>rfl
  | some o =>
   rcases hs2.hn l o e with g|g
   ·have g':H l=some o:=g
    rw[hHl] at g';cases g'
   ·exact absurd hU g
 have hF2l:∀ j x,F2 j x->x≠l:=fun j x hx e=>(hs2.fp j x hx).2.2 (e ▸ hU)
 have fin:∃ v w',(Instr.endRound l jump).run S.P w2=.ok v w'/\next (a.put o.dst v) w'/\v=.bool b:=by
  have hjb:b=jump.isNone:=by
   cases e <;> first|exact hend.elim|(obtain⟨rfl,rfl⟩:=hend;rfl)
  refine⟨_,_,run_endRound jump hl2,?_,by rw[hjb]⟩
  generalize hw3:w2.putObj l (.loop { ({ ({ rc with state:=.ready,pending:=none }:Loop) with state:=.busy }:Loop) with state:=if jump.isNone then .ready else .done,pending:=jump })=w3
  have hoth3:∀ x,x≠l->w3.heap[x]?=w2.heap[x]?:=fun x hx=>by rw[<- hw3];exact World.putObj_heap_other (fun e=>hx e)
  have hsame3:w3.heap[l]?=some (.loop { rc with state:=if jump.isNone then .ready else .done,pending:=jump }):=by rw[<- hw3];exact World.putObj_heap_same hl2s
  have hsz3:w3.heap.size=w2.heap.size:=by rw[<- hw3];simp[World.putObj]
  have hle:w.heap.size<=w2.heap.size:=Nat.le_trans hs1.size (by rw[<- hsz];exact hs2.size)
  have hi2:i < s2.own.length:=by
   obtain⟨q,hq,_⟩:=hs2.al.same i p hp
   exact (hs2.anc i).1 ⟨q,hq⟩
  have hF2i:∀ x,¬ F2 i x:=by
   have hget:∀ (l:List Ch) (i:Nat),i < l.length->l[i]?=some (Xao l i):=by
    intro l
    induction l with
    | nil=>intro i hi;simp at hi
    | cons c l ih =>
     intro i hi
     cases i with
     | zero=>rfl
     | succ i=>simpa [Xao] using ih i (by simpa using hi)
   have:=hget _ _ hi2
   rw[hd] at this
   obtain⟨_,_,g⟩:=hs2.own i _ this
   exact g
  have hev:=h.evolve (own':=Xbx s2.own i (.lp l fr rc (if jump.isNone then .ready else .done) jump)) (w':=w3) (H':=H2) (an':=an2) (F':=fun j x=>if j=i then x=l else F2 j x) (may:=fun x=>∃ j,F j x)
   ⟨by rw[<- hw3];exact hs2.os.trans (by rw[<- hw1'];exact hs1.os),by rw[<- hw3];exact hs2.tape.trans (by rw[<- hw1'];exact hs1.tape),by rw[<- hw3];exact hs2.output.trans (by rw[<- hw1'];exact hs1.output),by rw[hsz3];exact hle,fun x hx hn=>by
    have hxl:x≠l:=fun e=>hn ⟨i,e ▸ hFl⟩
    have hux:U x:=⟨hx,fun ⟨j,_,hj⟩=>hn ⟨j,hj⟩⟩
    rw[hoth3 x hxl,(hs2.ub x hux).2]
    show w1'.heap[x]?=_
    rw[hoth x hxl,(hs1.ub x hux).2]⟩
   (fun x hx=>hx) hs2.h0 (fun x o hx=>by
    have hxl:x≠l:=fun e=>by rw[e,hH2] at hx;cases hx
    rw[hoth3 x hxl];exact hs2.mod x o hx) (fun x o hx=>by
    rcases hs2.hn x o hx with g|g
    ·exact .inl g
    ·by_cases hlt:x < w.heap.size
     ·refine .inr (.inr (Classical.byContradiction fun hn=>g ⟨hlt,fun ⟨j,_,hj⟩=>hn ⟨j,hj⟩⟩))
     ·exact .inr (.inl (by omega))) hs2.al (fun j=>by rw[Xam,List.length_set];exact hs2.anc j) (fun j c hc=>by
    rw[Xam,List.getElem?_set] at hc
    split at hc
    ·rename_i e
     subst e
     cases hc
     obtain⟨q,hq⟩:=(hs2.anc i).2 hi2
     exact⟨q,hq,fun x=>by simp,hsame3,Xap.mono (fun _ _=>Xa0.mono hs2.h0 hs2.al) hfr⟩
    ·rename_i e
     obtain⟨q,hq,hsc⟩:=hs2.own j c hc
     refine⟨q,hq,?_⟩
     have:=hsc.keep (w':=w3) (Xal.Le.refl _) (Anc.Le.refl _) fun x hx=>hoth3 x (hF2l j x hx)
     simpa [Ne.symm e] using this) (fun j x hx=>by
    rw[Xam,List.length_set]
    by_cases e:j=i
    ·simp only[if_pos e] at hx
     subst hx
     exact⟨by omega,by rw[hsz3];exact hl2s,hH2,.inr ⟨i,hFl⟩⟩
    ·simp only[if_neg e] at hx
     obtain⟨g1,g2,g3⟩:=hs2.fp j x hx
     refine⟨hs2.fl j x hx,by rw[hsz3];exact g1,g2,?_⟩
     by_cases hlt:x < w.heap.size
     ·exact .inr (Classical.byContradiction fun hn=>g3 ⟨hlt,fun ⟨j,_,hj⟩=>hn ⟨j,hj⟩⟩)
     ·exact .inl (by omega)) (fun j j' x hx hx'=>by
    by_cases e:j=i <;> by_cases e':j'=i
    ·omega
    ·simp only[if_pos e] at hx;simp only[if_neg e'] at hx'
     exact absurd hx (hF2l j' x hx')
    ·simp only[if_pos e'] at hx';simp only[if_neg e] at hx
     exact absurd hx' (hF2l j x hx)
    ·simp only[if_neg e] at hx;simp only[if_neg e'] at hx'
     exact hs2.dj j j' x hx hx')
  refine hn _ _ (Sat.add_dead (s:=⟨Xbb s.fr o.dst (.one (.d (.bool b))),_⟩) ⟨_,_,_,_,hev.put o.dst (v:=.one (.d (.bool b))) (u:=.bool jump.isNone) ?_⟩)
  rw[hjb];exact Den.bool _
 obtain⟨v,w',hrun,hnext,_⟩:=fin
 cases e with
 | normal=>obtain⟨_,rfl⟩:=hend;exact⟨v,w',hrun,hnext⟩
 | ret=>obtain⟨_,rfl⟩:=hend;exact⟨v,w',hrun,hnext⟩
 | exit id=>obtain⟨_,rfl⟩:=hend;exact⟨v,w',hrun,hnext⟩
 | goto t=>exact hend.elim
 | panic c=>exact hend.elim
 | outgrown=>exact hend.elim
theorem Xn8 {g x:V} {u:Value} {args l:List V} {vs:List Value} {f:FuncId} (hg:Xa0 H an g u) (ha:Xap (Xa0 H an) args vs) (hl:Xgr g args=some (f,l)) :
  ∃ first caps us,u=.func (.func f) first caps/\(first++vs.toArray++caps)=us.toArray/\Xap (Xa0 H an) l us:=by
 unfold Xgr at hl
 split at hl <;> cases hl
 ·rename_i caps
  cases hg with
  | fn _ _ ws hlen hd =>
   refine⟨#[],ws.toArray,vs++ws,rfl,by simp,ha.append ?_⟩
   refine Xap.of_get (by simpa using hlen.symm) fun i x v hx hv=>?_
   simp only[List.getElem?_map,Option.map_eq_some_iff] at hx
   obtain⟨y,hy,rfl⟩:=hx
   exact hd i y v hy hv
 ·rename_i y
  cases hg with
  | mvV _ _ v hd=>exact⟨#[v],#[],v::vs,rfl,by simp,hd,ha⟩
 ·rename_i cs
  cases hg with
  | mvA _ _ ws hlen hd =>
   refine⟨#[.agg ws.toArray],#[],.agg ws.toArray::vs,rfl,by simp,⟨ws,rfl,Xej.den_d (Xap.of_get hlen.symm hd)⟩,ha⟩
 ·rename_i caps
  obtain⟨ws,rfl,hw⟩:=hg
  refine⟨#[],ws.toArray,vs++ws,rfl,by simp,ha.append ?_⟩
  have:=Xap.map (R:=Xa0 H an) (f:=V.one) (g:=id) (fun a b (hab:Xbj H an a b)=>by
   show Xcx H an a b
   cases a <;> first|exact hab|exact hab.elim) hw
  simpa using this
 ·rename_i y
  obtain⟨w,rfl,hw⟩:=hg
  refine⟨#[w],#[],w::vs,rfl,by simp,?_,ha⟩
  show Xcx H an y w
  have:=hw.1
  cases y <;> first|exact this|exact this.elim
 ·rename_i cs
  obtain⟨ws,rfl,hw⟩:=hg
  refine⟨#[.agg ws.toArray],#[],.agg ws.toArray::vs,rfl,by simp,⟨ws,rfl,hw.mono fun a b hab=>?_⟩,ha⟩
  cases a <;> first|exact hab|exact hab.elim
theorem Y2g {imm:Bool} {m:MOp} {own':List Ch} {next:Act->World->Prop} {Q:Exit->Act->World->Prop} (h:Sat S Y s a w) (ht:Wnh S.P imm o.op=some m) (hv:Ev S m (evO s.fr) s.own v own')
  (hn:∀ a' w',Sat S Y ⟨Xbb s.fr o.dst v,own'⟩ a' w'->next a' w'):o.wpIn (Xhi Y.round) 0 S.P a w next Q:=by
 refine⟨fun _ _=>trivial,?_⟩
 obtain⟨H,an,F,ms,h⟩:=h
 have hnd:∀ c,o.op≠.defer c:=fun c e=>by rw[e] at ht;simp[Wnh,Yj3] at ht
 rw[Oper.semAt_eq _ _ _ hnd]
 generalize ho:o.op=op at ht
 unfold Wnh at ht
 split at ht
 ·rename_i f args tys
  cases ht
  have:(execOp a.eval o).run S.P w=(callFunc f (args.toList.map a.eval).toArray).run S.P w:=by
   unfold execOp
   simp only[ho,resolve,Act.eval,Deferred.ofValue,Sem.run_bind,Sem.run_pure,Result.andThen_ok,invoke]
   congr 2
   apply Array.ext'
   simp
  rw[this]
  rcases hv with ⟨rfl,hc⟩|⟨j,v0,c',rfl,rfl,hc⟩|⟨own1,rfl,_,hc⟩
  ·exact Xl3 h hc (by rw[List.map_map];exact Xju h _) hn
  ·exact Xkl h hc (by rw[List.map_map];exact Xju h _) hn
  ·exact Xkm h hc (by rw[List.map_map];exact Xju h _) hn
 ·rename_i g args tys hng
  cases ht
  rcases hv with ⟨f,l,hl,hv⟩|⟨l,own1,b,hg,rfl,hle,rfl,hr⟩
  case inr =>
   have hu:a.eval g=.func (.yield l) #[] #[]:=by
    have this:=h.ev g
    rw[hg] at this
    have this:Den H (.raw (.func (.yield l) #[] #[])) (a.eval g):=this
    generalize a.eval g=u at this
    cases this
    rfl
   have:(execOp a.eval o).run S.P w=(Instr.yield l (args.toList.map a.eval).toArray).run S.P w:=by
    unfold execOp
    simp only[ho,resolve,hu,Deferred.ofValue,Sem.run_bind,Sem.run_pure,Result.andThen_ok,invoke]
    congr 2
    apply Array.ext'
    simp
   rw[this]
   exact Xq1 h hr (by rw[List.map_map];exact Xju h _) hn
  obtain⟨first,caps,us,hu,hus,hd⟩:=Xn8 (x:=.un) (h.ev g) (by rw[List.map_map];exact Xju h args.toList) hl
  have:(execOp a.eval o).run S.P w=(callFunc f us.toArray).run S.P w:=by
   unfold execOp
   simp only[ho,resolve,hu,Deferred.ofValue,Sem.run_bind,Sem.run_pure,Result.andThen_ok,invoke]
   rw[<- hus]
   congr 3
   apply Array.ext'
   simp
  rw[this]
  rcases hv with ⟨rfl,hc⟩|⟨j,v0,c',rfl,rfl,_,hc⟩|⟨own1,rfl,_,hc⟩
  ·exact Xl3 h hc hd hn
  ·exact Xkl h hc hd hn
  ·exact Xkm h hc hd hn
 ·rw[<- ho] at ht
  exact Xs9 (Y2c h ht hv) hn
end
end Go.Fw
namespace Go.Fw
open Go
section
variable {S:Sx} {ev ev':Opd->V}
theorem Xn9:∀ (ps:List (Nat × Nat × Opd)) (z:List A),(∀ p∈ps,ev' p.2.2=ev p.2.2)->X1x ev' z ps=X1x ev z ps
 | [],_,_=>rfl
 | (off,n,x)::l,z,h=>by
  have h0:ev' x=ev x:=h (off,n,x) (by simp)
  simp only[X1x,h0]
  split
  ·exact Xn9 l _ fun p hp=>h p (by simp[hp])
  ·rfl
theorem Xjv (sz:Nat):∀ (ps:List (Nat × Opd)) (z:List (List D)),(∀ p∈ps,ev' p.2=ev p.2)->Xsq ev' sz z ps=Xsq ev sz z ps
 | [],_,_=>rfl
 | (i,x)::l,z,h=>by
  have h0:ev' x=ev x:=h (i,x) (by simp)
  simp only[Xsq,h0]
  split
  ·split
   ·exact Xjv sz l _ fun p hp=>h p (by simp[hp])
   ·rfl
  ·rfl
theorem Xgv {α:Type} {f g:α->Bool}:∀ l:List α,(∀ x∈l,f x=g x)->l.all f=l.all g
 | [],_=>rfl
 | x::l,h=>by simp[h x (by simp),Xgv l fun y hy=>h y (by simp[hy])]
theorem Xhb {l:List Opd} (h:∀ x∈l,ev' x=ev x):l.map ev'=l.map ev:=List.map_congr_left h
theorem Xdj {o:Option Opd} {d n:Nat} (h:∀ x∈Ysm o,ev' x=ev x):Xaw ev' o d n=Xaw ev o d n:=by
 cases o with
 | none=>rfl
 | some x=>simp only[Xaw,h x (by simp[Ysm])]
theorem Xo6 {o:MOp} {own own':List Ch} {v:V} (h:∀ x∈o.opds,ev' x=ev x):Ev S o ev' own v own'=Ev S o ev own v own':=by
 cases o with
 | build z ps =>
  have h':∀ p∈ps,ev' p.2.2=ev p.2.2:=fun p hp=>h p.2.2 (List.mem_map_of_mem hp)
  simp only[Ev,Xn9 ps _ h',Xgv (f:=fun p=>(ev' p.2.2).ok) (g:=fun p=>(ev p.2.2).ok) ps fun p hp=>by simp only[h' p hp]]
 | bslice sz z n ps =>
  have h':∀ p∈ps,ev' p.2=ev p.2:=fun p hp=>h p.2 (List.mem_map_of_mem hp)
  simp only[Ev,Xjv sz ps _ h',Xgv (f:=fun p=>(ev' p.2).ok) (g:=fun p=>(ev p.2).ok) ps fun p hp=>by simp only[h' p hp]]
 | bslO sz z n ps =>
  have h':∀ p∈ps,ev' p.2=ev p.2:=fun p hp=>h p.2 (List.mem_map_of_mem hp)
  simp only[Ev,Xjv sz ps _ h',Xgv (f:=fun p=>(ev' p.2).ok) (g:=fun p=>(ev p.2).ok) ps fun p hp=>by simp only[h' p hp]]
 | mkF f l=>simp only[Ev,Xhb (l:=l) h]
 | call f l=>simp only[Ev,Xhb (l:=l) h]
 | callv g l=>simp only[Ev,h g (by simp[MOp.opds]),Xhb (l:=l) fun x hx=>h x (by simp[MOp.opds,hx])]
 | slcS x lo hi =>
  have h1:∀ d n,Xaw ev' lo d n=Xaw ev lo d n:=fun d n=>Xdj fun x hx=>h x (by simp[MOp.opds,hx])
  have h2:∀ d n,Xaw ev' hi d n=Xaw ev hi d n:=fun d n=>Xdj fun x hx=>h x (by simp[MOp.opds,hx])
  simp only[Ev,h x (by simp[MOp.opds]),h1,h2]
 | slc sz x lo hi =>
  have h1:∀ d n,Xaw ev' lo d n=Xaw ev lo d n:=fun d n=>Xdj fun x hx=>h x (by simp[MOp.opds,hx])
  have h2:∀ d n,Xaw ev' hi d n=Xaw ev hi d n:=fun d n=>Xdj fun x hx=>h x (by simp[MOp.opds,hx])
  simp only[Ev,h x (by simp[MOp.opds]),h1,h2]
 | mv x=>simp only[Ev,h x (by simp[MOp.opds])]
 | pick c x y=>simp only[Ev,h c (by simp[MOp.opds]),h x (by simp[MOp.opds]),h y (by simp[MOp.opds])]
 | alloc z=>rfl
 | box x=>simp only[Ev,h x (by simp[MOp.opds])]
 | ibox x=>simp only[Ev,h x (by simp[MOp.opds])]
 | load n ag x=>simp only[Ev,h x (by simp[MOp.opds])]
 | ild n ag x=>simp only[Ev,h x (by simp[MOp.opds])]
 | strB x=>simp only[Ev,h x (by simp[MOp.opds])]
 | appF e sz bytes x y=>simp only[Ev,h x (by simp[MOp.opds]),h y (by simp[MOp.opds])]
 | callN f args=>simp only[Ev,Xhb (l:=args) fun x hx=>h x (by simpa [MOp.opds] using hx)]
 | cld n ag x=>simp only[Ev,h x (by simp[MOp.opds])]
 | iadD sz x i=>simp only[Ev,h x (by simp[MOp.opds]),h i (by simp[MOp.opds])]
 | slcR sz x lo hi =>
  have h1:∀ d n,Xaw ev' lo d n=Xaw ev lo d n:=fun d n=>Xdj fun x hx=>h x (by simp[MOp.opds,hx])
  have h2:∀ d n,Xaw ev' hi d n=Xaw ev hi d n:=fun d n=>Xdj fun x hx=>h x (by simp[MOp.opds,hx])
  simp only[Ev,h x (by simp[MOp.opds]),h1,h2]
 | holes ts=>simp only[Ev,Xgv (f:=fun t=>Wnv t.2 (ev' (.t t.1))) (g:=fun t=>Wnv t.2 (ev (.t t.1))) ts fun t ht=>by simp only[h (.t t.1) (List.mem_map_of_mem (f:=fun t:Nat × Nat=>Opd.t t.1) ht)]]
 | store n x y=>simp only[Ev,h x (by simp[MOp.opds]),h y (by simp[MOp.opds])]
 | fad off x=>simp only[Ev,h x (by simp[MOp.opds])]
 | iad sz x i=>simp only[Ev,h x (by simp[MOp.opds]),h i (by simp[MOp.opds])]
 | iadA len sz x i=>simp only[Ev,h x (by simp[MOp.opds]),h i (by simp[MOp.opds])]
 | idxS x i=>simp only[Ev,h x (by simp[MOp.opds]),h i (by simp[MOp.opds])]
 | len kd x=>simp only[Ev,h x (by simp[MOp.opds])]
 | bldN T e=>rfl
 | appS e x y=>simp only[Ev,h x (by simp[MOp.opds]),h y (by simp[MOp.opds])]
 | app e sz bytes x y=>simp only[Ev,h x (by simp[MOp.opds]),h y (by simp[MOp.opds])]
 | min x y=>simp only[Ev,h x (by simp[MOp.opds]),h y (by simp[MOp.opds])]
 | max x y=>simp only[Ev,h x (by simp[MOp.opds]),h y (by simp[MOp.opds])]
 | bin kd o x y=>simp only[Ev,h x (by simp[MOp.opds]),h y (by simp[MOp.opds])]
 | eqs neg ks x y=>simp only[Ev,h x (by simp[MOp.opds]),h y (by simp[MOp.opds])]
 | nilq kd neg x=>simp only[Ev,h x (by simp[MOp.opds])]
 | not x=>simp only[Ev,h x (by simp[MOp.opds])]
 | conv k x=>simp only[Ev,h x (by simp[MOp.opds])]
 | mkI t x=>simp only[Ev,h x (by simp[MOp.opds])]
 | mkMv f x=>simp only[Ev,h x (by simp[MOp.opds])]
 | mkM=>rfl
 | lkp ok z kag ks m k=>simp only[Ev,h m (by simp[MOp.opds]),h k (by simp[MOp.opds])]
 | mupd kag ks m k x=>simp only[Ev,h m (by simp[MOp.opds]),h k (by simp[MOp.opds]),h x (by simp[MOp.opds])]
 | mkS sz bytes z l=>simp only[Ev,h l (by simp[MOp.opds])]
 | ext x i=>simp only[Ev,h x (by simp[MOp.opds])]
 | rng x=>simp only[Ev,h x (by simp[MOp.opds])]
 | nxt x=>simp only[Ev,h x (by simp[MOp.opds])]
 | tas t ok z x=>simp only[Ev,h x (by simp[MOp.opds])]
 | nck x=>simp only[Ev,h x (by simp[MOp.opds])]
 | idxA len x i=>simp only[Ev,h x (by simp[MOp.opds]),h i (by simp[MOp.opds])]
 | cpy sz x y=>simp only[Ev,h x (by simp[MOp.opds]),h y (by simp[MOp.opds])]
def Xl4 (own own2:List Ch) (rs:List Nat):Prop:=∀ i∈rs,Xao own i≠.dead->Xao own2 i=Xao own i/\∀ k∈(Xao own i).refs,Xao own k≠.dead->Xao own2 k=Xao own k
variable {own own2:List Ch}
theorem Xl4.sub {rs ts:List Nat} (h:Xl4 own own2 rs) (k:∀ i∈ts,i∈rs):Xl4 own own2 ts:=fun i hi=>h i (k i hi)
theorem A.refs0_sub {x:A}:∀ i∈x.refs0,i∈x.refs:=by cases x <;> simp[A.refs0,A.refs]
theorem V.refs0_sub {x:V}:∀ i∈x.refs0,i∈x.refs:=by
 cases x with
 | one a=>exact A.refs0_sub
 | agg l =>
  intro i hi
  simp only[V.refs0,V.refs,List.mem_flatMap] at hi ⊢
  obtain⟨x,hx,hi⟩:=hi
  exact⟨x,hx,A.refs0_sub i hi⟩
 | tup l=>simp[V.refs0]
 | un=>simp[V.refs0]
theorem Xq2 {x:A} {y:D} (h:∀ k∈x.refs0,Xao own k≠.dead->Xao own2 k=Xao own k) (hl:Xll own x=some y):Xll own2 x=some y:=by
 cases x with
 | own j ver =>
  simp only[Xll] at hl ⊢
  split at hl
  ·rename_i sz ver' xs hc
   rw[h j (by simp[A.refs0]) (by rw[hc];simp),hc]
   exact hl
  ·cases hl
 | _=>exact hl
theorem Xkn:∀ {xs:List A} {ys:List D},(∀ k∈xs.flatMap A.refs,Xao own k≠.dead->Xao own2 k=Xao own k)->Xia own xs=some ys->Xia own2 xs=some ys
 | [],ys,_,h=>h
 | x::xs,ys,h,hl=>by
  simp only[Xia] at hl ⊢
  split at hl
  ·rename_i y r h1 h2
   rw[Xq2 (fun k hk=>h k (by simp only[List.flatMap_cons,List.mem_append];exact .inl (A.refs0_sub k hk))) h1,Xkn (fun i hi=>h i (by simp only[List.flatMap_cons,List.mem_append];exact .inr hi)) h2]
   exact hl
  ·cases hl
theorem Xl5 {x:A} {y:D} (h:Xl4 own own2 x.refs0) (hl:Xlm own x=some y):Xlm own2 x=some y:=by
 cases x with
 | own j ver =>
  simp only[Xlm] at hl ⊢
  split at hl
  ·rename_i sz ver' xs hc
   rw[(h j (by simp[A.refs0]) (by rw[hc];simp)).1,hc]
   exact hl
  ·cases hl
 | ptr j off =>
  simp only[Xlm] at hl ⊢
  split at hl
  ·rename_i cs hc
   have hj:=h j (by simp[A.refs0]) (by rw[hc];simp)
   rw[hj.1,hc]
   rw[hc] at hj
   split at hl
   ·rename_i ds hds
    simp only[Xkn (own2:=own2) hj.2 hds]
    exact hl
   ·cases hl
  ·cases hl
 | _=>exact hl
theorem Xko:∀ {xs:List A} {ys:List D},Xl4 own own2 (xs.flatMap A.refs0)->Xgi own xs=some ys->Xgi own2 xs=some ys
 | [],ys,_,h=>h
 | x::xs,ys,h,hl=>by
  simp only[Xgi] at hl ⊢
  split at hl
  ·rename_i y r h1 h2
   rw[Xl5 (h.sub fun i hi=>by simp[hi]) h1,Xko (h.sub fun i hi=>by simp only[List.flatMap_cons,List.mem_append];exact .inr hi) h2]
   exact hl
  ·cases hl
theorem Xta {x y:V} (h:Xl4 own own2 x.refs0) (hl:Xln own x=some y):Xln own2 x=some y:=by
 cases x with
 | one a =>
  simp only[Xln] at hl ⊢
  split at hl
  ·rename_i z hz;rw[Xl5 h hz];exact hl
  ·cases hl
 | agg l =>
  simp only[Xln] at hl ⊢
  split at hl
  ·rename_i z hz;rw[Xko h hz];exact hl
  ·cases hl
 | tup l=>exact hl
 | un=>exact hl
theorem Xl6:∀ {xs ys:List V},Xl4 own own2 (xs.flatMap V.refs0)->Xhz own xs=some ys->Xhz own2 xs=some ys
 | [],ys,_,h=>h
 | x::xs,ys,h,hl=>by
  simp only[Xhz] at hl ⊢
  split at hl
  ·rename_i y r h1 h2
   rw[Xta (h.sub fun i hi=>by simp[hi]) h1,Xl6 (h.sub fun i hi=>by simp only[List.flatMap_cons,List.mem_append];exact .inr hi) h2]
   exact hl
  ·cases hl
theorem Xl7 {f:FuncId} {xs:List V} {v:V} (h:Xl4 own own2 (xs.flatMap V.refs0)) (hc:Xst S f xs own v):Xst S f xs own2 v:=by
 obtain⟨l,hl,h1,h2⟩:=hc
 exact⟨l,Xl6 h hl,h1,h2⟩
theorem Xkp {g:V} {args l:List V} {f:FuncId} (h:Xgr g args=some (f,l)):∀ i∈l.flatMap V.refs0,i∈g.refs\/i∈args.flatMap V.refs0:=by
 unfold Xgr at h
 split at h <;> cases h
 ·intro i hi
  rw[List.flatMap_append,List.mem_append] at hi
  rcases hi with hi|hi
  ·exact .inr hi
  ·simp only[List.mem_flatMap,List.mem_map] at hi
   obtain⟨_,⟨x,_,rfl⟩,hi⟩:=hi
   simp[V.refs0,A.refs0] at hi
 ·intro i hi
  simp only[List.flatMap_cons,List.mem_append] at hi
  rcases hi with hi|hi
  ·simp[V.refs0,A.refs0] at hi
  ·exact .inr hi
 ·rename_i cs
  intro i hi
  simp only[List.flatMap_cons,List.mem_append] at hi
  rcases hi with hi|hi
  ·simp only[V.refs0,List.mem_flatMap,List.mem_map] at hi
   obtain⟨_,⟨x,_,rfl⟩,hi⟩:=hi
   simp[A.refs0] at hi
  ·exact .inr hi
 ·rename_i caps
  intro i hi
  rw[List.flatMap_append,List.mem_append] at hi
  rcases hi with hi|hi
  ·exact .inr hi
  ·simp only[List.mem_flatMap,List.mem_map] at hi
   obtain⟨_,⟨x,hx,rfl⟩,hi⟩:=hi
   exact .inl (List.mem_flatMap.2 ⟨x,hx,hi⟩)
 ·rename_i x
  intro i hi
  simp only[List.flatMap_cons,List.mem_append] at hi
  rcases hi with hi|hi
  ·exact .inl (by simpa [V.refs,A.refs,V.refs0] using hi)
  ·exact .inr hi
 ·rename_i cs
  intro i hi
  simp only[List.flatMap_cons,List.mem_append] at hi
  rcases hi with hi|hi
  ·exact .inl (by simpa [V.refs,A.refs,V.refs0] using hi)
  ·exact .inr hi
theorem X0i {kd:Leaf} {x v:V} (h:Xl4 own own2 x.refs) (hl:X1y kd x.nrm own v):X1y kd x.nrm own2 v:=by
 unfold X1y at hl ⊢
 have hn:∀ j ver,x.nrm=.one (.own j ver)->j∈x.refs:=by
  intro j ver e
  cases x with
  | one a =>
   cases a <;> simp[V.nrm,A.nrm] at e
   simp[V.refs,A.refs,A.refs0,e.1]
  | _=>simp[V.nrm] at e
 split at hl
 ·exact hl
 ·exact hl
 ·rename_i j ver e
  split at hl
  ·rename_i sz ver' xs hc
   rw[(h j (hn j ver e) (by rw[hc];simp)).1,hc]
   exact hl
  ·rename_i te ver' bs hc
   rw[(h j (hn j ver e) (by rw[hc];simp)).1,hc]
   exact hl
  ·exact hl.elim
 ·rename_i j e
  split at hl
  ·rename_i es hc
   rw[(h j (hn j 0 e) (by rw[hc];simp)).1,hc]
   exact hl
  ·exact hl.elim
 ·exact hl.elim
theorem Xq3:∀ (l:List Ch) (j:Nat),Xbx l j (Xao l j)=l
 | [],_=>rfl
 | _::_,0=>rfl
 | c::l,j+1=>by simp[Xbx,Xao,Xq3 l j]
theorem Xo7:∀ (l:List Ch) (j:Nat) (c:Ch),j < l.length->Xao (l.set j c) j=c
 | [],_,_,h=>by simp at h
 | _::_,0,_,_=>rfl
 | _::l,j+1,c,h=>Xo7 l j c (by simpa using h)
theorem Y2h {c:Ch} (h:c.live=true):c≠.dead:=fun e=>by rw[e] at h;cases h
theorem Xl8 {f:FuncId} {args:List V} {j:Nat} {v0:V} {c':Ch} (ho:own=Xbx own j c') (hc:Xsu S f args own j v0 c') (ha:Xao own j≠.dead->Xao own2 j=Xao own j) :
  own2=Xbx own2 j c'/\Xsu S f args own2 j v0 c':=by
 obtain⟨l,h1,h2,h3,h4,h5,h6,h7⟩:=hc
 have hne:=Y2h h3
 have hg:=ha hne
 have hlt:=(List.getElem?_eq_some_iff.1 (Xax rfl hne)).1
 have hc':c'=Xao own j:=by
  have:Xao own j=Xao (Xbx own j c') j:=by rw[<- ho]
  rw[Xam,Xo7 _ _ _ hlt] at this
  exact this.symm
 refine⟨?_,l,h1,h2,by rw[hg];exact h3,by rw[hg];exact h4,h5,h6,by rw[hg];exact h7⟩
 rw[hc',<- hg,Xq3]
theorem Ykx {o:MOp} {ev:Opd->V} {v:V} (hk:Xeb o=.read\/Xeb o=.free) (h:Xl4 own own2 (o.opds.flatMap fun x=>(ev x).refs)) (hv:Ev S o ev own v own):Ev S o ev own2 v own2:=by
 have hsub:∀ x∈o.opds,Xl4 own own2 (ev x).refs:=fun x hx=>h.sub fun i hi=>List.mem_flatMap.2 ⟨x,hx,hi⟩
 cases o with
 | slcR sz x lo hi=>rcases hk with hk|hk <;> cases hk
 | cld n ag x=>rcases hk with hk|hk <;> cases hk
 | holes n=>rcases hk with hk|hk <;> cases hk
 | load n ag x =>
  obtain⟨_,h1,hv⟩:=hv
  refine⟨rfl,h1,?_⟩
  have hx:=hsub x (by simp[MOp.opds])
  split at hv
  ·rename_i i off e
   rw[e] at hx
   split at hv
   ·rename_i cs hc
    rw[(hx i (by simp[V.refs,A.refs,A.refs0]) (by rw[hc];simp)).1,hc]
    exact hv
   ·exact hv.elim
  ·exact hv
  ·rename_i i ver sz e off e'
   rw[e'] at hx
   split at hv
   ·rename_i sz' ver' xs hc
    rw[(hx i (by simp[V.refs,A.refs,A.refs0]) (by rw[hc];simp)).1,hc]
    exact hv
   ·rename_i sz' ver' xs hc
    rw[(hx i (by simp[V.refs,A.refs,A.refs0]) (by rw[hc];simp)).1,hc]
    exact hv
   ·exact hv.elim
  ·exact hv
  ·exact hv.elim
 | lkp ok z kag ks m k =>
  obtain⟨_,r,u,hm,hv⟩:=hv
  refine⟨rfl,r,u,?_,hv⟩
  have hx:=hsub m (by simp[MOp.opds])
  split at hm
  ·rename_i j e
   rw[e] at hx
   split at hm
   ·rename_i es hc
    rw[(hx j (by simp[V.refs,A.refs,A.refs0]) (by rw[hc];simp)).1,hc]
    exact hm
   ·exact hm.elim
  ·exact hm
  ·exact hm.elim
 | iad sz x i =>
  obtain⟨_,hv⟩:=hv
  refine⟨rfl,?_⟩
  have hx:=hsub x (by simp[MOp.opds])
  split at hv
  ·exact hv
  ·rename_i j ver k n e e2
   rw[e] at hx
   split at hv
   ·rename_i sz' ver' xs hc
    rw[(hx j (by simp[V.refs,A.refs,A.refs0]) (by rw[hc];simp)).1,hc]
    exact hv
   ·rename_i sz' ver' xs hc
    rw[(hx j (by simp[V.refs,A.refs,A.refs0]) (by rw[hc];simp)).1,hc]
    exact hv
   ·exact hv.elim
  ·exact hv.elim
 | slc sz x lo hi =>
  have hx:=hsub x (by simp[MOp.opds])
  simp only[Ev] at hv ⊢
  split at hv
  ·simpa using hv
  ·rename_i j ver e
   split at hv
   ·rename_i sz' ver' xs hc
    obtain⟨rfl,rfl,l,q,_,_,_,_,ho,_⟩:=hv
    exfalso
    have:Xao own j=Xao (Xbx own j (.row sz' (ver'+1) ((xs.take q).drop l))) j:=by rw[<- ho]
    rw[Xam] at this
    have hj:=Xax hc (by simp)
    have hlt:=(List.getElem?_eq_some_iff.1 hj).1
    have h2:∀ (l:List Ch) (j:Nat) (c:Ch),j < l.length->Xao (l.set j c) j=c:=by
     intro l
     induction l with
     | nil=>intro j c h;simp at h
     | cons x l ih =>
      intro j c h
      cases j with
      | zero=>rfl
      | succ j=>exact ih j c (by simpa using h)
    rw[h2 own j _ hlt,hc] at this
    injection this with _ h3 _
    omega
   ·exact hv.elim
  ·exact hv.elim
 | len kd x=>exact⟨rfl,X0i (hsub x (by simp[MOp.opds])) hv.2⟩
 | call f l =>
  rcases hv with ⟨_,hv⟩|⟨j,v0,c',ho,rfl,hc⟩|⟨own1,ho,hle,_⟩
  ·refine .inl ⟨rfl,Xl7 ?_ hv⟩
   intro i hi hd
   simp only[List.mem_flatMap,List.mem_map] at hi
   obtain⟨_,⟨x,hx,rfl⟩,hi⟩:=hi
   exact hsub x hx i (V.refs0_sub i hi) hd
  ·obtain⟨g1,g2⟩:=Xl8 (own2:=own2) ho hc fun hd=>by
    have hj:=hc.choose_spec.2.1
    rw[List.contains_iff_mem] at hj
    simp only[List.mem_flatMap,List.mem_map] at hj
    obtain⟨_,⟨x,hx,rfl⟩,hj⟩:=hj
    exact (hsub x hx j hj hd).1
   exact .inr (.inl ⟨j,v0,c',g1,rfl,g2⟩)
  ·have:=congrArg List.length ho;simp at this;omega
 | callv g l =>
  rcases hv with ⟨f,m,hm,hv⟩|⟨_,own1,_,_,ho,hle,_⟩
  case inr=>have:=congrArg List.length ho;simp at this;omega
  refine .inl ⟨f,m,hm,?_⟩
  rcases hv with ⟨_,hc⟩|⟨j,v0,c',ho,rfl,hj,hc⟩|⟨own1,ho,hle,_⟩
  ·refine .inl ⟨rfl,Xl7 ?_ hc⟩
   intro i hi hd
   rcases Xkp hm i hi with h1|h1
   ·exact hsub g (by simp[MOp.opds]) i h1 hd
   ·simp only[List.mem_flatMap,List.mem_map] at h1
    obtain⟨_,⟨x,hx,rfl⟩,h1⟩:=h1
    exact hsub x (by simp[MOp.opds,hx]) i (V.refs0_sub i h1) hd
  ·obtain⟨g1,g2⟩:=Xl8 (own2:=own2) ho hc fun hd=>by
    rw[List.contains_iff_mem] at hj
    rcases Xkp hm j hj with h1|h1
    ·exact (hsub g (by simp[MOp.opds]) j h1 hd).1
    ·simp only[List.mem_flatMap,List.mem_map] at h1
     obtain⟨_,⟨x,hx,rfl⟩,h1⟩:=h1
     exact (hsub x (by simp[MOp.opds,hx]) j (V.refs0_sub j h1) hd).1
   exact .inr (.inl ⟨j,v0,c',g1,rfl,hj,g2⟩)
  ·have:=congrArg List.length ho;simp at this;omega
 | alloc z=>rcases hk with hk|hk <;> cases hk
 | box x=>rcases hk with hk|hk <;> cases hk
 | mkM=>rcases hk with hk|hk <;> cases hk
 | mkS sz bytes z l=>rcases hk with hk|hk <;> cases hk
 | store n x y=>rcases hk with hk|hk <;> cases hk
 | mupd kag ks m k x=>rcases hk with hk|hk <;> cases hk
 | rng x=>rcases hk with hk|hk <;> cases hk
 | nxt x=>rcases hk with hk|hk <;> cases hk
 | bldN T e=>rcases hk with hk|hk <;> cases hk
 | appS e x y=>rcases hk with hk|hk <;> cases hk
 | app e sz bytes x y=>rcases hk with hk|hk <;> cases hk
 | callN f args=>rcases hk with hk|hk <;> cases hk
 | appF e sz bytes x y=>rcases hk with hk|hk <;> cases hk
 | bslO sz z n ps=>rcases hk with hk|hk <;> cases hk
 | cpy sz x y=>rcases hk with hk|hk <;> cases hk
 | mv x=>exact⟨hv.1,rfl⟩
 | ibox x=>exact⟨hv.1,rfl,hv.2.2⟩
 | _=>exact⟨rfl,hv.2⟩
theorem X2r {o:MOp} {ev:Opd->V} {v:V} (hk:Xeb o=.free) (hv:Ev S o ev own v own):Ev S o ev own2 v own2:=by
 cases o with
 | mv x=>exact⟨hv.1,rfl⟩
 | ibox x=>exact⟨hv.1,rfl,hv.2.2⟩
 | _=>first|(cases hk;done)|exact⟨rfl,hv.2⟩
theorem Yky {o:MOp} {ev:Opd->V} {v:V} (hk:Xeb o=.cread) (h:∀ i cs,i∈(o.opds.flatMap fun x=>(ev x).refs)->Xao own i=.cells cs->Xao own2 i=.cells cs) (hv:Ev S o ev own v own):Ev S o ev own2 v own2:=by
 cases o with
 | cld n ag x =>
  obtain⟨_,h1,hv⟩:=hv
  refine⟨rfl,h1,?_⟩
  split at hv
  ·rename_i i off e
   split at hv
   ·rename_i cs hc
    rw[h i cs (by simp[MOp.opds,e,V.refs,A.refs,A.refs0]) hc]
    exact hv
   ·exact hv.elim
  ·exact hv
  ·exact hv.elim
 | _=>cases hk
theorem Y2i {o:MOp} {ev:Opd->V} {v:V} {own':List Ch} (hk:Xeb o=.rapp) (hv:Ev S o ev own v own'):∀ i cs,Xao own i=.cells cs->Xao own' i=.cells cs:=by
 intro i cs hi
 have hset:∀ (l:List Ch) (j:Nat) (c:Ch) (i:Nat),i≠j->Xao (Xbx l j c) i=Xao l i:=by
  intro l
  induction l with
  | nil=>intro j c i _;rfl
  | cons a l ih=>intro j c i hij;cases j with
   | zero=>cases i with
    | zero=>exact absurd rfl hij
    | succ i=>rfl
   | succ j=>cases i with
    | zero=>rfl
    | succ i=>exact ih j c i (by omega)
 cases o with
 | slcR sz x lo hi' =>
  simp only[Ev] at hv
  split at hv
  ·rename_i j ver _
   split at hv
   ·rename_i sz' ver' xs hc
    obtain⟨_,_,l,h,_,_,_,_,e,_⟩:=hv
    rw[e,hset _ _ _ _ (fun e=>by subst e;rw[hi] at hc;cases hc)]
    exact hi
   ·exact hv.elim
  ·exact hv.elim
 | app e sz bytes x y =>
  have hlt:i < own.length:=by
   have:∀ (l:List Ch) (i:Nat),Xao l i=.cells cs->i < l.length:=by
    intro l
    induction l with
    | nil=>intro i h;cases h
    | cons c l ih=>intro i h;cases i with
     | zero=>simp
     | succ i=>have:=ih i h;simp;omega
   exact this own i hi
  have happ:∀ (l m:List Ch) (i:Nat),i < l.length->Xao (l++m) i=Xao l i:=by
   intro l
   induction l with
   | nil=>intro m i h;simp at h
   | cons a l ih=>intro m i h;cases i with
    | zero=>rfl
    | succ i=>exact ih m i (by simpa using h)
  simp only[Ev] at hv
  split at hv
  ·obtain⟨_,hv⟩:=hv
   split at hv
   ·rw[hv.2.2.2.1,happ _ _ _ hlt];exact hi
   ·rename_i j ver _
    split at hv
    ·rename_i sz' ver' xs hc
     rw[hv.2.2.2.2.1,hset _ _ _ _ (fun e=>by subst e;rw[hi] at hc;cases hc)]
     exact hi
    ·rename_i e' ver' bs hc
     obtain⟨_,_,_,_,_,cs,_,h6,_⟩:=hv
     rw[h6,hset _ _ _ _ (fun e=>by subst e;rw[hi] at hc;cases hc)]
     exact hi
    ·exact hv.elim
   ·exact hv.elim
  ·exact hv.elim
 | appF e sz bytes x y =>
  simp only[Ev] at hv
  split at hv
  ·rename_i j ver _ _
   split at hv
   ·rename_i sz' ver' xs hc
    rw[hv.2.2.2.2.2.1,hset _ _ _ _ (fun e=>by subst e;rw[hi] at hc;cases hc)]
    exact hi
   ·exact hv.elim
  ·exact hv.elim
 | _=>cases hk
def Xuz (o o':MOp):Prop:=o'=o\/(∃ n ag x,o=.load n ag x/\(o'=.ild n ag x\/o'=.cld n ag x))\/(∃ n x i,o=.iad n x i/\o'=.iadD n x i)\/(∃ n x lo hi,o=.slc n x lo hi/\o'=.slcR n x lo hi)\/(∃ f args,o=.call f args/\o'=.callN f args)\/∃ e n b x y,o=.app e n b x y/\o'=.appF e n b x y
theorem Xuz.toEv {o o':MOp} (h:Xuz o o') (hne:∀ e n b x y,o'≠.appF e n b x y) {ev:Opd->V} {v:V} {own':List Ch} (hv:Ev S o' ev own v own'):Ev S o ev own v own':=by
 rcases h with rfl|⟨n,ag,x,rfl,rfl|rfl⟩|⟨n,x,i,rfl,rfl⟩|⟨n,x,lo,hi,rfl,rfl⟩|⟨f,args,rfl,rfl⟩|⟨e,n,b,x,y,rfl,rfl⟩
 ·exact hv
 ·simp only[Ev] at hv ⊢
  obtain⟨h1,h2,h3⟩:=hv
  refine⟨h1,h2,?_⟩
  split at h3
  ·rename_i cs e;simp only[e];exact h3
  ·exact h3.elim
 ·simp only[Ev] at hv ⊢
  obtain⟨h1,h2,h3⟩:=hv
  refine⟨h1,h2,?_⟩
  split at h3
  ·rename_i i off e
   simp only[e]
   split at h3
   ·rename_i cs hc;exact h3
   ·exact h3.elim
  ·rename_i cs e;simp only[e];exact h3
  ·exact h3.elim
 ·simp only[Ev] at hv ⊢
  obtain⟨h1,h3⟩:=hv
  refine⟨h1,?_⟩
  split at h3
  ·rename_i xs k m e1 e2;simp only[e1,e2];exact h3
  ·exact h3.elim
 ·simp only[Ev] at hv ⊢
  split at hv
  ·rename_i j ver e
   simp only[e,V.nrm,A.nrm]
   split at hv
   ·exact hv
   ·exact hv.elim
  ·exact hv.elim
 ·obtain⟨own1,h1,v0,post,h2,h3,h4⟩:=hv
  exact .inr (.inr ⟨own1,h1,by rw[h4];simp,[],v0,post,h2,h3,h4⟩)
 ·exact absurd rfl (hne _ _ _ _ _)
theorem Xuz.call {o:MOp} {f:FuncId} {args:List Opd} (h:Xuz o (.call f args)):o=.call f args:=by
 rcases h with h|⟨_,_,_,_,h|h⟩|⟨_,_,_,_,h⟩|⟨_,_,_,_,_,h⟩|⟨_,_,_,h⟩|⟨_,_,_,_,_,_,h⟩ <;> first|exact h.symm|cases h
theorem Xuz.app {o:MOp} {e:TypeId} {n b:Nat} {x y:Opd} (h:Xuz o (.app e n b x y)):o=.app e n b x y:=by
 rcases h with h|⟨_,_,_,_,h|h⟩|⟨_,_,_,_,h⟩|⟨_,_,_,_,_,h⟩|⟨_,_,_,h⟩|⟨_,_,_,_,_,_,h⟩ <;> first|exact h.symm|cases h
theorem Xuz.appF {o:MOp} {e:TypeId} {n b:Nat} {x y:Opd} (h:Xuz o (.appF e n b x y)) (hne:o≠.appF e n b x y):o=.app e n b x y:=by
 rcases h with h|⟨_,_,_,_,h|h⟩|⟨_,_,_,_,h⟩|⟨_,_,_,_,_,h⟩|⟨_,_,_,h⟩|⟨_,_,_,_,_,h0,h⟩ <;> first|exact absurd h.symm hne|(cases h;exact h0)|cases h
theorem Ykz (cl:Bool) (ds:List Nat) (o:MOp):Xuz o (rfO cl ds o).1:=by
 unfold rfO
 split
 ·split
  ·exact .inr (.inl ⟨_,_,_,rfl,.inl rfl⟩)
  ·cases cl
   ·exact .inl rfl
   ·exact .inr (.inl ⟨_,_,_,rfl,.inr rfl⟩)
 ·split
  ·exact .inr (.inr (.inl ⟨_,_,_,rfl,rfl⟩))
  ·exact .inl rfl
 ·cases cl
  ·exact .inl rfl
  ·exact .inr (.inr (.inr (.inl ⟨_,_,_,_,rfl,rfl⟩)))
 ·exact .inl rfl
 ·exact .inl rfl
 ·exact .inl rfl
def Ysr (rs0 rs:List Rc):Prop:=rs.length=rs0.length/\∀ (i:Nat) (r:Rc),rs[i]?=some r->∃ r0,rs0[i]?=some r0/\r0.g=r.g/\r0.d=r.d/\Xuz r0.o r.o
theorem Ysr.refl (rs:List Rc):Ysr rs rs:=⟨rfl,fun _ r h=>⟨r,h,rfl,rfl,.inl rfl⟩⟩
theorem X2s (cl:Bool):∀ (rs:List Rc) (ds:List Nat),Ysr rs (rfD cl ds rs)
 | [],_=>Ysr.refl []
 | r::l,ds=>by
  obtain⟨h1,h2⟩:=X2s cl l (if (rfO cl ds r.o).2 then W66 r.d ds else ds)
  refine⟨by simp[rfD,h1],fun i x hx=>?_⟩
  cases i with
  | zero=>simp[rfD] at hx;subst hx;exact⟨r,rfl,rfl,rfl,Ykz cl ds r.o⟩
  | succ i=>simpa using h2 i x (by simpa [rfD] using hx)
theorem Yk0 {r0 r:Rc} {hs:List Nat} (h:r0.g=r.g/\r0.d=r.d/\Xuz r0.o r.o):r0.g=(Wnt hs r).g/\r0.d=(Wnt hs r).d/\Xuz r0.o (Wnt hs r).o:=by
 unfold Wnt
 split
 ·rename_i t f args e1 e2
  split
  ·refine⟨h.1,h.2.1,?_⟩
   rw[e2] at h
   exact .inr (.inr (.inr (.inr (.inl ⟨f,args,h.2.2.call,rfl⟩))))
  ·exact h
 ·rename_i t e n b x y e1 e2
  split
  ·refine⟨h.1,h.2.1,?_⟩
   rw[e2] at h
   exact .inr (.inr (.inr (.inr (.inr ⟨e,n,b,x,y,h.2.2.app,rfl⟩))))
  ·exact h
 ·exact h
theorem Y2j (hs:List Nat) (rs:List Rc):Ysr rs (rfH hs rs):=by
 have h0:Ysr rs (W33 hs rs):=by
  unfold W33
  split
  ·exact X2s _ _ _
  ·exact Ysr.refl _
 refine⟨by unfold rfH;rw[List.length_map];exact h0.1,fun i r hr=>?_⟩
 unfold rfH at hr
 rw[List.getElem?_map] at hr
 obtain⟨r1,hr1,rfl⟩:=Option.map_eq_some_iff.1 hr
 obtain⟨r0,h1,h2⟩:=h0.2 i r1 hr1
 exact⟨r0,h1,Yk0 h2⟩
theorem Yk1 {o:MOp} {ev:Opd->V} {v:V} {own':List Ch} (hk:Xeb o=.alloc) (hv:Ev S o ev own v own'):∃ e,own'=own++e:=by
 cases o <;> first|(cases hk;done)|skip
 ·exact⟨_,hv.1⟩
 ·exact⟨_,hv.2.2.1⟩
 ·exact⟨_,hv.1⟩
 ·simp only[Ev] at hv
  split at hv
  ·exact⟨_,hv.2.2.2.2.2.1⟩
  ·exact hv.elim
 ·obtain⟨_,h1,_,_,_,_,h2⟩:=hv
  exact⟨_,by rw[h1,h2,List.append_assoc]⟩
theorem Xu0 {o:MOp} {ev:Opd->V} {v:V} {own':List Ch} (hk:Xeb o=.read\/Xeb o=.free\/Xeb o=.cread) (hq:Xsw o=true->own'=own) (hv:Ev S o ev own v own'):own'=own:=by
 cases o <;> first|(rcases hk with hk|hk|hk <;> cases hk;done)|exact hv.1|exact hq rfl|exact hv.2|exact hv.2.1
end
end Go.Fw
namespace Go.Fw
open Go
section
variable {S:Sx} {Y:Dyn} {s:St} {a:Act} {w:World} {H:Xal} {an:Anc} {F:Nat->Nat->Prop} {ms:List Nat} {j:Nat}
open Classical in
noncomputable def Xdl (f:Nat->Prop) (w:World) (H:Xal):Xal:=fun b=>if f b then w.heap[b]? else H b
theorem Xf5 (h:SatX S Y s a w H an F ms):Xal.Le H (Xdl (F j) w H):=fun b o hb=>by
 unfold Xdl
 split
 ·rename_i hx;rw[(h.fp j b hx).2.1] at hb;cases hb
 ·exact hb
theorem Xgw (h:SatX S Y s a w H an F ms):Xdm w (Xdl (F j) w H):=fun b o hb=>by
 unfold Xdl at hb
 split at hb
 ·exact hb
 ·exact h.mod b o hb
theorem Xil {b:Nat} (hF:F j b):Xdl (F j) w H b=w.heap[b]?:=by
 unfold Xdl;rw[if_pos hF]
theorem SatX.freeze_at (h:SatX S Y s a w H an F ms) (j:Nat):SatX S Y ⟨s.fr,s.own.set j .dead⟩ a w (Xdl (F j) w H) an (fun i b=>i≠j/\F i b) ms :=
 h.evolve (may:=fun _=>False) (own':=s.own.set j .dead) (F':=fun i b=>i≠j/\F i b) (WKeep.refl w _) (fun _ hb=>hb.elim) (Xf5 (j:=j) h) (Xgw h) (fun b o hb=>by
   unfold Xdl at hb
   split at hb
   ·rename_i hx;exact .inr (.inr ⟨j,hx⟩)
   ·exact .inl hb) (Anc.Le.refl _) (fun i=>by simp[h.anc i]) (fun i c hc=>by
   rw[List.getElem?_set] at hc
   split at hc
   ·rename_i e
    subst e
    split at hc
    ·rename_i hl
     cases hc
     obtain⟨p,hp⟩:=(h.anc j).2 hl
     exact⟨p,hp,fun b hb=>hb.1 rfl⟩
    ·cases hc
   ·rename_i e
    obtain⟨p,hp,hs⟩:=h.own i c hc
    have ef:(fun b=>i≠j/\F i b)=F i:=by funext b;simp[Ne.symm e]
    refine⟨p,hp,?_⟩
    rw[ef]
    exact hs.keep (w':=w) (Xf5 (j:=j) h) (Anc.Le.refl _) fun _ _=>rfl) (fun i b hb=>by
   obtain⟨g1,g2,g3⟩:=h.fp i b hb.2
   refine⟨by simpa using h.fl i b hb.2,g1,?_,.inr ⟨i,hb.2⟩⟩
   unfold Xdl
   rw[if_neg (fun hj=>hb.1 (h.dj i j b hb.2 hj))]
   exact g2) (fun i i' b hi hi'=>h.dj i i' b hi.2 hi'.2)
theorem X2t {α:Type} {l:List α} {i:Nat} {x:α} (h:l[i]?=some x):l.set i x=l:=by
 obtain⟨hi,rfl⟩:=List.getElem?_eq_some_iff.1 h
 exact List.set_getElem_self hi
theorem Xq4:∀ (l:List V) (t:Nat) (v u:V),Xfk (Xfk l t v) t u=Xfk l t u
 | [],_,_,_=>rfl
 | _::_,0,_,_=>rfl
 | x::l,t+1,v,u=>by simp[Xfk,Xq4 l t v u]
theorem Xl9:∀ (l:List V) (t:Nat) (v:V),¬ t < l.length->Xfk l t v=l
 | [],_,_,_=>rfl
 | _::_,0,_,h=>by simp at h
 | x::l,t+1,v,h=>by simp[Xfk,Xl9 l t v (by simpa using h)]
theorem Xu1:∀ (l:List V) (t:Nat) (v:V),t < l.length->Xbz (Xfk l t v) t=v
 | [],_,_,h=>by simp at h
 | _::_,0,_,_=>rfl
 | _::l,t+1,v,h=>Xu1 l t v (by simpa using h)
theorem Sat.frzRow {fr:List V} {own:List Ch} {d:Option Nat} {ver sz:Nat} {xs:List (List D)} (h:Sat S Y ⟨Xbb fr d (.one (.own j ver)),own⟩ a w) (hc:Xao own j=.row sz ver xs) :
  Sat S Y ⟨Xbb fr d (.one (.d (.sl xs))),own.set j .dead⟩ a w:=by
 obtain⟨H,an,F,ms,hs⟩:=h
 have h1:=hs.freeze_at j
 cases d with
 | none=>exact⟨_,an,_,ms,h1⟩
 | some t =>
  by_cases hl:t < fr.length
  ·have ht:Xbz (Xfk fr t (.one (.own j ver))) t=.one (.own j ver):=Xu1 _ _ _ hl
   obtain⟨u,hu,hd⟩:=hs.fr.get (Xbl _ _ _ ht (by simp))
   obtain⟨p,hp,hps,h0,hsz,hlen,h4⟩:=hs.row hc
   have hup:u=p:=Xdp hp hd
   have hle:=Xf5 (j:=j) hs
   have hden:Xa0 (Xdl (F j) w H) an (.one (.d (.sl xs))) u:=by
    show Den _ _ _
    rcases h4 with ⟨rfl,⟨A,rfl⟩,_⟩|⟨b,of,cap,vs,T,rfl,e2,e3,e4,e5,e6⟩
    ·rw[hup];exact Den.slE _ _
    ·rw[hup]
     exact Xej.row (cells:=vs) (T:=T) (fz:=(0,0)) h0 (by rw[Xil ((e2 b).2 rfl)];exact e3) hsz e4 hlen (Xej.mono hle e6)
   refine⟨_,an,_,ms,⟨h1.gp,h1.h0,h1.mod,?_,h1.anc,h1.own,h1.fl,h1.fp,h1.dj,h1.hn,h1.ub,h1.os,h1.tape,h1.output,h1.size,h1.df,h1.mks,h1.nd,h1.al,h1.npl,h1.ro⟩⟩
   have:=Xc4 _ a.tmps.toList t (.one (.d (.sl xs))) u h1.fr hden
   rw[X2t hu] at this
   have e:Xfk (Xbb fr (some t) (.one (.own j ver))) t (.one (.d (.sl xs)))=Xfk fr t (.one (.d (.sl xs))):=Xq4 _ _ _ _
   rwa [show (St.mk (Xbb fr (some t) (.one (.own j ver))) (own.set j .dead)).fr=Xbb fr (some t) (.one (.own j ver)) from rfl,e] at this
  ·have e1:Xbb fr (some t) (.one (.d (.sl xs)))=fr:=Xl9 _ _ _ hl
   have e2:Xbb fr (some t) (.one (.own j ver))=fr:=Xl9 _ _ _ hl
   rw[e1];rw[e2] at h1
   exact⟨_,an,_,ms,h1⟩
end
end Go.Fw
namespace Go.Fw
open Go
theorem Xo8:∀ (l:List V) (d:Nat) (v:V),(Xfk l d v).length=l.length
 | [],_,_=>rfl
 | _::_,0,_=>rfl
 | _::l,d+1,v=>by simp[Xfk,Xo8 l d v]
theorem Xim (l:List V) (d:Option Nat) (v:V):(Xbb l d v).length=l.length:=by cases d <;> simp[Xbb,Xo8]
theorem Xin:∀ (l:List V) (d:Nat) (v:V) (t:Nat),Xbz (Xfk l d v) t=if d=t/\t < l.length then v else Xbz l t
 | [],d,v,t=>by simp[Xfk,Xbz]
 | u::l,0,v,0=>by simp[Xfk,Xbz]
 | u::l,0,v,t+1=>by simp[Xfk,Xbz]
 | u::l,d+1,v,0=>by simp[Xfk,Xbz]
 | u::l,d+1,v,t+1=>by simp[Xfk,Xbz,Xin l d v t]
theorem Xe6 (l:List V) (d:Option Nat) (v:V) (t:Nat):Xbz (Xbb l d v) t=if d=some t/\t < l.length then v else Xbz l t:=by
 cases d with
 | none=>simp[Xbb]
 | some d=>simp[Xbb,Xin]
theorem Xma:∀ {l m:List V},l.length=m.length->(∀ t,Xbz l t=Xbz m t)->l=m
 | [],[],_,_=>rfl
 | x::l,y::m,h,k=>by
  have h0:x=y:=k 0
  have h1:l=m:=Xma (by simpa using h) fun t=>k (t+1)
  rw[h0,h1]
 | [],_::_,h,_=>by simp at h
 | _::_,[],h,_=>by simp at h
def frD:(Nat->Bool)->(Nat->V)->List Rc->List V->List V
 | _,_,[],fr=>fr
 | D,vs,r::rs,fr=>frD (fun i=>D (i+1)) (fun i=>vs (i+1)) rs (if D 0 then Xbb fr r.d (vs 0) else fr)
theorem Xh1:∀ (rs:List Rc) (D:Nat->Bool) (vs:Nat->V) (fr:List V),(frD D vs rs fr).length=fr.length
 | [],_,_,_=>rfl
 | r::rs,D,vs,fr=>by
  simp only[frD,Xh1 rs]
  split
  ·exact Xim _ _ _
  ·rfl
theorem Xjw:∀ (rs:List Rc) (D D':Nat->Bool) (vs:Nat->V) (fr fr':List V) (t:Nat),fr.length=fr'.length->Xbz fr t=Xbz fr' t ->
  (∀ i r,rs[i]?=some r->r.d=some t->D i=D' i)->Xbz (frD D vs rs fr) t=Xbz (frD D' vs rs fr') t
 | [],_,_,_,_,_,_,_,h,_=>h
 | r::rs,D,D',vs,fr,fr',t,hl,h,k=>by
  simp only[frD]
  refine Xjw rs _ _ _ _ _ t ?_ ?_ fun i r hi hr=>k (i+1) r (by simpa using hi) hr
  ·split <;> split <;> simp[Xim,hl]
  ·by_cases hr:r.d=some t
   ·have:=k 0 r rfl hr
    rw[<- this]
    split
    ·simp[Xe6,hr,hl,h]
    ·exact h
   ·split <;> split <;> simp[Xe6,hr,h]
theorem Xk3:∀ (rs:List Rc) (D:Nat->Bool) (vs:Nat->V) (fr:List V),(∀ i,D i=false)->frD D vs rs fr=fr
 | [],_,_,_,_=>rfl
 | r::rs,D,vs,fr,h=>by simp[frD,h 0,Xk3 rs _ _ fr fun i=>h (i+1)]
theorem X2u:∀ (rs:List Rc) (D:Nat->Bool) (vs:Nat->V) (fr:List V) (j:Nat) (r:Rc) (t:Nat),rs[j]?=some r->r.d=some t->D j=true->t < fr.length ->
  (∀ i r',rs[i]?=some r'->i≠j->r'.d≠some t)->Xbz (frD D vs rs fr) t=vs j
 | [],_,_,_,_,_,_,h,_,_,_,_=>by simp at h
 | q::rs,D,vs,fr,0,r,t,h,hr,hD,ht,k=>by
  simp at h;subst h
  simp only[frD,hD,if_true]
  have:Xbz (frD (fun i=>D (i+1)) (fun i=>vs (i+1)) rs (Xbb fr q.d (vs 0))) t=Xbz (frD (fun _=>false) (fun i=>vs (i+1)) rs (Xbb fr q.d (vs 0))) t :=
   Xjw rs _ _ _ _ _ t rfl rfl fun i r' hi hr'=>absurd hr' (k (i+1) r' (by simpa using hi) (by simp))
  rw[this,Xk3 _ _ _ _ fun _=>rfl,Xe6,if_pos ⟨hr,ht⟩]
 | q::rs,D,vs,fr,j+1,r,t,h,hr,hD,ht,k=>by
  simp only[frD]
  refine X2u rs _ _ _ j r t (by simpa using h) hr hD ?_ fun i r' hi hne=>k (i+1) r' (by simpa using hi) (by omega)
  split <;> simp[Xim,ht]
theorem X2v {rs:List Rc} {D D':Nat->Bool} {vs:Nat->V} {fr:List V} {j:Nat} {r:Rc} (hj:rs[j]?=some r) (hD:∀ i,i≠j->D' i=D i) (hD':D' j=true)
  (hd:∀ i r' t,rs[i]?=some r'->i≠j->r.d=some t->r'.d≠some t):frD D' vs rs fr=Xbb (frD D vs rs fr) r.d (vs j):=by
 refine Xma (by simp[Xh1,Xim]) fun t=>?_
 rw[Xe6,Xh1]
 by_cases hr:r.d=some t
 ·by_cases ht:t < fr.length
  ·rw[if_pos ⟨hr,ht⟩]
   exact X2u rs D' vs fr j r t hj hr hD' ht fun i r' hi hne=>hd i r' t hi hne hr
  ·rw[if_neg (fun h=>ht h.2)]
   have:∀ (l:List V) (t:Nat),¬ t < l.length->Xbz l t=.un:=by
    intro l
    induction l with
    | nil=>intro t _;rfl
    | cons x l ih=>intro t ht;cases t with
     | zero=>simp at ht
     | succ t=>exact ih t (by simpa using ht)
   rw[this _ _ (by rw[Xh1];exact ht),this _ _ (by rw[Xh1];exact ht)]
 ·rw[if_neg (fun h=>hr h.1)]
  refine Xjw rs _ _ _ _ _ t rfl rfl fun i r' hi hr'=>hD i ?_
  intro e;subst e;rw[hj] at hi;cases hi;exact hr hr'
section
variable {S:Sx} {Y:Dyn} {s:St} {a:Act} {w:World} {ops:Array Oper} {Q:Exit->Act->World->Prop}
def Xel (S:Sx) (q:Bool) (r:Rc) (s:St) (v:V) (own':List Ch):Prop :=
 ((∀ t b,r.g=some (t,b)->Xbz s.fr t=.one (.d (.bool b)))/\Ev S r.o (evO s.fr) s.own v own'/\(q=true->r.fx=false->Xsw r.o=true->own'=s.own)) \/
 (∃ t b,r.g=some (t,b)/\W68 b (Xbz s.fr t)/\v=.tup []/\own'=s.own)
theorem Xsx.trace {q:Bool} {K:St->Prop}:∀ {rs:List Rc} {s:St},Xsx S q K rs s->∃ (vs:Nat->V) (os:Nat->List Ch),os 0=s.own/\K ⟨frD (fun _=>true) vs rs s.fr,os rs.length⟩ /\
  ∀ j r,rs[j]?=some r->Xel S q r ⟨frD (fun i=>decide (i < j)) vs rs s.fr,os j⟩ (vs j) (os (j+1))
 | [],s,h=>⟨fun _=>.un,fun _=>s.own,rfl,h,by simp⟩
 | ⟨g,d,o,fx⟩::rs,s,h=>by
  have key:∃ v own',Xel S q ⟨g,d,o,fx⟩ s v own'/\Xsx S q K rs ⟨Xbb s.fr d v,own'⟩:=by
   rcases h with ⟨v,own',h1,h2,h3,h4⟩|⟨t,b,h1,h2,h4⟩
   ·exact⟨v,own',.inl ⟨h1,h2,h3⟩,h4⟩
   ·exact⟨.tup [],s.own,.inr ⟨t,b,h1,h2,rfl,rfl⟩,h4⟩
  obtain⟨v,own',hs,hr⟩:=key
  obtain⟨vs,os,h0,hK,hst⟩:=Xsx.trace hr
  refine⟨fun i=>match i with|0=>v|i+1=>vs i,fun i=>match i with|0=>s.own|i+1=>os i,rfl,?_,?_⟩
  ·simpa [frD] using hK
  ·intro j r hj
   cases j with
   | zero =>
    simp at hj;subst hj
    have:frD (fun i=>decide (i < 0)) (fun i=>match i with|0=>v|i+1=>vs i) (⟨g,d,o,fx⟩::rs) s.fr=s.fr:=Xk3 _ _ _ _ (by simp)
    simp only[this,h0]
    exact hs
   | succ j =>
    have:=hst j r (by simpa using hj)
    simpa [frD] using this
theorem Yk2 {hs:List Nat} {o:Oper} {r:Rc} {P:Program} (h:Wni P hs ops o=some r):∃ imm,Wnh P imm o.op=some r.o/\r.d=o.dst /\
  ((o.guard=none/\r.g=none)\/∃ j b t,o.guard=some (j,b)/\(ops[j]?).bind (·.dst)=some t/\r.g=some (t,b)):=by
 unfold Wni at h
 rw[Option.bind_eq_some_iff] at h
 obtain⟨m,hm,h⟩:=h
 obtain⟨imm,hm⟩:∃ imm,Wnh P imm o.op=some m:=⟨_,hm⟩
 refine⟨imm,?_⟩
 cases hg:o.guard with
 | none =>
  rw[hg] at h
  cases h
  exact⟨hm,rfl,.inl ⟨rfl,rfl⟩⟩
 | some p =>
  obtain⟨j,b⟩:=p
  rw[hg] at h
  obtain⟨t,ht,rfl⟩:=Option.map_eq_some_iff.1 h
  exact⟨hm,rfl,.inr ⟨j,b,t,rfl,ht,rfl⟩⟩
theorem Xmb {hs:List Nat} {P:Program}:∀ {l:List Oper} {rs:List Rc},Xkw P hs ops l=some rs->rs.length=l.length/\∀ (i:Nat) (o:Oper),l[i]?=some o->∃ r,rs[i]?=some r/\Wni P hs ops o=some r
 | [],rs,h=>by simp[Xkw] at h;subst h;simp
 | o::l,rs,h=>by
  simp only[Xkw,Option.bind_eq_some_iff,Option.map_eq_some_iff] at h
  obtain⟨r,hr,rs',hl,rfl⟩:=h
  obtain⟨h1,h2⟩:=Xmb hl
  refine⟨by simp[h1],fun i o' ho=>?_⟩
  cases i with
  | zero=>simp at ho;subst ho;exact⟨r,rfl,hr⟩
  | succ i=>simpa using h2 i o' (by simpa using ho)
theorem Xq5 {t:Nat} {c:Bool} (h:Sat S Y s a w) (hg:Xbz s.fr t=.one (.d (.bool c))):a.tmps[t]?=some (.bool c):=by
 obtain⟨H,an,F,ms,h⟩:=h
 obtain⟨u,hu,hd⟩:=h.fr.get (Xbl _ _ _ hg (by simp))
 rw[<- Array.getElem?_toList,hu]
 rw[Xek hd]
theorem X0j {t:Nat} (h:Sat S Y s a w) (hg:Xbz s.fr t=.tup []):a.tmps[t]?=some undef:=by
 obtain⟨H,an,F,ms,h⟩:=h
 obtain⟨u,hu,hd⟩:=h.fr.get (Xbl _ _ _ hg (by simp))
 rw[<- Array.getElem?_toList,hu]
 obtain⟨vs,rfl,hv⟩:=hd
 cases vs with
 | nil=>rfl
 | cons v vs=>exact hv.elim
theorem Xo9 {hs:List Nat} {i:Nat} {o:Oper} {r:Rc} {q:Bool} {v:V} {own':List Ch} {K:Act->World->Prop} (hi:ops[i]?=some o) (hr:Wni S.P hs ops o=some r) (h:Sat S Y s a w)
  (hv:Xel S q r s v own') (hn:∀ a' w',Sat S Y ⟨Xbb s.fr r.d v,own'⟩ a' w'->K a' w'):wpOpIn (Xhi Y.round) 0 S.P ops Q i K a w:=by
 obtain⟨imm,hm,hd,hg⟩:=Yk2 hr
 unfold wpOpIn
 simp only[hi]
 rcases hv with ⟨h1,h2,_⟩|⟨t,b,h1,h2,rfl,rfl⟩
 ·have hw:Region.wanted o (yielded ops a.tmps)=true:=by
   rcases hg with ⟨hg,_⟩|⟨j,b,t,hg,ht,hrg⟩
   ·simp[Region.wanted,hg]
   ·have:=Xq5 h (h1 t b hrg)
    simp[Region.wanted,hg,yielded,ht,this]
  rw[if_pos hw]
  exact Y2g h hm h2 (by rw[<- hd];exact hn)
 ·have hw:Region.wanted o (yielded ops a.tmps)=false:=by
   rcases hg with ⟨_,hg⟩|⟨j,b',t',hg,ht,hrg⟩
   ·rw[h1] at hg;cases hg
   ·rw[h1] at hrg;cases hrg
    rcases h2 with h2|⟨c,h2,h3⟩
    ·have:=X0j h h2
     simp[Region.wanted,hg,yielded,ht,this,undef]
    ·have:=Xq5 h h2
     simp[Region.wanted,hg,yielded,ht,this,h3]
  rw[if_neg (by simp[hw])]
  refine⟨fun _ _=>trivial,?_⟩
  obtain⟨H,an,F,ms,h⟩:=h
  exact hn _ _ ⟨H,an,F,ms,by rw[hd];exact h.put o.dst (v:=.tup []) (u:=undef) ⟨[],rfl,trivial⟩⟩
theorem Yk3 {hs:List Nat} {i:Nat} {o:Oper} {r r0:Rc} {q:Bool} {v:V} {own':List Ch} {K:Act->World->Prop} (hi:ops[i]?=some o) (hr:Wni S.P hs ops o=some r0) (e:r0.g=r.g/\r0.d=r.d/\Xuz r0.o r.o) (h:Sat S Y s a w)
  (hv:Xel S q r s v own') (hn:∀ a' w',Sat S Y ⟨Xbb s.fr r.d v,own'⟩ a' w'->K a' w'):wpOpIn (Xhi Y.round) 0 S.P ops Q i K a w:=by
 obtain⟨e1,e2,e3⟩:=e
 rcases hv with ⟨h1,h2,_⟩|⟨t,b,h1,h2,h3,h4⟩
 ·by_cases hF:(∃ e n b x y,r.o=.appF e n b x y)/\r0.o≠r.o
  ·obtain⟨⟨e,n,b,x,y,ho⟩,hne⟩:=hF
   rw[ho] at e3 hne h2
   have hr0:=e3.appF hne
   simp only[Ev] at h2
   split at h2
   ·rename_i ys j ver g1 g2
    split at h2
    ·rename_i sz' ver' xs hc
     obtain⟨k1,rfl,rfl,k4,k5,rfl,rfl⟩:=h2
     have hj:j < s.own.length:=by
      have:∀ (l:List Ch) (i:Nat),Xao l i=.row sz' ver' xs->i < l.length:=by
       intro l
       induction l with
       | nil=>intro i h;cases h
       | cons c l ih=>intro i h;cases i with
        | zero=>simp
        | succ i=>have:=ih i h;simp;omega
      exact this _ _ hc
     refine Xo9 (q:=false) (v:=.one (.own j (ver'+1))) (own':=Xbx s.own j (.row sz' (ver'+1) (xs++ys))) hi hr h (.inl ⟨by rw[e1];exact h1,?_,fun h=>by cases h⟩) fun a' w' h'=>hn a' w' ?_
     ·rw[hr0]
      simp only[Ev,g1,g2,hc]
      exact⟨k1,by trivial,by trivial,k4,k5,by trivial,by trivial⟩
     ·rw[<- e2]
      have:=h'.frzRow (by rw[Xam];exact Xo7 _ _ _ hj)
      rw[Xam,List.set_set,<- Xam] at this
      exact this
    ·exact h2.elim
   ·exact h2.elim
  ·refine Xo9 (q:=false) hi hr h (.inl ⟨by rw[e1];exact h1,?_,fun h=>by cases h⟩) (by rw[e2];exact hn)
   by_cases he:r0.o=r.o
   ·rw[he];exact h2
   ·exact e3.toEv (fun e n b x y hx=>hF ⟨⟨e,n,b,x,y,hx⟩,he⟩) h2
 ·exact Xo9 (q:=false) hi hr h (.inr ⟨t,b,by rw[e1];exact h1,h2,h3,h4⟩) (by rw[e2];exact hn)
theorem Xtb {ms:List Nat} {rs0:List Rc}:∀ {l:List Rc} {j:Nat},(fxs ms rs0 j l).length=l.length/\∀ (i:Nat) (r:Rc),(fxs ms rs0 j l)[i]?=some r->∃ r0,l[i]?=some r0/\r0.g=r.g/\r0.d=r.d/\r0.o=r.o
 | [],j=>⟨rfl,fun i r h=>by simp[fxs] at h⟩
 | x::l,j=>by
  obtain⟨h1,h2⟩:=Xtb (ms:=ms) (rs0:=rs0) (l:=l) (j:=j+1)
  refine⟨by simp[fxs,h1],fun i r h=>?_⟩
  cases i with
  | zero=>simp[fxs] at h;subst h;exact⟨x,rfl,rfl,rfl,rfl⟩
  | succ i=>simpa using h2 i r (by simpa [fxs] using h)
theorem Xu2 {hs:List Nat} {q:Bool} {K:St->Prop} (hQ:∀ s a w,Sat S Y s a w->K s->Q .normal a w):∀ (l:List Oper) (k:Nat) (rs:List Rc) (s:St) (a:Act) (w:World),
  (∀ i o,l[i]?=some o->ops[k+i]?=some o)->Xkw S.P hs ops l=some rs->Xsx S q K rs s->Sat S Y s a w->wpOpsIn (Xhi Y.round) 0 S.P ops Q (List.range' k l.length) a w
 | [],k,rs,s,a,w,_,ht,hr,h=>by
  simp[Xkw] at ht;subst ht
  exact hQ s a w h hr
 | o::l,k,rs,s,a,w,hl,ht,hr,h=>by
  simp only[Xkw,Option.bind_eq_some_iff,Option.map_eq_some_iff] at ht
  obtain⟨r,h1,rs',h2,rfl⟩:=ht
  simp only[List.length_cons,List.range'_succ]
  rw[wpOpsIn_cons]
  have key:∃ v own',Xel S q r s v own'/\Xsx S q K rs' ⟨Xbb s.fr r.d v,own'⟩:=by
   obtain⟨g,d,m,fx⟩:=r
   rcases hr with ⟨v,own',h1,h2,h3,h4⟩|⟨t,b,h1,h2,h4⟩
   ·exact⟨v,own',.inl ⟨h1,h2,h3⟩,h4⟩
   ·exact⟨.tup [],s.own,.inr ⟨t,b,h1,h2,rfl,rfl⟩,h4⟩
  obtain⟨v,own',hs',hr'⟩:=key
  exact Xo9 (by have:=hl 0 o rfl;simpa using this) h1 h hs' fun a' w' h'=>Xu2 hQ l (k+1) rs' _ a' w' (fun i o' ho=>by have:=hl (i+1) o' (by simpa using ho);rw[<- this];congr 1;omega) h2 hr' h'
end
end Go.Fw
namespace Go.Fw
open Go
theorem Xkq:∀ {l:List Oper} {k:Nat},Xfz k l=true->∀ (i:Nat) (o:Oper),l[i]?=some o->∀ e∈Xes o,e < k+i
 | [],_,_,_,_,h,_,_=>by simp at h
 | o::l,k,h,0,o',ho,e,he=>by
  simp at ho;subst ho
  simp only[Xfz,Bool.and_eq_true,List.all_eq_true,decide_eq_true_eq] at h
  simpa using h.1 e he
 | o::l,k,h,i+1,o',ho,e,he=>by
  simp only[Xfz,Bool.and_eq_true] at h
  have:=Xkq h.2 i o' (by simpa using ho) e he
  omega
theorem Xkr {ms:List Nat} {i:Nat} {x:Rc}:∀ {l:List Rc} {j:Nat},Xlk ms i x j l=true->∀ (m:Nat) (y:Rc),l[m]?=some y->Xlj ms i (j+m) x y=true
 | [],_,_,_,_,h=>by simp at h
 | y::l,j,h,0,y',hy=>by
  simp at hy;subst hy
  simp only[Xlk,Bool.and_eq_true] at h
  exact h.1
 | y::l,j,h,m+1,y',hy=>by
  simp only[Xlk,Bool.and_eq_true] at h
  have:=Xkr h.2 m y' (by simpa using hy)
  rw[show j+(m+1)=j+1+m by omega]
  exact this
theorem Xgx {ms:List Nat}:∀ {l:List Rc} {k:Nat},Xdn ms k l=true->∀ (i j:Nat) (x y:Rc),l[i]?=some x->l[j]?=some y->i < j->Xlj ms (k+i) (k+j) x y=true
 | [],_,_,_,_,_,_,h,_,_=>by simp at h
 | z::l,k,h,0,j,x,y,hx,hy,hij=>by
  simp at hx;subst hx
  simp only[Xdn,Bool.and_eq_true] at h
  obtain⟨j,rfl⟩:=Nat.exists_eq_add_of_lt hij
  have:=Xkr h.1.2 j y (by simpa [Nat.add_comm] using hy)
  rw[show k+(0+j+1)=k+1+j by omega]
  exact this
 | z::l,k,h,i+1,j,x,y,hx,hy,hij=>by
  simp only[Xdn,Bool.and_eq_true] at h
  obtain⟨j,rfl⟩:∃ m,j=m+1:=⟨j - 1,by omega⟩
  have:=Xgx h.2 i j x y (by simpa using hx) (by simpa using hy) (by omega)
  rw[show k+(i+1)=k+1+i by omega,show k+(j+1)=k+1+j by omega]
  exact this
theorem Xf6 {ms:List Nat}:∀ {l:List Rc} {k:Nat},Xdn ms k l=true->∀ (i:Nat) (x:Rc),l[i]?=some x->x.o.opds.all Opd.plain=true
 | [],_,_,_,_,h=>by simp at h
 | z::l,k,h,0,x,hx=>by
  simp at hx;subst hx
  simp only[Xdn,Bool.and_eq_true] at h
  exact h.1.1
 | z::l,k,h,i+1,x,hx=>by
  simp only[Xdn,Bool.and_eq_true] at h
  exact Xf6 h.2 i x (by simpa using hx)
theorem Xoa {acc:List Nat} {i:Nat}:∀ {es:List Nat},(Xhs acc es).testBit i=true->∃ e∈es,i=e\/(acc.getD e 0).testBit i=true
 | [],h=>by simp[Xhs] at h
 | e::es,h=>by
  simp only[Xhs,Nat.testBit_or,Bool.or_eq_true,Nat.testBit_two_pow,decide_eq_true_eq] at h
  rcases h with (h|h)|h
  ·exact⟨e,by simp,.inl h.symm⟩
  ·exact⟨e,by simp,.inr h⟩
  ·obtain⟨e',he,h⟩:=Xoa h
   exact⟨e',by simp[he],h⟩
theorem Xmc:∀ (l:List Oper) (acc:List Nat),∃ t,Xbk l acc=acc++t/\t.length=l.length
 | [],acc=>⟨[],by simp[Xbk],rfl⟩
 | o::l,acc=>by
  obtain⟨t,ht,hl⟩:=Xmc l (acc++[Xhs acc (Xes o)])
  exact⟨Xhs acc (Xes o)::t,by simp[Xbk,ht],by simp[hl]⟩
theorem Xmd:∀ (l:List Oper) (acc:List Nat) (j:Nat) (o:Oper),l[j]?=some o->(Xbk l acc)[acc.length+j]?=some (Xhs ((Xbk l acc).take (acc.length+j)) (Xes o))
 | [],_,_,_,h=>by simp at h
 | o::l,acc,0,o',h=>by
  simp at h;subst h
  obtain⟨t,ht,_⟩:=Xmc l (acc++[Xhs acc (Xes o)])
  simp[Xbk,ht]
 | o::l,acc,j+1,o',h=>by
  have:=Xmd l (acc++[Xhs acc (Xes o)]) j o' (by simpa using h)
  simp only[List.length_append,List.length_cons,List.length_nil] at this
  rw[show acc.length+(0+1)+j=acc.length+(j+1) by omega] at this
  simpa [Xbk] using this
theorem X0k {l:List Oper} {j:Nat} {o:Oper} (h:l[j]?=some o) {i:Nat} (hb:((Xbk l []).getD j 0).testBit i=true) :
  ∃ e∈Xes o,i=e\/((Xbk l []).getD e 0).testBit i=true:=by
 have:=Xmd l [] j o h
 simp only[List.length_nil,Nat.zero_add] at this
 rw[List.getD_eq_getElem?_getD,this] at hb
 obtain⟨e,he,hb⟩:=Xoa hb
 refine⟨e,he,hb.imp id fun hb=>?_⟩
 rw[List.getD_eq_getElem?_getD,List.getElem?_take] at hb
 split at hb
 ·rw[List.getD_eq_getElem?_getD];exact hb
 ·simp at hb
def Xfr:Kind->Bool
 | .eff=>true
 | .rapp=>true
 | _=>false
def Xb0:Kind->Bool
 | .eff=>true
 | .rapp=>true
 | .alloc=>true
 | _=>false
section
variable {S:Sx} {Y:Dyn} {s:St} {a:Act} {w:World} {ops:Array Oper} {Q:Exit->Act->World->Prop}
theorem Rc.kind_free {r:Rc} (h:Xfr r.kind=false):r.fx=false/\r.kind=Xeb r.o:=by
 unfold Rc.kind at *
 cases e:r.fx with
 | false=>exact⟨rfl,by simp⟩
 | true=>rw[e] at h;simp[Xfr] at h
theorem Xq6 {k:Kind} (h:Xb0 k=false):Xfr k=false:=by cases k <;> first|rfl|(cases h;done)
theorem Xel.still {q:Bool} {r:Rc} {v:V} {own':List Ch} (h:Xel S q r s v own') (hq:q=true) (hk:Xb0 r.kind=false):own'=s.own:=by
 obtain⟨hfx,hkk⟩:=Rc.kind_free (Xq6 hk)
 rw[hkk] at hk
 rcases h with ⟨_,h,h3⟩|⟨_,_,_,_,_,h⟩
 ·refine Xu0 ?_ (h3 hq hfx) h
  generalize Xeb r.o=k at hk
  cases k <;> first|(cases hk;done)|exact .inl rfl|exact .inr (.inl rfl)|exact .inr (.inr rfl)
 ·exact h
theorem Xel.ext {q:Bool} {r:Rc} {v:V} {own':List Ch} (h:Xel S q r s v own') (hq:q=true) (hk:Xfr r.kind=false):∃ e,own'=s.own++e:=by
 obtain⟨hfx,hkk⟩:=Rc.kind_free hk
 rw[hkk] at hk
 by_cases hc:Xb0 (Xeb r.o)=false
 ·exact⟨[],by simp[h.still hq (by rw[hkk];exact hc)]⟩
 ·have ha:Xeb r.o=.alloc:=by
   generalize Xeb r.o=k at hk hc
   cases k <;> first|rfl|(exfalso;revert hk hc;simp[Xfr,Xb0])
  rcases h with ⟨_,h,_⟩|⟨_,_,_,_,_,h⟩
  ·exact Yk1 ha h
  ·exact⟨[],by simp[h]⟩
theorem Yk4 {H:Xal} {an:Anc} {n:Nat} (ha:∀ i,(∃ p,an i=some p)↔i < n) {x:V} {u:Value} (h:Xa0 H an x u):∀ i∈x.refsT,i < n:=by
 cases x with
 | tup l =>
  obtain⟨vs,_,hv⟩:=h
  have:∀ (l:List V) (m:List Value),Xap (Xaq H an) l m->∀ i∈l.flatMap V.refs,i < n:=by
   intro l
   induction l with
   | nil=>intro m _ i hi;simp at hi
   | cons x l ih=>intro m hd i hi;cases m with
    | nil=>exact hd.elim
    | cons u us =>
     simp only[List.flatMap_cons,List.mem_append] at hi
     rcases hi with hi|hi
     ·refine Xij (H:=H) ha (x:=x) (u:=u) ?_ i hi
      cases x with
      | one a=>exact hd.1
      | agg l=>exact hd.1
      | tup l=>exact hd.1.elim
      | un=>trivial
     ·exact ih us hd.2 i hi
  exact this l vs hv
 | one a=>exact Xij ha (x:=.one a) h
 | agg l=>exact Xij ha (x:=.agg l) h
 | un=>intro i hi;simp[V.refsT,V.refs] at hi
theorem Xcy.refs_lt {H:Xal} {an:Anc} {n:Nat} {w:World} (ha:∀ i,(∃ p,an i=some p)↔i < n) {c:Ch} {p:Nat × Value} {f:Nat->Prop} (h:Xcy H an w c p f):∀ i∈c.refs,i < n:=by
 have la:∀ (xs:List A) (us:List Value),Xa1 H an xs us->∀ i∈xs.flatMap A.refs,i < n:=by
  intro xs
  induction xs with
  | nil=>intro us _ i hi;simp at hi
  | cons x l ih=>intro us hd i hi;cases us with
   | nil=>exact hd.elim
   | cons u us =>
    simp only[List.flatMap_cons,List.mem_append] at hi
    rcases hi with hi|hi
    ·exact Go.Fw.refs_lt ha hd.1 i hi
    ·exact ih us hd.2 i hi
 cases c with
 | cells cs=>obtain⟨h0,b,T,vs,h1,h2,h3,h4⟩:=h;exact la _ _ h4
 | bld T y=>obtain⟨h0,b,p0,v,T',h1,h2,h3,h4,h5⟩:=h;exact Go.Fw.refs_lt ha h5
 | map es =>
  obtain⟨h0,b,ents,clk,h1,h2,h3,h4⟩:=h
  have lm:∀ (l:List (V × V)) (m:List MapEntry),Xap (fun e en=>Xaq H an e.1 en.key/\Xaq H an e.2 en.val) l m->∀ i∈l.flatMap (fun e=>e.1.refs++e.2.refs),i < n:=by
   intro l
   induction l with
   | nil=>intro m _ i hi;simp at hi
   | cons x l ih=>intro m hd i hi;cases m with
    | nil=>exact hd.elim
    | cons u us =>
     simp only[List.flatMap_cons,List.mem_append] at hi
     have v1:∀ (x:V) (u:Value),Xaq H an x u->∀ i∈x.refs,i < n:=by
      intro x u hx
      cases x with
      | one a=>exact Go.Fw.refs_lt ha hx
      | agg l=>obtain⟨vs,_,hv⟩:=hx;exact la _ _ hv
      | tup l=>exact hx.elim
      | un=>intro i hi;simp[V.refs] at hi
     rcases hi with (hi|hi)|hi
     ·exact v1 _ _ hd.1.1 i hi
     ·exact v1 _ _ hd.1.2 i hi
     ·exact ih us hd.2 i hi
  exact lm _ _ h4
 | lp l fr rc st pd =>
  obtain⟨h1,h2,h3⟩:=h
  have lt:∀ (xs:List V) (us:List Value),Xap (Xa0 H an) xs us->∀ i∈xs.flatMap V.refsT,i < n:=by
   intro xs
   induction xs with
   | nil=>intro us _ i hi;simp at hi
   | cons x l ih=>intro us hd i hi;cases us with
    | nil=>exact hd.elim
    | cons u us =>
     simp only[List.flatMap_cons,List.mem_append] at hi
     rcases hi with hi|hi
     ·exact Yk4 ha hd.1 i hi
     ·exact ih us hd.2 i hi
  exact lt _ _ h3
 | rowA sz ver xs =>
  obtain⟨h0,h1,h2,h3,b,o,cap,vs,T,e1,e2,e3,e4,e5,e6⟩:=h
  intro i hi
  obtain⟨x,hx,hi⟩:=List.mem_flatMap.1 hi
  obtain⟨y,hy,hi⟩:=List.mem_flatMap.1 hi
  obtain⟨j,hj⟩:=List.mem_iff_getElem?.1 hx
  obtain⟨k,hk⟩:=List.mem_iff_getElem?.1 hy
  obtain⟨v,_,hd⟩:=e6 j x k y hj hk
  exact la [y] [v] ⟨hd,trivial⟩ i (by simpa using hi)
 | _=>intro i hi;simp[Ch.refs] at hi
theorem Sat.crefs (h:Sat S Y s a w) {j:Nat} (hj:j < s.own.length):∀ k∈(Xao s.own j).refs,k < s.own.length:=by
 obtain⟨H,an,F,ms,h⟩:=h
 obtain⟨p,_,hs⟩:=h.own j _ (List.getElem?_eq_getElem hj)
 have:Xao s.own j=s.own[j]:=by
  have hget:∀ (l:List Ch) (i:Nat) (h:i < l.length),Xao l i=l[i]:=by
   intro l
   induction l with
   | nil=>intro i h;simp at h
   | cons c l ih=>intro i h;cases i with
    | zero=>rfl
    | succ i=>exact ih i (by simpa using h)
  exact hget _ _ hj
 rw[this]
 exact hs.refs_lt h.anc
theorem Sat.refs (h:Sat S Y s a w) {t:Nat}:∀ i∈(Xbz s.fr t).refs,i < s.own.length:=by
 obtain⟨H,an,F,ms,h⟩:=h
 intro i hi
 have hne:Xbz s.fr t≠.un:=fun e=>by rw[e] at hi;simp[V.refs] at hi
 obtain⟨u,_,hd⟩:=h.fr.get (Xbl _ _ _ rfl hne)
 exact Xij h.anc hd i hi
theorem Xbf:∀ {l m:List Ch} {i:Nat},i < l.length->Xao (l++m) i=Xao l i
 | _::_,_,0,_=>rfl
 | _::l,m,i+1,h=>by simpa [Xao] using Xbf (l:=l) (m:=m) (i:=i) (by simpa using h)
 | [],_,_,h=>by simp at h
theorem Xpa:∀ {l:List Ch} {i:Nat},Xao l i≠.dead->i < l.length
 | [],_,h=>absurd rfl h
 | _::_,0,_=>by simp
 | _::l,i+1,h=>by simpa using Xpa (l:=l) (i:=i) (by simpa [Xao] using h)
end
end Go.Fw
namespace Go.Fw
open Go
structure InvD (ms:List Nat) (rs:List Rc) (D:Nat->Bool) (p:Nat):Prop where
 closed:∀ k i,D k=true->(ms.getD k 0).testBit i=true->D i=true
 pos:∀ (i:Nat) (r:Rc),rs[i]?=some r->Xb0 r.kind=true->(D i=true↔i < p)
 ple:p<=rs.length
theorem count_set:∀ (l:List Bool) (j:Nat),l[j]?=some false->(l.set j true).count false+1=l.count false
 | [],_,h=>by simp at h
 | b::l,0,h=>by simp at h;subst h;simp
 | b::l,j+1,h=>by
  have:=count_set l j (by simpa using h)
  simp only[List.set_cons_succ,List.count_cons]
  omega
section
variable {S:Sx} {Y:Dyn} {s:St} {a:Act} {w:World} {ops:Array Oper} {Q:Exit->Act->World->Prop}
variable {rs:List Rc} {vs:Nat->V} {os:Nat->List Ch} {fr0:List V}
theorem Xpb (hst:∀ j r,rs[j]?=some r->Xel S true r ⟨frD (fun i=>decide (i < j)) vs rs fr0,os j⟩ (vs j) (os (j+1))) (m:Nat):∀ k,m+k<=rs.length ->
  (∀ (i:Nat) (r:Rc),m<=i->i < m+k->rs[i]?=some r->Xb0 r.kind=false)->os (m+k)=os m
 | 0,_,_=>rfl
 | k+1,hk,h=>by
  have hlt:m+k < rs.length:=by omega
  have hr:=List.getElem?_eq_getElem hlt
  have:=(hst (m+k) _ hr).still rfl (h (m+k) _ (by omega) (by omega) hr)
  rw[show m+(k+1)=m+k+1 by omega,this]
  exact Xpb hst m k (by omega) fun i r h1 h2=>h i r h1 (by omega)
theorem Xu3 (hst:∀ j r,rs[j]?=some r->Xel S true r ⟨frD (fun i=>decide (i < j)) vs rs fr0,os j⟩ (vs j) (os (j+1))) (m:Nat):∀ k,m+k<=rs.length ->
  (∀ (i:Nat) (r:Rc),m<=i->i < m+k->rs[i]?=some r->Xfr r.kind=false)->∃ e,os (m+k)=os m++e
 | 0,_,_=>⟨[],by simp⟩
 | k+1,hk,h=>by
  have hlt:m+k < rs.length:=by omega
  have hr:=List.getElem?_eq_getElem hlt
  obtain⟨e,he⟩:=(hst (m+k) _ hr).ext rfl (h (m+k) _ (by omega) (by omega) hr)
  obtain⟨e',he'⟩:=Xu3 hst m k (by omega) fun i r h1 h2=>h i r h1 (by omega)
  refine⟨e'++e,?_⟩
  rw[show m+(k+1)=m+k+1 by omega,he,he']
  simp
theorem Xu4 (hst:∀ j r,rs[j]?=some r->Xel S true r ⟨frD (fun i=>decide (i < j)) vs rs fr0,os j⟩ (vs j) (os (j+1))) (m:Nat):∀ k,m+k<=rs.length ->
  (∀ (i:Nat) (r:Rc),m<=i->i < m+k->rs[i]?=some r->Xfr r.kind=false\/r.kind=.rapp)->∀ i cs,Xao (os m) i=.cells cs->Xao (os (m+k)) i=.cells cs
 | 0,_,_,_,_,h=>h
 | k+1,hk,h,i,cs,hc=>by
  have hlt:m+k < rs.length:=by omega
  have hr:=List.getElem?_eq_getElem hlt
  have ih:=Xu4 hst m k (by omega) (fun i r h1 h2=>h i r h1 (by omega)) i cs hc
  rw[show m+(k+1)=m+k+1 by omega]
  rcases h (m+k) _ (by omega) (by omega) hr with h1|h1
  ·obtain⟨e,he⟩:=(hst (m+k) _ hr).ext rfl h1
   rw[he,Xbf (Xpa (by rw[show (St.mk (frD (fun i=>decide (i < m+k)) vs rs fr0) (os (m+k))).own=os (m+k) from rfl,ih];simp))]
   exact ih
  ·rcases hst (m+k) _ hr with ⟨_,g2,_⟩|⟨_,_,_,_,_,g2⟩
   ·refine Y2i ?_ g2 i cs ih
    unfold Rc.kind at h1
    split at h1
    ·cases h1
    ·exact h1
   ·rw[g2];exact ih
theorem Xbc {ms:List Nat} {i j:Nat} {x y:Rc} (h:Xlj ms i j x y=true) :
  (∀ t,x.d=some t->y.d≠some t)/\((ms.getD j 0).testBit i=true\/(Xos x.kind y.kind=true/\(∀ t,y.d=some t->t ∉ x.slots)/\∀ t,x.d=some t->t ∉ y.slots)):=by
 simp only[Xlj,Bool.and_eq_true,Bool.or_eq_true] at h
 obtain⟨h1,h3⟩:=h
 refine⟨?_,?_⟩
 ·intro t ht hy
  rw[ht,hy] at h1
  simp at h1
 ·rcases h3 with h3|⟨⟨h3,h2⟩,h4⟩
  ·exact .inl h3
  ·refine .inr ⟨h3,fun t ht hm=>?_,fun t ht hm=>?_⟩
   ·rw[ht] at h2
    simp[hm] at h2
   ·rw[ht] at h4
    simp[hm] at h4
theorem Yk5 {ms:List Nat} {D:Nat->Bool} {p j:Nat} {r:Rc} (hd:Xdn ms 0 rs=true)
  (hst:∀ j r,rs[j]?=some r->Xel S true r ⟨frD (fun i=>decide (i < j)) vs rs fr0,os j⟩ (vs j) (os (j+1)))
  (hI:InvD ms rs D p) (hj:rs[j]?=some r) (hDj:D j=false) (hm:∀ i,(ms.getD j 0).testBit i=true->D i=true) (h:Sat S Y ⟨frD D vs rs fr0,os p⟩ a w) :
  ∃ p',Xel S true r ⟨frD D vs rs fr0,os p⟩ (vs j) (os p')/\∀ D':Nat->Bool,(∀ i,i≠j->D' i=D i)->D' j=true->InvD ms rs D' p'/\frD D' vs rs fr0=Xbb (frD D vs rs fr0) r.d (vs j):=by
 have hjl:j < rs.length:=(List.getElem?_eq_some_iff.1 hj).1
 have pr:∀ i k x y,rs[i]?=some x->rs[k]?=some y->i < k->Xlj ms i k x y=true:=fun i k x y hx hy hik=>by
  have:=Xgx hd i k x y hx hy hik
  simpa using this
 -- slots that are looked at
 have slots:∀ t∈r.slots,Xbz (frD D vs rs fr0) t=Xbz (frD (fun i=>decide (i < j)) vs rs fr0) t:=by
  intro t ht
  refine Xjw rs _ _ _ _ _ t rfl rfl fun i x hx hxd=>?_
  rcases Nat.lt_trichotomy i j with hij|rfl|hij
  ·rcases (Xbc (pr i j x r hx hj hij)).2 with h1|⟨_,_,h1⟩
   ·rw[hm i h1];simp[hij]
   ·exact absurd ht (h1 t hxd)
  ·rw[hDj];simp
  ·rcases (Xbc (pr j i r x hj hx hij)).2 with h1|⟨_,h1,_⟩
   ·have:D i=false:=by
     cases hDi:D i with
     | false=>rfl
     | true=>have:=hI.closed i j hDi h1;rw[hDj] at this;cases this
    rw[this];simp;omega
   ·exact absurd ht (h1 t hxd)
 have evs:∀ x∈r.o.opds,evO (frD D vs rs fr0) x=evO (frD (fun i=>decide (i < j)) vs rs fr0) x:=by
  intro x hx
  cases x with
  | c v=>rfl
  | t n =>
   refine slots n ?_
   simp only[Rc.slots,List.mem_append,List.mem_filterMap]
   exact .inr ⟨.t n,hx,rfl⟩
 have guard:∀ t b,r.g=some (t,b)->Xbz (frD D vs rs fr0) t=Xbz (frD (fun i=>decide (i < j)) vs rs fr0) t:=by
  intro t b hg
  refine slots t ?_
  simp[Rc.slots,hg]
 have hbase:=hst j r hj
 -- the frame
 have hframe:∀ D':Nat->Bool,(∀ i,i≠j->D' i=D i)->D' j=true->frD D' vs rs fr0=Xbb (frD D vs rs fr0) r.d (vs j):=fun D' h1 h2 =>
  X2v hj h1 h2 fun i x t hx hne hrt hxt=>by
   rcases Nat.lt_or_gt_of_ne hne with hij|hij
   ·exact (Xbc (pr i j x r hx hj hij)).1 t hxt hrt
   ·exact (Xbc (pr j i r x hj hx hij)).1 t hrt hxt
 have hclosed:∀ D':Nat->Bool,(∀ i,i≠j->D' i=D i)->D' j=true->∀ k i,D' k=true->(ms.getD k 0).testBit i=true->D' i=true:=fun D' h1 h2 k i hk hb=>by
  by_cases hij:i=j
  ·rw[hij];exact h2
  ·rw[h1 i hij]
   by_cases hkj:k=j
   ·subst hkj;exact hm i hb
   ·rw[h1 k hkj] at hk
    exact hI.closed k i hk hb
 by_cases hc:Xb0 r.kind=true
 · -- what makes or turns chunks
  have order:∀ (i:Nat) (x:Rc),rs[i]?=some x->Xb0 x.kind=true->(D i=true↔i < j):=by
   intro i x hx hxc
   have hno:∀ k l,Xb0 k=true->Xb0 l=true->Xos k l=false:=by
    intro k l;cases k <;> cases l <;> simp[Xb0,Xos]
   rcases Nat.lt_trichotomy i j with hij|rfl|hij
   ·rcases (Xbc (pr i j x r hx hj hij)).2 with h1|⟨h1,_⟩
    ·simp[hm i h1,hij]
    ·rw[hno _ _ hxc hc] at h1;cases h1
   ·simp[hDj]
   ·rcases (Xbc (pr j i r x hj hx hij)).2 with h1|⟨h1,_⟩
    ·constructor
     ·intro hDi
      have:=hI.closed i j hDi h1
      rw[hDj] at this;cases this
     ·intro hlt;omega
    ·rw[hno _ _ hc hxc] at h1;cases h1
  have hos:os p=os j:=by
   rcases Nat.le_total p j with hpj|hpj
   ·obtain⟨k,rfl⟩:=Nat.exists_eq_add_of_le hpj
    refine (Xpb hst p k (by omega) fun i x h1 h2 hx=>?_).symm
    by_cases hxc:Xb0 x.kind=true
    ·have e1:=order i x hx hxc
     have e2:=hI.pos i x hx hxc
     exfalso
     have:=e2.1 (e1.2 h2)
     omega
    ·simpa using hxc
   ·obtain⟨k,rfl⟩:=Nat.exists_eq_add_of_le hpj
    refine Xpb hst j k hI.ple fun i x h1 h2 hx=>?_
    by_cases hxc:Xb0 x.kind=true
    ·have e1:=order i x hx hxc
     have e2:=hI.pos i x hx hxc
     exfalso
     have:=e1.1 (e2.2 h2)
     omega
    ·simpa using hxc
  refine⟨j+1,?_,fun D' h1 h2=>⟨⟨hclosed D' h1 h2,?_,by omega⟩,hframe D' h1 h2⟩⟩
  ·rcases hbase with ⟨g1,g2,g3⟩|⟨t,b,g1,g2,g4,g5⟩
   ·refine .inl ⟨fun t b hg=>by rw[guard t b hg];exact g1 t b hg,?_,fun hq hf hqq=>by rw[hos];exact g3 hq hf hqq⟩
    simp only[hos]
    rw[Xo6 evs];exact g2
   ·exact .inr ⟨t,b,g1,by rw[guard t b g1];exact g2,g4,by simp only[hos];exact g5⟩
  ·intro i x hx hxc
   by_cases hij:i=j
   ·subst hij;simp[h2]
   ·rw[h1 i hij,order i x hx hxc];omega
 ·have hc':Xb0 r.kind=false:=by simpa using hc
  refine⟨p,?_,fun D' h1 h2=>⟨⟨hclosed D' h1 h2,?_,hI.ple⟩,hframe D' h1 h2⟩⟩
  ·have hstill:=hbase.still rfl hc'
   have hkk:=(Rc.kind_free (Xq6 hc')).2
   rcases hbase with ⟨g1,g2,g3⟩|⟨t,b,g1,g2,g4,g5⟩
   ·refine .inl ⟨fun t b hg=>by rw[guard t b hg];exact g1 t b hg,?_,fun _ _ _=>rfl⟩
    simp only at hstill
    rw[hstill] at g2
    rw[<- Xo6 evs] at g2
    by_cases hfree:r.kind=.free
    ·exact X2r (by rw[<- hkk];exact hfree) g2
    ·by_cases hcr:r.kind=.cread
     ·refine Yky (by rw[<- hkk];exact hcr) (fun i cs hi hcs=>?_) g2
      have before:∀ (i:Nat) (x:Rc),rs[i]?=some x->Xfr x.kind=true->i < j->i < p:=by
       intro i x hx hxe hij
       have hxc:Xb0 x.kind=true:=by revert hxe;cases x.kind <;> simp[Xfr,Xb0]
       have hxk:x.kind=.eff\/x.kind=.rapp:=by revert hxe;cases x.kind <;> simp[Xfr]
       rw[<- hI.pos i x hx hxc]
       rcases (Xbc (pr i j x r hx hj hij)).2 with h1|⟨h1,_⟩
       ·exact hm i h1
       ·rcases hxk with hxk|hxk <;> rw[hxk,hcr] at h1 <;> cases h1
      have behind:∀ (i:Nat) (x:Rc),rs[i]?=some x->j<=i->i < p->Xfr x.kind=false\/x.kind=.rapp:=by
       intro i x hx hji hip
       cases hxe:Xfr x.kind with
       | false=>exact .inl rfl
       | true =>
        have hxc:Xb0 x.kind=true:=by revert hxe;cases x.kind <;> simp[Xfr,Xb0]
        have hxk:x.kind=.eff\/x.kind=.rapp:=by revert hxe;cases x.kind <;> simp[Xfr]
        rcases hxk with hxk|hxk
        ·exfalso
         have hDi:=(hI.pos i x hx hxc).2 hip
         have hne:i≠j:=fun e=>by subst e;rw[hDj] at hDi;cases hDi
         rcases (Xbc (pr j i r x hj hx (by omega))).2 with h1|⟨h1,_⟩
         ·have:=hI.closed i j hDi h1
          rw[hDj] at this;cases this
         ·rw[hxk,hcr] at h1;cases h1
        ·exact .inr hxk
      have hplain:=Xf6 hd j r hj
      rcases Nat.le_total p j with hpj|hpj
      ·obtain⟨k,rfl⟩:=Nat.exists_eq_add_of_le hpj
       obtain⟨e,he⟩:=Xu3 hst p k (by omega) fun i x h1 h2 hx=>by
        by_cases hxe:Xfr x.kind=true
        ·exfalso
         have:=before i x hx hxe h2
         omega
        ·simpa using hxe
       rw[List.mem_flatMap] at hi
       obtain⟨x,hx,hi⟩:=hi
       have hlt:i < (os p).length:=by
        cases x with
        | t n=>exact h.refs i hi
        | c v =>
         have:=List.all_eq_true.1 hplain _ hx
         simp only[Opd.plain,List.isEmpty_iff] at this
         simp[evO,this] at hi
       rw[he,Xbf hlt] at hcs
       exact hcs
      ·obtain⟨k,rfl⟩:=Nat.exists_eq_add_of_le hpj
       exact Xu4 hst j k hI.ple (fun i x h1 h2 hx=>behind i x hx h1 h2) i cs hcs
     have hread:r.kind=.read:=by
      generalize r.kind=k at hc' hfree hcr
      cases k <;> first|rfl|(exact absurd rfl hfree)|(exact absurd rfl hcr)|(cases hc';done)
     refine Ykx (.inl (by rw[<- hkk];exact hread)) ?_ g2
     have noeff:∀ (i:Nat) (x:Rc),rs[i]?=some x->Xfr x.kind=true->(i < p↔i < j):=by
      intro i x hx hxe
      have hxc:Xb0 x.kind=true:=by revert hxe;cases x.kind <;> simp[Xfr,Xb0]
      have hxk:x.kind=.eff\/x.kind=.rapp:=by revert hxe;cases x.kind <;> simp[Xfr]
      rw[<- hI.pos i x hx hxc]
      rcases Nat.lt_trichotomy i j with hij|rfl|hij
      ·rcases (Xbc (pr i j x r hx hj hij)).2 with h1|⟨h1,_⟩
       ·simp[hm i h1,hij]
       ·rcases hxk with hxk|hxk <;> rw[hxk,hread] at h1 <;> cases h1
      ·simp[hDj]
      ·rcases (Xbc (pr j i r x hj hx hij)).2 with h1|⟨h1,_⟩
       ·constructor
        ·intro hDi
         have:=hI.closed i j hDi h1
         rw[hDj] at this;cases this
        ·intro hlt;omega
       ·rcases hxk with hxk|hxk <;> rw[hxk,hread] at h1 <;> cases h1
     have hplain:=Xf6 hd j r hj
     intro i hi hdead
     rw[List.mem_flatMap] at hi
     obtain⟨x,hx,hi⟩:=hi
     rcases Nat.le_total p j with hpj|hpj
     ·obtain⟨k,rfl⟩:=Nat.exists_eq_add_of_le hpj
      obtain⟨e,he⟩:=Xu3 hst p k (by omega) fun i x h1 h2 hx=>by
       by_cases hxe:Xfr x.kind=true
       ·exfalso
        have:=(noeff i x hx hxe).2 h2
        omega
       ·simpa using hxe
      have hlt:i < (os p).length:=by
       cases x with
       | t n=>exact h.refs i hi
       | c v =>
        have:=List.all_eq_true.1 hplain _ hx
        simp only[Opd.plain,List.isEmpty_iff] at this
        simp[evO,this] at hi
      refine⟨by rw[he,Xbf hlt],fun k hk _=>?_⟩
      rw[he,Xbf hlt] at hk
      rw[he,Xbf (h.crefs hlt k hk)]
     ·obtain⟨k,rfl⟩:=Nat.exists_eq_add_of_le hpj
      obtain⟨e,he⟩:=Xu3 hst j k hI.ple fun i x h1 h2 hx=>by
       by_cases hxe:Xfr x.kind=true
       ·exfalso
        have:=(noeff i x hx hxe).1 h2
        omega
       ·simpa using hxe
      exact⟨by rw[he,Xbf (Xpa hdead)],fun k hk hkd=>by rw[he,Xbf (Xpa hkd)]⟩
   ·exact .inr ⟨t,b,g1,by rw[guard t b g1];exact g2,g4,rfl⟩
  ·intro i x hx hxc
   have hij:i≠j:=fun e=>by subst e;rw[hj] at hx;cases hx;rw[hc'] at hxc;cases hxc
   rw[h1 i hij];exact hI.pos i x hx hxc
theorem Xme {o:Oper} {e:Nat}:e∈Xes o↔∃ g∈o.after,Region.binds .any g=true/\g.on=e:=by
 simp[Xes,List.mem_filter,and_assoc]
theorem X0l {hs:List Nat} {rs0 rs1:List Rc} (href:Ysr rs0 rs1) (he:Xfz 0 ops.toList=true) (hd:Xdn (Xbk ops.toList []) 0 rs=true) (ht0:Xkw S.P hs ops ops.toList=some rs0) (hrs:rs=fxs (Xbk ops.toList []) rs1 0 rs1)
  (hst:∀ j r,rs[j]?=some r->Xel S true r ⟨frD (fun i=>decide (i < j)) vs rs fr0,os j⟩ (vs j) (os (j+1)))
  (hQ:∀ a w,Sat S Y ⟨frD (fun _=>true) vs rs fr0,os rs.length⟩ a w->Q .normal a w) :
  ∀ (fuel:Nat) (listed:Array Bool) (p:Nat) (a:Act) (w:World),listed.size=ops.size->listed.toList.count false=fuel->InvD (Xbk ops.toList []) rs (fun i=>listed.getD i false) p ->
   Sat S Y ⟨frD (fun i=>listed.getD i false) vs rs fr0,os p⟩ a w->wpAnyIn (Xhi Y.round) 0 S.P .any ops Q fuel listed a w:=by
 have hlen:rs.length=ops.size:=by
  rw[hrs,Xtb.1,href.1,(Xmb ht0).1,Array.length_toList]
 have ends:∀ (listed:Array Bool) (p:Nat) (a:Act) (w:World),listed.size=ops.size->InvD (Xbk ops.toList []) rs (fun i=>listed.getD i false) p ->
   Sat S Y ⟨frD (fun i=>listed.getD i false) vs rs fr0,os p⟩ a w->Region.ready .any ops listed=[]->Q .normal a w:=by
  intro listed p a w hsz hI h hr
  have all:∀ j,j < ops.size->listed.getD j false=true:=by
   intro j
   induction j using Nat.strongRecOn with
   | _ j ih =>
    intro hj
    cases hD:listed.getD j false with
    | true=>rfl
    | false =>
     exfalso
     have ho:ops[j]?=some ops[j]:=Array.getElem?_eq_getElem hj
     have:j∈Region.ready .any ops listed:=mem_ready.2 ⟨by simpa [Array.getD_eq_getD_getElem?,hsz,hj] using hD,_,ho,fun e hea hb=>by
      have:=Xkq he j ops[j] (by simpa using ho) e.on (Xme.2 ⟨e,hea,hb,rfl⟩)
      exact ih e.on (by omega) (by omega)⟩
     rw[hr] at this;cases this
  have e1:frD (fun i=>listed.getD i false) vs rs fr0=frD (fun _=>true) vs rs fr0 :=
   Xma (by simp[Xh1]) fun t=>Xjw rs _ _ _ _ _ t rfl rfl fun i r hi _=>all i (by rw[<- hlen];exact (List.getElem?_eq_some_iff.1 hi).1)
  have e2:os rs.length=os p:=by
   obtain⟨k,hk⟩:=Nat.exists_eq_add_of_le hI.ple
   rw[hk]
   refine Xpb hst p k (by omega) fun i r h1 h2 hr=>?_
   cases hc:Xb0 r.kind with
   | false=>rfl
   | true =>
    exfalso
    have:=(hI.pos i r hr hc).1 (all i (by omega))
    omega
  rw[e1,<- e2] at h
  exact hQ a w h
 intro fuel
 induction fuel with
 | zero =>
  intro listed p a w hsz hc hI h
  have hr:Region.ready .any ops listed=[]:=by
   rw[List.eq_nil_iff_forall_not_mem]
   intro j hj
   obtain⟨h1,o,ho,_⟩:=mem_ready.1 hj
   have hlt:j < listed.size:=by rw[hsz];exact (Array.getElem?_eq_some_iff.1 ho).1
   simp only[Array.getD_eq_getD_getElem?,Array.getElem?_eq_getElem hlt,Option.getD_some] at h1
   have:false∈listed.toList:=by rw[<- h1];simp
   have:=List.count_pos_iff.2 this
   omega
  exact⟨hr,ends listed p a w hsz hI h hr⟩
 | succ fuel ih =>
  intro listed p a w hsz hc hI h
  refine⟨ends listed p a w hsz hI h,fun j hj=>?_⟩
  obtain⟨h1,o,ho,hall⟩:=mem_ready.1 hj
  have hlt:j < ops.size:=(Array.getElem?_eq_some_iff.1 ho).1
  have hlj:listed[j]?=some false:=by
   have hl:j < listed.size:=by omega
   simp only[Array.getD_eq_getD_getElem?,Array.getElem?_eq_getElem hl,Option.getD_some] at h1
   rw[Array.getElem?_eq_getElem hl,h1]
  obtain⟨r1,hr1,htr⟩:=(Xmb ht0).2 j o (by simpa using ho)
  obtain⟨r,hr⟩:∃ r,rs[j]?=some r:=⟨_,List.getElem?_eq_getElem (by rw[hlen];exact hlt)⟩
  obtain⟨r2,hr2,hs1,hs2,hs3⟩:=Xtb.2 j r (hrs ▸ hr)
  obtain⟨r0,hr0,hs4,hs5,hs6⟩:=href.2 j r2 hr2
  rw[hr1] at hr0
  cases hr0
  have hsame:r1.g=r.g/\r1.d=r.d/\Xuz r1.o r.o:=⟨hs4.trans hs1,hs5.trans hs2,hs3 ▸ hs6⟩
  have hDj:listed.getD j false=false:=by simp[Array.getD_eq_getD_getElem?,hlj]
  have hedge:∀ e∈Xes o,listed.getD e false=true:=fun e hem=>by
   obtain⟨g,hg,hb,rfl⟩:=Xme.1 hem
   exact hall g hg hb
  have hm:∀ i,((Xbk ops.toList []).getD j 0).testBit i=true->listed.getD i false=true:=by
   intro i hb
   obtain⟨e,hem,h2⟩:=X0k (l:=ops.toList) (by simpa using ho) hb
   rcases h2 with rfl|h2
   ·exact hedge i hem
   ·exact hI.closed e i (hedge e hem) h2
  obtain⟨p',hev,hnext⟩:=Yk5 hd hst hI hr hDj hm h
  refine Yk3 ho htr hsame h hev fun a' w' h'=>?_
  have hD:∀ i,(listed.setIfInBounds j true).getD i false=if i=j then true else listed.getD i false:=by
   intro i
   simp only[Array.getD_eq_getD_getElem?,Array.getElem?_setIfInBounds]
   by_cases e:j=i
   ·subst e;simp[hsz,hlt]
   ·simp[e,Ne.symm e]
  obtain⟨hI',hf⟩:=hnext (fun i=>(listed.setIfInBounds j true).getD i false) (fun i hi=>by simp[hD,hi]) (by simp[hD])
  refine ih _ p' a' w' (by simp[hsz]) ?_ hI' (by rw[hf];exact h')
  have:=count_set listed.toList j (by simpa using hlj)
  simp only[Array.toList_setIfInBounds]
  omega
end
end Go.Fw
