/- ComposeBack. -/
import Derived.Test.YtiklocoaghcliaaGreatDoorMf
import Derived.Test.YtiklocoaghcliaaGreatDoorL07BS10
set_option linter.all false
namespace Go.Fw.L07
open Go Go.Fw
open Go.Fw.Sh renaming intro->Kg
open Go.Fw renaming Xh9->Kv,Xel->Kf,Gx->Kn
open Go.Fw renaming Xec->Kw, Xbg->Kw, Xbk->Kw, Xbv->Kw, Xb3->Kw, Xh6->Kw, Xem->Kw
open Go.Fw.Sh renaming intro->Kf
open Go.Proofs.Tryz renaming prog->QP
set_option maxRecDepth 4000
variable {gp:Xaj} {ua:Addr}
def X1t (φ:Int->Int) (x:Nd):Nd:=⟨x.k,x.x,x.keys,x.kids.map φ⟩
theorem Yp1 (φ:Int->Int) (x:Nd):Xdf (X1t φ x)=(Xdf x).map fun p=>⟨p.key,φ p.kid⟩:=by
 unfold Xdf X1t
 simp only
 rw[List.zipWith_map_right,List.map_zipWith]
theorem Xz5 (φ:Int->Int) (x:Nd):Xak (X1t φ x)=(Xak x).map φ/\Xap (X1t φ x)=Xap x:=by
 have hs:srt (Xdf (X1t φ x))=(srt (Xdf x)).map fun p=>⟨p.key,φ p.kid⟩:=by rw[Yp1];exact Yev (φ:=fun p=>⟨p.key,φ p.kid⟩) (fun _=>rfl) _
 have hk:(X1t φ x).k=x.k:=rfl
 have hl:(X1t φ x).kids.length=x.kids.length:=by simp[X1t]
 have hky:(X1t φ x).keys=x.keys:=rfl
 have hp:Xab (X1t φ x)=(Xab x).map fun p=>⟨p.key,φ p.kid⟩:=by
  unfold Xab
  rw[hk,hl,hky]
  split
  ·exact hs
  ·rfl
 constructor
 ·unfold Xak
  rw[hk,hp]
  split
  ·rfl
  ·rw[List.map_map,List.map_map];rfl
 ·unfold Xap
  rw[hp,List.map_map];rfl
theorem Wxt {F is t:List Int} (h:KC F is t):t=is.map fun p=>(F[p.toNat]?).getD 0:=by
 apply List.ext_getElem?
 intro i
 by_cases hi:i < is.length
 ·obtain⟨p,hp⟩:=Xaq hi
  obtain⟨b,hb,q,rfl,hq⟩:=h.get hp
  rw[hb,Xae hp,Int.toNat_natCast,hq];rfl
 ·rw[List.getElem?_eq_none (by rw[<- h.length];omega),List.getElem?_eq_none (by simp;omega)]
theorem Yp2 {g:Gr} (hg:Tdy g) {L:Lr} (hh:Good ⟨0,L.new⟩) {org:List Int} (hr:Res18 g [0] [] L g.l.length org) (his:L.is=[0]):Sim g.l L.new 0 0:=by
 have hn:=hr.new
 have hi:=hr.is
 rw[List.nil_append] at hn hi
 have hlen:=hr.len
 have hfine:=hh.fine
 have nodes:∀ (n:Nat) (j:Int),org[n]?=some j->∃ x y,L.new[n]?=some x/\inL g.l j/\Xbc g.l j=y/\y=X1t (fun p=>(org[p.toNat]?).getD 0) x:=by
  intro n j hj
  have hnl:n < L.new.length:=by rw[<- hlen];exact (List.getElem?_eq_some_iff.1 hj).1
  obtain⟨x,hx⟩:=Xaq hnl
  obtain⟨o,ho,i,y,rfl,hy,k1,k2,k3,k4⟩:=hn.get hx
  rw[hj] at ho
  cases ho
  obtain⟨a1,a2⟩:=Xg6 hy
  refine⟨x,y,hx,a1,a2,?_⟩
  have:=Wxt k4
  obtain⟨b1,b2,b3,b4⟩:=y
  simp only at k1 k2 k3 this
  unfold X1t
  rw[k1,k2,k3,this]
 refine⟨fun a b=>∃ n:Nat,b=(n:Int)/\org[n]?=some a,⟨?_,?_,?_⟩,0,rfl,?_⟩
 ·rintro a b ⟨n,rfl,hn⟩
  obtain⟨x,y,h1,h2,-,-⟩:=nodes n a hn
  exact⟨h2,(Xg6 h1).1⟩
 ·rintro a b ⟨n,rfl,hn⟩
  obtain⟨x,y,h1,-,h2,h3⟩:=nodes n a hn
  rw[h2,(Xg6 h1).2,h3]
  exact Xb7.2 ⟨rfl,rfl,(Xz5 _ x).2,by simp[X1t]⟩
 ·rintro a b ⟨n,rfl,hn⟩ i p q hp hq
  obtain⟨x,y,h1,-,h2,h3⟩:=nodes n a hn
  have hx:=(Xg6 h1).2
  rw[kdL,h2,h3,(Xz5 _ x).1] at hp
  have hqm:q∈kdL L.new n:=List.mem_of_getElem? hq
  have hqi:=hfine.kid n q hqm
  rw[kdL,hx] at hq
  rw[Xae hq] at hp
  obtain⟨m,rfl⟩:=Int.eq_ofNat_of_zero_le hqi.1
  refine⟨m,rfl,?_⟩
  have hm:m < org.length:=by
   have h9:(m:Int) < (L.new.length:Int):=hqi.2
   omega
  rw[Int.toNat_natCast] at hp
  obtain⟨z,hz⟩:=Xaq hm
  rw[hz] at hp ⊢
  simpa using hp
 ·rw[his] at hi
  obtain⟨q,hq,hf⟩:=hi.1
  obtain rfl:q=0:=by omega
  exact hf
theorem Xu4 (g:Gr):∀ x∈g.cut.l,x.short:=by
 intro x hx
 obtain⟨y,_,rfl⟩:=List.mem_map.1 hx
 refine⟨by simp[Nd.cut];omega,by simp[Nd.cut];omega,?_,fun z hz=>?_⟩
 ·exact Nat.le_trans (Xm8 _) (by omega)
 ·obtain⟨u,_,rfl⟩:=List.mem_map.1 hz
  exact Nat.le_trans (Xm8 _) (by omega)
theorem Xko:Nd.zero.short:=by
 refine⟨by simp[Nd.zero],by simp[Nd.zero],?_,by simp[Nd.zero]⟩
 show Nd.zero.x.s.size<=100000
 exact Nat.zero_le _
theorem Xta {l:List Nd} (h:∀ x∈l,x.short) (i:Int):(Xbc l i).short:=by
 unfold Xbc
 split
 ·cases hx:l[i.toNat]? with
  | none=>exact Xko
  | some x=>exact h x (List.mem_of_getElem? hx)
 ·exact Xko
theorem Xqo {q:Gr} (hg:Good q) (h:∀ x∈q.l,x.short):∀ x∈(Xbl q).l,x.short:=by
 intro x hx
 have hs:=hg.tidy.s x hx
 unfold Xbl at hx
 obtain⟨i,-,rfl⟩:=List.mem_map.1 hx
 have h1:=Xta h i
 refine⟨hs.1,hs.2,h1.2.2.1,fun y hy=>h1.2.2.2 y ?_⟩
 have hy':y∈Xap (Xbc q.l i):=hy
 unfold Xap Xab at hy'
 split at hy'
 ·rename_i hk
  rw[((Xc7 (Xdf (Xbc q.l i))).map Pr.key).mem_iff,Xf5 hk.2] at hy'
  exact hy'
 ·simp at hy'
theorem X1u (g:Gr):∀ x∈(Yh6 g).l,x.short:=by
 have h0:∀ x∈(Xbe g 40).l,x.short:=by
  unfold Xbe
  split
  ·intro x hx;cases hx
  ·exact Xu4 g
 unfold Yh6
 split
 ·rename_i hc
  exact Xqo ⟨hc,(Xif g).1⟩ h0
 ·exact h0
theorem X1v {g:Gr} (hst:∀ x∈g.l,x.short) {t:List Int} {L:Lr} (hh:Xe3 ⟨0,L.new⟩) {m:Nat} {org:List Int} (hr:Res18 g t [] L m org):∀ x∈L.new,x.short:=by
 intro x hx
 have hs:=hh x hx
 obtain⟨n,hn⟩:=List.mem_iff_getElem?.1 hx
 obtain⟨o,-,i,y,-,hy,-,k2,k3,-⟩:=hr.new.get hn
 have h1:=hst y (List.mem_of_getElem? hy)
 exact⟨hs.1,hs.2,by rw[k2];exact h1.2.2.1,by rw[k3];exact h1.2.2.2⟩
set_option maxHeartbeats 2000000 in
theorem Yih (h:Env18 gp ua) (g:Gr):Xao QP gp 8 [g.v] (vb true):=by
 have c1:=X1n h
 have c2:=Ypo h.e g
 have hshort:=X1u g
 have hok:=Whs g
 generalize Yh6 g=q at *
 have none:∀ e:Int,e≠0->Xao QP gp 11 [q.v] (.tup [Tr0.v,vi e])->Xao QP gp 8 [g.v] (vb true):=by
  intro e he c3
  have e1:(e != 0)=true:=by simp[he]
  refine Yz2 ?_
  simp only[go_sem]
  repeat' first|refine Kn rfl ?_|((first|refine Kw ?_|refine Kv ?_);simp only[e1,go_sem])|refine Kf ?_|refine⟨_,c1,Kg ?_⟩|refine⟨_,⟨c1,rfl⟩,Kg ?_⟩|refine⟨_,c2,Kg ?_⟩|refine⟨_,⟨c2,rfl⟩,Kg ?_⟩|refine⟨_,c3,Kg ?_⟩|refine⟨_,⟨c3,rfl⟩,Kg ?_⟩|(refine And.intro (fun _=>?_) (fun _=>?_) <;> try (exfalso;omega))
  all_goals rfl
 rcases hok with ⟨hg,hl⟩|⟨hs,hc,hl⟩
 ·by_cases hd:Xos q
  ·obtain⟨t,met,f,hof,hst,hlay⟩:=X1p hg hd (by omega)
   have c3:=Yhr h hg hd hof
   have c4:=Xqi h t hst
   rcases hlay.ok with h71|⟨he,org,hr,-⟩
   ·have hgt:Xh1 Xag t=(⟨0,[]⟩,71):=by unfold Xh1;rw[if_neg (by omega),h71]
    rw[hgt] at c4
    refine Yz2 ?_
    simp only[go_sem]
    repeat' first|refine Kn rfl ?_|((first|refine Kw ?_|refine Kv ?_);simp only[go_sem])|refine Kf ?_|refine⟨_,c1,Kg ?_⟩|refine⟨_,⟨c1,rfl⟩,Kg ?_⟩|refine⟨_,c2,Kg ?_⟩|refine⟨_,⟨c2,rfl⟩,Kg ?_⟩|refine⟨_,c3,Kg ?_⟩|refine⟨_,⟨c3,rfl⟩,Kg ?_⟩|refine⟨_,c4,Kg ?_⟩|refine⟨_,⟨c4,rfl⟩,Kg ?_⟩|(refine And.intro (fun _=>?_) (fun _=>?_) <;> try (exfalso;omega))
   ·have hgt:Xh1 Xag t=(⟨0,(Xch Xag t 1 0 []).new⟩,0):=by unfold Xh1;rw[if_pos he]
    rw[hgt] at c4
    obtain⟨hh,-,-⟩:=Ypm hst he
    obtain⟨his,-⟩:=Xs3 he
    have c5:=Wh1 ⟨h.e,h.p⟩ q ⟨0,(Xch Xag t 1 0 []).new⟩ hg.good.s hh.s hshort (X1v hshort hh.s hr)
    have hsim:Ypz q ⟨0,(Xch Xag t 1 0 []).new⟩=true:=by
     unfold Ypz
     rw[if_pos ⟨hg.good.c,hh.c⟩,Yex hg.good hh,hg.root]
     exact Yp2 hg hh hr his
    have hE:Yp0 q ⟨0,(Xch Xag t 1 0 []).new⟩=0:=by unfold Yp0;rw[Xe4 hg.good.c,if_pos rfl,Xe4 hh.c]
    rw[hsim,hE] at c5
    generalize (Xch Xag t 1 0 []).new=M at *
    refine Yz2 ?_
    simp only[go_sem]
    repeat' first|refine Kn rfl ?_|((first|refine Kw ?_|refine Kv ?_);simp only[go_sem])|refine Kf ?_|refine⟨_,c1,Kg ?_⟩|refine⟨_,⟨c1,rfl⟩,Kg ?_⟩|refine⟨_,c2,Kg ?_⟩|refine⟨_,⟨c2,rfl⟩,Kg ?_⟩|refine⟨_,c3,Kg ?_⟩|refine⟨_,⟨c3,rfl⟩,Kg ?_⟩|refine⟨_,c4,Kg ?_⟩|refine⟨_,⟨c4,rfl⟩,Kg ?_⟩|refine⟨_,c5,Kg ?_⟩|refine⟨_,⟨c5,rfl⟩,Kg ?_⟩|(refine And.intro (fun _=>?_) (fun _=>?_) <;> try (exfalso;omega))
  ·exact none 73 (by decide) (Yh5 h hg hd)
 ·exact none 72 (by decide) (Xzx h.e hs fun hh=>hc hh.1)
end Go.Fw.L07
