/- The framework,part 8: each operation does what 'Ev' says: reads,writes,addresses. -/
import Derived.Test.YtakgmpkfpkmkaaaGreatDoorFa
import Derived.Laws.AppendOwn
import Derived.Laws.MakeOwn
import Derived.Laws.BytesString
set_option linter.all false
namespace Go.Fw
open Go
section
variable {S:Sx} {Y:Dyn} {s:St} {a:Act} {w:World} {H:Heap} {an:Anc} {F:Nat->Nat->Prop} {ms:List Nat} {o:Oper} {v:V}
theorem X3r {cells:Array Value} {k:Nat} {q:Value} (h:cells[k]?=some q):cells.getD k undef=q:=by simp[Array.getD_eq_getD_getElem?,h]
theorem SatX.row (h:SatX S Y s a w H an F ms) {i sz ver:Nat} {xs:List (List D)} (hc:Xak s.own i=.row sz ver xs) :
  ∃ p,an i=some (ver,p)/\(∃ a n c,p=.slice a n c)/\0 < sz/\(∀ x∈xs,x.length=sz)/\xs.length < lenMax /\
   ((xs=[]/\(∃ a,p=.slice a 0 0)/\∀ x,¬ F i x) \/
     ∃ b o cap vs T,p=.slice (some ⟨b,o,none⟩) xs.length cap/\(∀ x,F i x↔x=b)/\w.heap[b]?=some (.cells vs T (0,0))/\xs.length<=cap/\o+cap*sz<=vs.size /\
      Xc3 H xs.flatten ((vs.toList.drop o).take (xs.length*sz))):=by
 obtain⟨p,hp,h0,hs,h1,h2,h3,h4⟩:=h.own i _ (Xa4 hc (by simp))
 obtain⟨p1,p2⟩:=p
 simp only at h0 hs h4
 subst h0
 refine⟨p2,hp,hs,h1,h2,h3,?_⟩
 rcases h4 with h4|⟨b,o,cap,vs,T,e1,e2,e3,e4,e5,e6⟩
 ·exact .inl h4
 ·refine .inr ⟨b,o,cap,vs,T,e1,e2,e3,e4,e5,?_⟩
  have hle:xs.length*sz<=cap*sz:=Nat.mul_le_mul_right _ e4
  refine Xal.of_get (by rw[flat_len h2];simp;omega) fun k x y hx hy=>?_
  rw[List.getElem?_take] at hy
  split at hy
  ·rename_i hk
   rw[List.getElem?_drop] at hy
   obtain⟨x',y',g1,g2,g3⟩:=Xn5 h1 h2 hk
   rw[g3] at hx;cases hx
   obtain⟨q,hq,hd⟩:=e6 _ _ _ _ g1 g2
   have ek:o+k / sz*sz+k % sz=o+k:=by have:=Nat.div_add_mod k sz;rw[Nat.mul_comm] at this;omega
   rw[ek] at hq
   rw[Array.getElem?_toList,hq] at hy
   cases hy;exact hd
  ·cases hy
theorem SatX.rp (h:SatX S Y s a w H an F ms) {i ver sz e off:Nat} {b o n c:Nat} {u:Value} (hb:an i=some (ver,.slice (some ⟨b,o,none⟩) n c)) (hu:Xax H an (.one (.rp i ver sz e off)) u) :
  u=.pointer (some ⟨b,o+e*sz+off,none⟩):=by
 obtain⟨b0,q,rfl,p,hp,_,he⟩:=hu
 rw[hb] at hp;cases hp
 obtain⟨rfl,rfl⟩:=he rfl b o n c rfl
 rfl
theorem Xc3.elem {xs:List (List D)} {sz i:Nat} {x:List D} {vs:List Value} (h1:∀ x∈xs,x.length=sz) (hx:xs[i]?=some x) (h:Xc3 H xs.flatten vs) :
  Xc3 H x ((vs.drop (i*sz)).take sz):=by
 have hl:=h.length
 rw[flat_len h1] at hl
 have hi:=(List.getElem?_eq_some_iff.1 hx).1
 have hxl:=h1 x (List.mem_of_getElem? hx)
 have hb:i*sz+sz<=xs.length*sz:=by
  have:(i+1)*sz<=xs.length*sz:=Nat.mul_le_mul_right _ hi
  rw[Nat.add_mul] at this;omega
 refine Xal.of_get (by simp;omega) fun j y q hy hq=>?_
 obtain⟨q',hq',hd⟩:=h.get (Xds h1 hx hy)
 rw[List.getElem?_take] at hq
 split at hq
 ·rw[List.getElem?_drop,hq'] at hq;cases hq;exact hd
 ·cases hq
theorem X3s {t:TypeId} {x:Operand} {n:Nat} (h:SatX S Y s a w H an F ms) (ho:o.op=.load t x) (hn:szOf S.P t=some n)
  (hv:(isAggB S.P t=true\/n=1)/\match evO s.fr (Xac x) with
  | .one (.ptr i off)=>(match Xak s.own i with
   | .cells cs=>off+n<=cs.length/\v=mkV (isAggB S.P t) ((cs.drop off).take n)
   | _=>False)
  | .one (.d (.bx cs))=>n<=cs.length/\v=mkV (isAggB S.P t) ((cs.take n).map .d)
  | .one (.rp i ver sz e off)=>(match Xak s.own i with
   | .row sz' ver' xs=>sz'=sz/\ver'=ver/\∃ x,xs[e]?=some x/\off+n<=x.length/\v=mkV (isAggB S.P t) (((x.drop off).take n).map .d)
   | .rowA sz' ver' xs=>sz'=sz/\ver'=ver/\∃ x,xs[e]?=some x/\off+n<=x.length/\v=mkV (isAggB S.P t) ((x.drop off).take n)
   | _=>False)
  | .one (.d (.raw (.pointer (some ⟨g,0,none⟩))))=>∃ cells T fz ds,S.gp g=some (.cells cells T fz)/\Xhl cells.toList=some ds/\n<=ds.length/\v=mkV (isAggB S.P t) ((ds.take n).map .d)
  | _=>False):Xbj S Y s.fr s.own a ms v ((execOp a.eval o).run S.P w):=by
 obtain⟨hag,hv⟩:=hv
 have fin:∀ (b of:Nat) (vs:List Value) (l:List A),a.eval x=.pointer (some ⟨b,of,none⟩)->vs.length=n->Xaz H an l vs->(∀ j v,vs[j]?=some v->w.cell? ⟨b,of+j,none⟩=some v) ->
   v=mkV (isAggB S.P t) l->Xbj S Y s.fr s.own a ms v ((execOp a.eval o).run S.P w):=by
  rintro b of vs l hx hl hd hc rfl
  refine Xbj.same h (u:=if isAggB S.P t then .agg vs.toArray else vs.headD undef) ?_ (X3o hd (hag.imp id (fun e=>by rw[hd.length,hl];exact e)))
  simp only[execOp,ho,Instr.loadAt,hx,Sem.run_bind,Instr.sureAddr,Sem.run_pure,Result.andThen_ok,run_loadVar' hn hag b of vs hl hc]
 have hx:=h.ev x
 split at hv
 ·rename_i i off e
  rw[e] at hx
  split at hv
  ·rename_i cs hc
   obtain⟨hle,hv⟩:=hv
   obtain⟨b,T,vs,hb,hF,hh,hd⟩:=h.box hc
   have hlv:=hd.length
   refine fin b off ((vs.drop off).take n) _ (h.ptr hb hx) (by simp;omega) ((hd.drop off).take n) (fun j q hq=>?_) hv
   rw[cell_of_heap hh]
   rw[List.getElem?_take] at hq
   split at hq
   ·rw[List.getElem?_drop] at hq;simpa using hq
   ·cases hq
  ·exact hv.elim
 ·rename_i cs e
  rw[e] at hx
  obtain⟨hle,hv⟩:=hv
  obtain⟨b,of,cells,T,fz,vs,hu,hb,hh,hd,hc⟩:=Wxe h.mod hx
  have hlv:=hd.length
  refine fin b of (vs.take n) _ hu (by simp;omega) (Xc3.den_d (hd.take n)) (fun j q hq=>?_) hv
  rw[cell_of_heap hh]
  rw[List.getElem?_take] at hq
  split at hq
  ·exact hc j q hq
  ·cases hq
 ·rename_i i ver sz e off ee
  rw[ee] at hx
  split at hv
  ·rename_i sz' ver' xs hc
   obtain⟨rfl,rfl,y,hy,hle,hv⟩:=hv
   obtain⟨p,hp,_,hs,h1,h2,h4⟩:=h.row hc
   rcases h4 with ⟨rfl,_⟩|⟨b,of,cap,vs,T,rfl,e2,e3,e4,e5,e6⟩
   ·simp at hy
   ·have hd:=Xc3.elem h1 hy e6
    have hyl:=h1 y (List.mem_of_getElem? hy)
    have hi:=(List.getElem?_eq_some_iff.1 hy).1
    have hlv:=hd.length
    refine fin b (of+e*sz'+off) _ _ (h.rp hp hx) ?_ (Xc3.den_d ((hd.drop off).take n)) (fun j q hq=>?_) hv
    ·have hdl:=((hd.drop off).take n).length
     rw[<- hdl];simp;omega
    ·rw[cell_of_heap e3]
     rw[List.getElem?_take] at hq
     split at hq
     ·rw[List.getElem?_drop,List.getElem?_take] at hq
      split at hq
      ·rw[List.getElem?_drop,List.getElem?_take] at hq
       split at hq
       ·rw[List.getElem?_drop] at hq
        rw[<- Array.getElem?_toList,<- hq];congr 1;omega
       ·cases hq
      ·cases hq
     ·cases hq
  ·rename_i sz' ver' xs hc
   obtain⟨rfl,rfl,y,hy,hle,hv⟩:=hv
   obtain⟨⟨u,p⟩,hp,h0,h1,h2,h3,b,of,cap,vs,T,e1,e2,e3,e4,e5,e6⟩:=h.own i _ (Xa4 hc (by simp))
   simp only at h0 e1
   subst h0 e1
   have hyl:=h2 y (List.mem_of_getElem? hy)
   have hi:=(List.getElem?_eq_some_iff.1 hy).1
   have hb2:e*sz'+sz'<=cap*sz':=by
    have:(e+1)*sz'<=cap*sz':=Nat.mul_le_mul_right _ (by omega)
    rw[Nat.add_mul] at this;omega
   have hsz:vs.toList.length=vs.size:=by simp
   refine fin b (of+e*sz'+off) ((vs.toList.drop (of+e*sz'+off)).take n) ((y.drop off).take n) (h.rp hp hx) (by rw[List.length_take,List.length_drop,hsz];omega) (Xal.of_get (by rw[List.length_take,List.length_take,List.length_drop,List.length_drop,hsz];omega) fun k z q hz hq=>?_) (fun j q hq=>?_) hv
   ·rw[List.getElem?_take] at hz hq
    split at hz
    ·rename_i hkn
     rw[if_pos hkn] at hq
     rw[List.getElem?_drop] at hz hq
     obtain⟨q',hq',hd⟩:=e6 _ _ _ _ hy hz
     rw[Array.getElem?_toList,show of+e*sz'+off+k=of+e*sz'+(off+k) from by omega,hq'] at hq
     cases hq;exact hd
    ·cases hz
   ·rw[cell_of_heap e3]
    rw[List.getElem?_take] at hq
    split at hq
    ·rw[List.getElem?_drop] at hq
     rw[<- Array.getElem?_toList,<- hq]
    ·cases hq
  ·exact hv.elim
 ·rename_i g e
  rw[e] at hx
  obtain⟨cells,T,fz,ds,hg,hds,hle,hv⟩:=hv
  have hd:=Xhn H hds
  have hlv:=hd.length
  have hh:=h.mod g _ (h.gp g _ hg)
  refine fin g 0 (cells.toList.take n) _ (Xkn hx) (by simp;simp at hlv;omega) (Xc3.den_d (hd.take n)) (fun j q hq=>?_) hv
  rw[cell_of_heap hh]
  rw[List.getElem?_take] at hq
  split at hq
  ·simpa using hq
  ·cases hq
 ·exact hv.elim
theorem X10 {t:TypeId} {x y:Operand} {n:Nat} {own':List Ch} (h:SatX S Y s a w H an F ms) (ho:o.op=.store t x y) (hn:szOf S.P t=some n)
  (hv:(evO s.fr (Xac y)).ok=true/\(evO s.fr (Xac y)).cells.length=n/\v=.un/\match evO s.fr (Xac x) with
  | .one (.ptr i off)=>(match Xak s.own i with
   | .cells cs=>off+n<=cs.length/\Xbt (evO s.fr (Xac y)).cells=true/\own'=Xb1 s.own i (.cells (cs.take off++(evO s.fr (Xac y)).cells++cs.drop (off+n)))
   | _=>False)
  | .one (.rp i ver sz e off)=>(match Xak s.own i with
   | .row sz' ver' xs=>sz'=sz/\ver'=ver/\∃ x ds,xs[e]?=some x/\off+n<=x.length/\Xju (evO s.fr (Xac y)).cells=some ds/\own'=Xb1 s.own i (.row sz ver (xs.set e (x.take off++ds++x.drop (off+n))))
   | .rowA sz' ver' xs=>sz'=sz/\ver'=ver/\∃ x,xs[e]?=some x/\off+n<=x.length/\Xbt (evO s.fr (Xac y)).cells=true/\own'=Xb1 s.own i (.rowA sz ver (xs.set e (x.take off++(evO s.fr (Xac y)).cells++x.drop (off+n))))
   | _=>False)
  | _=>False):Xbj S Y s.fr own' a ms v ((execOp a.eval o).run S.P w):=by
 obtain⟨hk,hlen,rfl,hv⟩:=hv
 have hx:=h.ev x
 obtain⟨us,hu,hdu,_⟩:=(h.ev y).cells hk
 have hul:us.length=n:=by rw[<- hdu.length];exact hlen
 split at hv
 ·rename_i i off e
  rw[e] at hx
  split at hv
  ·rename_i cs hc
   obtain⟨hle,hsol,rfl⟩:=hv
   obtain⟨b,T,vs,hb,hF,hh,hd⟩:=h.box hc
   have hlv:=hd.length
   obtain⟨w',hr,hw,hh'⟩:=run_storeVar' (P:=S.P) hn b off (a.eval y) us vs T hu hul (Xfg hdu hsol) hh (by omega)
   refine⟨.skip,undef,w',H,an,F,?_,.inr ⟨rfl,rfl⟩,?_,trivial⟩
   ·simp only[execOp,ho,Instr.storeAt,h.ptr hb hx,Sem.run_bind,Instr.sureAddr,Sem.run_pure,Result.andThen_ok,hr]
   ·rw[Xat]
    exact h.set_own hb hF hw ⟨rfl,b,T,_,rfl,hF,hh',((hd.take off).append hdu).append (hd.drop (off+n))⟩
  ·exact hv.elim
 ·rename_i i ver sz e off ee
  rw[ee] at hx
  split at hv
  ·rename_i sz' ver' xs hc
   obtain⟨rfl,rfl,q,ds,hq,hle,hds,rfl⟩:=hv
   obtain⟨p,hp,hps,hs,h1,h2,h4⟩:=h.row hc
   rcases h4 with ⟨rfl,_⟩|⟨b,of,cap,vs,T,rfl,e2,e3,e4,e5,e6⟩
   ·simp at hq
   ·have hql:=h1 q (List.mem_of_getElem? hq)
    have hi:=(List.getElem?_eq_some_iff.1 hq).1
    have hcap:e*sz'+sz'<=cap*sz':=by
     have:(e+1)*sz'<=cap*sz':=Nat.mul_le_mul_right _ (by omega)
     rw[Nat.add_mul] at this;omega
    have hdd:=Xdq hds hdu
    have hdl:=hdd.length
    obtain⟨w',hr,hw,hh'⟩:=run_storeVar' (P:=S.P) hn b (of+e*sz'+off) (a.eval y) us vs.toList T hu hul (fun v hv=>by
     obtain⟨k,hk1⟩:=List.mem_iff_getElem?.1 hv
     have hlt:=(List.getElem?_eq_some_iff.1 hk1).1
     have:ds[k]?=some (ds[k]'(by omega)):=List.getElem?_eq_getElem (by omega)
     obtain⟨q',hq',hd'⟩:=hdd.get this
     rw[hk1] at hq';cases hq';exact hd'.oneCell) (by simpa using e3) (by simp;omega)
    refine⟨.skip,undef,w',H,an,F,?_,.inr ⟨rfl,rfl⟩,?_,trivial⟩
    ·simp only[execOp,ho,Instr.storeAt,h.rp hp hx,Sem.run_bind,Instr.sureAddr,Sem.run_pure,Result.andThen_ok,hr]
    ·rw[Xat]
     have hnl:(q.take off++ds++q.drop (off+n)).length=sz':=by simp;omega
     have h1':∀ y∈xs.set e (q.take off++ds++q.drop (off+n)),y.length=sz':=by
      intro y hy
      rcases List.mem_or_eq_of_mem_set hy with hy|hy
      ·exact h1 y hy
      ·rw[hy];exact hnl
     refine h.set_own hp e2 hw ⟨rfl,hps,hs,h1',by simpa using h2,.inr ⟨b,of,cap,_,T,by simp,e2,hh',by simpa using e4,by simp;omega,?_⟩⟩
     -- the elements' cells
     have hvl:of+cap*sz'<=vs.toList.length:=by simpa using e5
     have hcell:∀ k,(of+e*sz'+off<=k/\k < of+e*sz'+off+n->(vs.toList.take (of+e*sz'+off)++us++vs.toList.drop (of+e*sz'+off+n))[k]?=us[k - (of+e*sz'+off)]?) /\
       (¬ (of+e*sz'+off<=k/\k < of+e*sz'+off+n)->(vs.toList.take (of+e*sz'+off)++us++vs.toList.drop (of+e*sz'+off+n))[k]?=vs[k]?):=by
      intro k
      have htl:(vs.toList.take (of+e*sz'+off)).length=of+e*sz'+off:=by simp at hvl ⊢;omega
      constructor
      ·intro hk
       rw[List.append_assoc,List.getElem?_append_right (by omega),htl,List.getElem?_append_left (by omega)]
      ·intro hk
       by_cases hk1:k < of+e*sz'+off
       ·rw[List.append_assoc,List.getElem?_append_left (by omega),List.getElem?_take,if_pos hk1,Array.getElem?_toList]
       ·rw[List.getElem?_append_right (by simp;simp at hvl;omega),List.getElem?_drop]
        have:(vs.toList.take (of+e*sz'+off)++us).length=of+e*sz'+off+n:=by rw[List.length_append,htl,hul]
        rw[this,Array.getElem?_toList];congr 1;omega
     intro i' x' j' y' hx' hy'
     have hj':j' < sz':=by
      have h3:=h1' x' (List.mem_of_getElem? hx')
      have:=(List.getElem?_eq_some_iff.1 hy').1;omega
     rw[List.getElem?_toArray]
     rw[List.getElem?_set] at hx'
     by_cases he:e=i'
     ·subst he
      simp only[if_true] at hx'
      split at hx'
      ·cases hx'
       by_cases hin:off<=j'/\j' < off+n
       ·rw[(hcell _).1 ⟨by omega,by omega⟩]
        have:(q.take off++ds++q.drop (off+n))[j']?=ds[j' - off]?:=by
         have htl:(q.take off).length=off:=by simp;omega
         rw[List.append_assoc,List.getElem?_append_right (by omega),htl,List.getElem?_append_left (by omega)]
        rw[this] at hy'
        obtain⟨g,hg,hgd⟩:=hdd.get hy'
        refine⟨g,?_,hgd⟩
        rw[<- hg];congr 1;omega
       ·rw[(hcell _).2 (by omega)]
        have:(q.take off++ds++q.drop (off+n))[j']?=q[j']?:=by
         have htl:(q.take off).length=off:=by simp;omega
         by_cases hk1:j' < off
         ·rw[List.append_assoc,List.getElem?_append_left (by omega),List.getElem?_take,if_pos hk1]
         ·rw[List.getElem?_append_right (by simp;omega),List.getElem?_drop]
          have:(q.take off++ds).length=off+n:=by rw[List.length_append,htl];omega
          rw[this];congr 1;omega
        rw[this] at hy'
        obtain⟨g,hg,hgd⟩:=e6.get (Xds h1 hq hy')
        refine⟨g,?_,hgd⟩
        rw[List.getElem?_take] at hg
        split at hg
        ·rw[List.getElem?_drop] at hg;rw[<- Array.getElem?_toList,<- hg];congr 1;omega
        ·cases hg
      ·rename_i hno;exact absurd hi hno
     ·rw[if_neg he] at hx'
      rw[(hcell _).2 (by
       rcases Nat.lt_or_gt_of_ne he with hlt|hlt
       ·have:(e+1)*sz'<=i'*sz':=Nat.mul_le_mul_right _ hlt
        rw[Nat.add_mul] at this;omega
       ·have:(i'+1)*sz'<=e*sz':=Nat.mul_le_mul_right _ hlt
        rw[Nat.add_mul] at this;omega)]
      obtain⟨g,hg,hgd⟩:=e6.get (Xds h1 hx' hy')
      refine⟨g,?_,hgd⟩
      rw[List.getElem?_take] at hg
      split at hg
      ·rw[List.getElem?_drop] at hg;rw[<- Array.getElem?_toList,<- hg];congr 1;omega
      ·cases hg
  ·rename_i sz' ver' xs hc
   obtain⟨rfl,rfl,q,hq,hle,hsol,rfl⟩:=hv
   obtain⟨⟨u,p⟩,hp,h0,h1,h2,h3,b,of,cap,vs,T,e1,e2,e3,e4,e5,e6⟩:=h.own i _ (Xa4 hc (by simp))
   simp only at h0 e1
   subst h0 e1
   have hql:=h2 q (List.mem_of_getElem? hq)
   have hi:=(List.getElem?_eq_some_iff.1 hq).1
   have hcap:e*sz'+sz'<=cap*sz':=by
    have:(e+1)*sz'<=cap*sz':=Nat.mul_le_mul_right _ (by omega)
    rw[Nat.add_mul] at this;omega
   obtain⟨w',hr,hw,hh'⟩:=run_storeVar' (P:=S.P) hn b (of+e*sz'+off) (a.eval y) us vs.toList T hu hul (Xfg hdu hsol) (by simpa using e3) (by simp;omega)
   refine⟨.skip,undef,w',H,an,F,?_,.inr ⟨rfl,rfl⟩,?_,trivial⟩
   ·simp only[execOp,ho,Instr.storeAt,h.rp hp hx,Sem.run_bind,Instr.sureAddr,Sem.run_pure,Result.andThen_ok,hr]
   ·rw[Xat]
    have hdl:=hdu.length
    have hnl:(q.take off++(evO s.fr (Xac y)).cells++q.drop (off+n)).length=sz':=by simp;omega
    have h1':∀ z∈xs.set e (q.take off++(evO s.fr (Xac y)).cells++q.drop (off+n)),z.length=sz':=by
     intro z hz
     rcases List.mem_or_eq_of_mem_set hz with hz|hz
     ·exact h2 z hz
     ·rw[hz];exact hnl
    refine h.set_own hp e2 hw ⟨rfl,h1,h1',by simpa using h3,b,of,cap,_,T,by simp,e2,hh',by simpa using e4,by simp;omega,?_⟩
    have hvl:of+cap*sz'<=vs.toList.length:=by simpa using e5
    have hcell:∀ k,(of+e*sz'+off<=k/\k < of+e*sz'+off+n->(vs.toList.take (of+e*sz'+off)++us++vs.toList.drop (of+e*sz'+off+n))[k]?=us[k - (of+e*sz'+off)]?) /\
      (¬ (of+e*sz'+off<=k/\k < of+e*sz'+off+n)->(vs.toList.take (of+e*sz'+off)++us++vs.toList.drop (of+e*sz'+off+n))[k]?=vs[k]?):=by
     intro k
     have htl:(vs.toList.take (of+e*sz'+off)).length=of+e*sz'+off:=by simp at hvl ⊢;omega
     constructor
     ·intro hk
      rw[List.append_assoc,List.getElem?_append_right (by omega),htl,List.getElem?_append_left (by omega)]
     ·intro hk
      by_cases hk1:k < of+e*sz'+off
      ·rw[List.append_assoc,List.getElem?_append_left (by omega),List.getElem?_take,if_pos hk1,Array.getElem?_toList]
      ·rw[List.getElem?_append_right (by simp;simp at hvl;omega),List.getElem?_drop]
       have:(vs.toList.take (of+e*sz'+off)++us).length=of+e*sz'+off+n:=by rw[List.length_append,htl,hul]
       rw[this,Array.getElem?_toList];congr 1;omega
    intro i' x' j' y' hx' hy'
    have hj':j' < sz':=by
     have h3:=h1' x' (List.mem_of_getElem? hx')
     have:=(List.getElem?_eq_some_iff.1 hy').1;omega
    rw[List.getElem?_toArray]
    rw[List.getElem?_set] at hx'
    by_cases he:e=i'
    ·subst he
     simp only[if_true] at hx'
     split at hx'
     ·cases hx'
      by_cases hin:off<=j'/\j' < off+n
      ·rw[(hcell _).1 ⟨by omega,by omega⟩]
       have:(q.take off++(evO s.fr (Xac y)).cells++q.drop (off+n))[j']?=(evO s.fr (Xac y)).cells[j' - off]?:=by
        have htl:(q.take off).length=off:=by simp;omega
        rw[List.append_assoc,List.getElem?_append_right (by omega),htl,List.getElem?_append_left (by omega)]
       rw[this] at hy'
       obtain⟨g,hg,hgd⟩:=hdu.get hy'
       refine⟨g,?_,hgd⟩
       rw[<- hg];congr 1;omega
      ·rw[(hcell _).2 (by omega)]
       have:(q.take off++(evO s.fr (Xac y)).cells++q.drop (off+n))[j']?=q[j']?:=by
        have htl:(q.take off).length=off:=by simp;omega
        by_cases hk1:j' < off
        ·rw[List.append_assoc,List.getElem?_append_left (by omega),List.getElem?_take,if_pos hk1]
        ·rw[List.getElem?_append_right (by simp;omega),List.getElem?_drop]
         have:(q.take off++(evO s.fr (Xac y)).cells).length=off+n:=by rw[List.length_append,htl];omega
         rw[this];congr 1;omega
       rw[this] at hy'
       exact e6 _ _ _ _ hq hy'
     ·rename_i hno;exact absurd hi hno
    ·rw[if_neg he] at hx'
     rw[(hcell _).2 (by
      rcases Nat.lt_or_gt_of_ne he with hlt|hlt
      ·have:(e+1)*sz'<=i'*sz':=Nat.mul_le_mul_right _ hlt
       rw[Nat.add_mul] at this;omega
      ·have:(i'+1)*sz'<=e*sz':=Nat.mul_le_mul_right _ hlt
       rw[Nat.add_mul] at this;omega)]
     exact e6 _ _ _ _ hx' hy'
  ·exact hv.elim
 ·exact hv.elim
end
end Go.Fw
namespace Go.Fw
open Go
section
variable {S:Sx} {Y:Dyn} {s:St} {a:Act} {w:World} {H:Heap} {an:Anc} {F:Nat->Nat->Prop} {ms:List Nat} {o:Oper} {v:V}
theorem Yn5 {t:TypeId} {x:Operand} {f n:Nat} {fs:Array Field} {g:Field} (h:SatX S Y s a w H an F ms) (ho:o.op=.fieldAddr t x f) (ht:S.P.underlying t=some (.struct fs)) (hg:fs[f]?=some g)
  (hn:szOf S.P g.type=some n) (hn0:n≠0)
  (hv:match evO s.fr (Xac x) with
  | .one (.ptr i o)=>v=.one (.ptr i (o+g.offset))
  | .one (.d (.bx cs))=>v=.one (.d (.bx (cs.drop g.offset)))
  | .one (.rp i ver sz e o)=>v=.one (.rp i ver sz e (o+g.offset))
  | _=>False):Xbj S Y s.fr s.own a ms v ((execOp a.eval o).run S.P w):=by
 have hx:=h.ev x
 have fin:∀ (b of:Nat),a.eval x=.pointer (some ⟨b,of,none⟩)->Xax H an v (.pointer (some ⟨b,of+g.offset,none⟩))->Xbj S Y s.fr s.own a ms v ((execOp a.eval o).run S.P w):=by
  intro b of he hd
  refine Xbj.same h (u:=.pointer (some ⟨b,of+g.offset,none⟩)) ?_ hd
  simp only[execOp,ho,Instr.fieldAt,Sem.run_bind,Go.run_underlying ht,Result.andThen_ok,hg,he,Instr.sureAddr,Sem.run_pure,fieldPlace,Xav hn,Sem.run_ite,if_neg hn0]
  simp[Xdr]
 split at hv
 ·rename_i i off e
  rw[e] at hx
  obtain⟨b,hu,p,hp,he⟩:=hx
  subst hv
  exact fin b off hu ⟨b,rfl,p,hp,he⟩
 ·rename_i cs e
  rw[e] at hx
  subst hv
  generalize hu:a.eval x=u at hx
  cases hx with
  | bx cs b of cells T fz f hb hf hd =>
   refine fin b of hu (Den.bx _ b _ cells T fz (fun j=>f (g.offset+j)) hb (fun j y hy=>?_) (fun j y hy=>?_))
   ·rw[List.getElem?_drop] at hy;rw[<- hf _ y hy];congr 1;omega
   ·rw[List.getElem?_drop] at hy;exact hd _ y hy
 ·rename_i i ver sz e off ee
  rw[ee] at hx
  obtain⟨b,q,hu,p,hp,hle,he⟩:=hx
  subst hv
  exact fin b _ hu ⟨b,q,by rw[Nat.add_assoc (q+e*sz)],p,hp,hle,he⟩
 ·exact hv.elim
theorem Yn6 {t e:TypeId} {x i:Operand} {n:Nat} (h:SatX S Y s a w H an F ms) (ho:o.op=.indexAddr t x i) (ht:S.P.underlying t=some (.slice e)) (hn:szOf S.P e=some n)
  (hv:match evO s.fr (Xac x),evO s.fr (Xac i) with
  | .one (.d (.sl xs)),.one (.d (.int _ q))=>∃ cs,0<=q/\xs[q.toNat]?=some cs/\cs.length=n/\v=.one (.d (.bx cs))
  | .one (.own j ver),.one (.d (.int _ q))=>(match Xak s.own j with
   | .row sz' ver' xs=>sz'=n/\ver'=ver/\0<=q/\q.toNat < xs.length/\v=.one (.rp j ver n q.toNat 0)
   | .rowA sz' ver' xs=>sz'=n/\ver'=ver/\0<=q/\q.toNat < xs.length/\v=.one (.rp j ver n q.toNat 0)
   | _=>False)
  | _,_=>False):Xbj S Y s.fr s.own a ms v ((execOp a.eval o).run S.P w):=by
 have hx:=h.ev x
 have hi:=h.ev i
 have fin:∀ (b of len cap:Nat) (k:IntKind) (q:Int),a.eval x=.slice (some ⟨b,of,none⟩) len cap->a.eval i=.int k q->0<=q->q.toNat < len->Xax H an v (.pointer (some ⟨b,of+q.toNat*n,none⟩)) ->
   Xbj S Y s.fr s.own a ms v ((execOp a.eval o).run S.P w):=by
  intro b of len cap k q he hq h0 hl hd
  refine Xbj.same h (u:=.pointer (some ⟨b,of+q.toNat*n,none⟩)) ?_ hd
  have hq':0<=q/\q < (len:Int):=⟨h0,by omega⟩
  simp only[execOp,ho,Instr.indexAt,Sem.run_bind,hq,asIntOf,Sem.run_pure,Go.run_underlying ht,Result.andThen_ok,he,Sem.run_ite,if_pos hq',Xav hn,Xdr]
 split at hv
 ·rename_i xs k q e1 e2
  rw[e1] at hx;rw[e2] at hi
  obtain⟨cs,h0,hcs,hcl,rfl⟩:=hv
  generalize hu:a.eval x=u at hx
  cases hx with
  | slE A c=>simp at hcs
  | sl xs b of c sz cells T fz f hb hs hc hl hf hd =>
   have hcz:=hs cs (List.mem_of_getElem? hcs)
   have hsz:sz=n:=by omega
   subst hsz
   refine fin b of _ c k q hu (Xbl hi) h0 (List.getElem?_eq_some_iff.1 hcs).1 (Den.bx _ b _ cells T fz (fun j=>f q.toNat j) hb (fun j y hy=>hf _ _ _ _ hcs hy) (fun j y hy=>hd _ _ _ _ hcs hy))
 ·rename_i j ver k q e1 e2
  rw[e1] at hx;rw[e2] at hi
  split at hv
  ·rename_i sz' ver' xs hc
   obtain⟨rfl,rfl,h0,hl,rfl⟩:=hv
   obtain⟨p,hp,_,hs,h1,h2,h4⟩:=h.row hc
   obtain⟨_,p',hp',hle,he⟩:=hx
   rw[hp] at hp';cases hp'
   rcases h4 with ⟨rfl,_⟩|⟨b,of,cap,vs,T,rfl,e3,_⟩
   ·simp at hl
   ·exact fin b of _ cap k q (he rfl) (Xbl hi) h0 hl ⟨b,of,by simp,_,hp,hle,fun _ b' o' n' c' e'=>by cases e';exact⟨rfl,rfl⟩⟩
  ·rename_i sz' ver' xs hc
   obtain⟨rfl,rfl,h0,hl,rfl⟩:=hv
   obtain⟨⟨u,p⟩,hp,g0,g1,g2,g3,b,of,cap,vs,T,g4,_⟩:=h.own j _ (Xa4 hc (by simp))
   simp only at g0 g4
   subst g0 g4
   obtain⟨_,p',hp',hle,he⟩:=hx
   rw[hp] at hp';cases hp'
   exact fin b of _ cap k q (he rfl) (Xbl hi) h0 hl ⟨b,of,by simp,_,hp,hle,fun _ b' o' n' c' e'=>by cases e';exact⟨rfl,rfl⟩⟩
  ·exact hv.elim
 ·exact hv.elim
theorem X3t {t e:TypeId} {x i:Operand} {len n:Nat} (h:SatX S Y s a w H an F ms) (ho:o.op=.indexAddr t x i) (ht:S.P.underlying t=some (.array len e)) (hn:szOf S.P e=some n)
  (hv:match evO s.fr (Xac x),evO s.fr (Xac i) with
  | .one (.ptr j off),.one (.d (.int _ q))=>∃ m:Nat,q=m/\m < len/\v=.one (.ptr j (off+m*n))
  | .one (.d (.bx cs)),.one (.d (.int _ q))=>∃ m:Nat,q=m/\m < len/\v=.one (.d (.bx (cs.drop (m*n))))
  | .one (.d (.raw (.pointer (some ⟨g,0,none⟩)))),.one (.d (.int _ q))=>∃ (m:Nat) (cells:Array Value) (T:TypeId) (fz:Nat × Nat) (ds:List D),q=m/\m < len/\S.gp g=some (.cells cells T fz)/\Xhl cells.toList=some ds/\v=.one (.d (.bx (ds.drop (m*n))))
  | _,_=>False):Xbj S Y s.fr s.own a ms v ((execOp a.eval o).run S.P w):=by
 have hx:=h.ev x
 have hi:=h.ev i
 have fin:∀ (b of:Nat) (k:IntKind) (m:Nat),a.eval x=.pointer (some ⟨b,of,none⟩)->a.eval i=.int k m->m < len->Xax H an v (.pointer (some ⟨b,of+m*n,none⟩)) ->
   Xbj S Y s.fr s.own a ms v ((execOp a.eval o).run S.P w):=by
  intro b of k m he hq hl hd
  refine Xbj.same h (u:=.pointer (some ⟨b,of+m*n,none⟩)) ?_ hd
  have hq':0<=(m:Int)/\(m:Int) < (len:Int):=⟨by omega,by omega⟩
  simp only[execOp,ho,Instr.indexAt,Sem.run_bind,hq,asIntOf,Sem.run_pure,Go.run_underlying ht,Result.andThen_ok,he,Instr.sureAddr,Sem.run_ite,if_pos hq',Xav hn,Xdr,Int.toNat_natCast]
 split at hv
 ·rename_i j off k q e1 e2
  rw[e1] at hx;rw[e2] at hi
  obtain⟨m,rfl,hm,rfl⟩:=hv
  obtain⟨b,hu,p,hp,he⟩:=hx
  exact fin b off k m hu (Xbl hi) hm ⟨b,rfl,p,hp,he⟩
 ·rename_i cs k q e1 e2
  rw[e1] at hx;rw[e2] at hi
  obtain⟨m,rfl,hm,rfl⟩:=hv
  generalize hu:a.eval x=u at hx
  cases hx with
  | bx cs b of cells T fz f hb hf hd =>
   refine fin b of k m hu (Xbl hi) hm (Den.bx _ b _ cells T fz (fun j=>f (m*n+j)) hb (fun j y hy=>?_) (fun j y hy=>?_))
   ·rw[List.getElem?_drop] at hy;rw[<- hf _ y hy];congr 1;omega
   ·rw[List.getElem?_drop] at hy;exact hd _ y hy
 ·rename_i g k q e1 e2
  rw[e1] at hx;rw[e2] at hi
  obtain⟨m,cells,T,fz,ds,rfl,hm,hg,hds,rfl⟩:=hv
  have hd:=Xhn H hds
  refine fin g 0 k m (Xkn hx) (Xbl hi) hm (Den.bx _ g _ cells T fz (fun j=>cells.getD (m*n+j) undef) (h.gp g _ hg) (fun j y hy=>?_) (fun j y hy=>?_))
  ·rw[List.getElem?_drop] at hy
   obtain⟨q,hq,_⟩:=hd.get hy
   rw[Array.getElem?_toList] at hq
   simp[hq,X3r hq]
  ·rw[List.getElem?_drop] at hy
   obtain⟨q,hq,hd'⟩:=hd.get hy
   rw[Array.getElem?_toList] at hq
   rw[X3r hq];exact hd'
 ·exact hv.elim
theorem X3u {t:TypeId} {x i:Operand} (h:SatX S Y s a w H an F ms) (ho:o.op=.index t x i) (ht:S.P.underlying t=some .string)
  (hv:match evO s.fr (Xac x),evO s.fr (Xac i) with
  | .one (.d (.str s)),.one (.d (.int _ n))=>∃ (m:Nat) (b:UInt8),n=m/\s[m]?=some b/\v=.one (.d (.int .u8 b.toNat))
  | _,_=>False):Xbj S Y s.fr s.own a ms v ((execOp a.eval o).run S.P w):=by
 have hx:=h.ev x
 have hi:=h.ev i
 split at hv
 ·rename_i st k q e1 e2
  rw[e1] at hx;rw[e2] at hi
  obtain⟨m,b,rfl,hb,rfl⟩:=hv
  refine Xbj.same h (u:=.int .u8 b.toNat) ?_ (Den.int _ _)
  simp only[execOp,ho,Instr.index,Sem.run_bind,Xbl hi,asIntOf,Sem.run_pure,Go.run_underlying ht,Result.andThen_ok,Xff hx]
  simp[hb]
 ·exact hv.elim
theorem X3v {t e:TypeId} {len:Nat} {x i:Operand} (h:SatX S Y s a w H an F ms) (ho:o.op=.index t x i) (ht:S.P.underlying t=some (.array len e)) (ha:isAggB S.P e=false) (hn:szOf S.P e=some 1)
  (hv:match evO s.fr (Xac x),evO s.fr (Xac i) with
  | .agg cs,.one (.d (.int _ n))=>∃ (m:Nat) (c:A),n=m/\m < len/\cs[m]?=some c/\v=.one c
  | _,_=>False):Xbj S Y s.fr s.own a ms v ((execOp a.eval o).run S.P w):=by
 have hx:=h.ev x
 have hi:=h.ev i
 split at hv
 ·rename_i cs k q e1 e2
  rw[e1] at hx;rw[e2] at hi
  obtain⟨m,c,rfl,hm,hc,rfl⟩:=hv
  obtain⟨vs,hu,hvs⟩:=hx
  obtain⟨u,hg,hd⟩:=hvs.get hc
  refine Xbj.same h (u:=u) ?_ hd
  obtain⟨i',d,hi',hin,_⟩:=Xe0 hn
  have hag:=Xim (P:=S.P) (w:=w) hn
  rw[ha] at hag
  have hg2:vs.toArray[m]?=some u:=by simpa using hg
  simp only[execOp,ho,Instr.index,Sem.run_bind,Xbl hi,asIntOf,Sem.run_pure,Go.run_underlying ht,Result.andThen_ok,hu]
  simp[hm,sizeOf,typeInfo,hi',hin,part,hag,hg]
 ·exact hv.elim
theorem X3w {xs:List (List D)} {u:Value} (h:Xax H an (.one (.d (.sl xs))) u):∃ A c,u=.slice A xs.length c/\xs.length < lenMax:=by
 cases h with
 | slE A c=>exact⟨A,c,rfl,by simp[lenMax]⟩
 | sl xs b o c sz cells T fz f hb hs hc hl hf hd=>exact⟨_,c,rfl,hl⟩
theorem SatX.evn (h:SatX S Y s a w H an F ms) (x:Operand):Xax H an (evO s.fr (Xac x)).nrm (a.eval x):=(h.ev x).nrm
theorem SatX.map (h:SatX S Y s a w H an F ms) {i:Nat} {es:List (V × V)} (hc:Xak s.own i=.map es) :
  ∃ b ents clk,an i=some (0,.map (some b))/\(∀ x,F i x↔x=b)/\w.heap[b]?=some (.map ents clk)/\Xal (fun e en=>Xam H an e.1 en.key/\Xam H an e.2 en.val) es ents.toList:=by
 obtain⟨p,hp,h0,b,ents,clk,h1,h2,h3,h4⟩:=h.own i _ (Xa4 hc (by simp))
 obtain⟨p1,p2⟩:=p
 simp only at h0 h1
 exact⟨b,ents,clk,by rw[hp,h0,h1],h2,h3,h4⟩
theorem SatX.brow (h:SatX S Y s a w H an F ms) {i ver:Nat} {e:TypeId} {bs:List UInt8} (hc:Xak s.own i=.brow e ver bs) :
  ∃ p,an i=some (ver,p)/\bs.length < lenMax/\(bs=[]->p=.slice none 0 0)/\w.ownsRow 0 e 1 p bs.length (Lib.byteCells bs)/\∀ x,F i x↔p.ownBlock=some x:=by
 obtain⟨p,hp,h0,h1,h2,h3,h4⟩:=h.own i _ (Xa4 hc (by simp))
 obtain⟨p1,p2⟩:=p
 simp only at h0
 subst h0
 exact⟨p2,hp,h1,h2,h3,h4⟩
theorem Xce {i ver:Nat} {p u:Value} (hp:an i=some (ver,p)) (hu:Xax H an (.one (.own i ver)) u):u=p:=by
 obtain⟨_,q,hq,_,he⟩:=hu
 rw[hp] at hq;cases hq
 exact he rfl
theorem Xcf {P:Program} {w:World} {b:Nat} {o:Obj} (h:w.heap[b]?=some o) (hc:∀ c t f,o≠.cells c t f):(getObj b).run P w=.ok o w:=by
 cases o with
 | cells c t f=>exact absurd rfl (hc c t f)
 | _=>simp only[getObj,Sem.run,h]
theorem Xn6 {t:TypeId} {x:Operand} {kd:Leaf} (h:SatX S Y s a w H an F ms) (ho:o.op=.call { callee:=.builtin .len,args:=#[x],argTypes:=#[t] })
  (ht:(kd=.s/\S.P.underlying t=some .string)\/(kd=.i/\∃ e,S.P.underlying t=some (.slice e))\/(kd=.b/\∃ k e,S.P.underlying t=some (.map k e)))
  (hv:X3b kd (evO s.fr (Xac x)).nrm s.own v):Xbj S Y s.fr s.own a ms v ((execOp a.eval o).run S.P w):=by
 have hx:=h.evn x
 have fin:∀ (n:Nat),(Builtin.len_ #[t] o.type #[a.eval x]).run S.P w=.ok (.int .i64 n) w->v=.one (.d (.int .i64 n))->Xbj S Y s.fr s.own a ms v ((execOp a.eval o).run S.P w):=by
  rintro n hr rfl
  refine Xbj.same h (u:=.int .i64 n) ?_ (Den.int _ _)
  simp only[execOp,ho,resolve,invoke,builtin,Sem.run_bind,Sem.run_pure,Result.andThen_ok]
  simp[hr]
 generalize (evO s.fr (Xac x)).nrm=vx at *
 unfold X3b at hv
 split at hv
 ·obtain⟨_,ht⟩|⟨h0,_⟩|⟨h0,_⟩:=ht
  ·exact fin _ (by rw[Xff hx];simp[Builtin.len_,Go.run_underlying ht,goInt]) hv
  ·cases h0
  ·cases h0
 ·obtain⟨h0,_⟩|⟨_,el,ht⟩|⟨h0,_⟩:=ht
  ·cases h0
  ·obtain⟨A,c,hu,_⟩:=X3w hx
   exact fin _ (by rw[hu];simp[Builtin.len_,Go.run_underlying ht,goInt]) hv
  ·cases h0
 ·obtain⟨h0,_⟩|⟨_,el,ht⟩|⟨h0,_⟩:=ht
  ·cases h0
  ·split at hv
   ·rename_i sz ver' xs hc
    obtain⟨rfl,hv⟩:=hv
    obtain⟨p,hp,_,hs,h1,h2,h4⟩:=h.row hc
    have hu:=Xce hp hx
    rcases h4 with ⟨rfl,⟨q,rfl⟩,_⟩|⟨b,of,cap,vs,T,rfl,_⟩
    ·exact fin _ (by rw[hu];simp[Builtin.len_,Go.run_underlying ht,goInt]) hv
    ·exact fin _ (by rw[hu];simp[Builtin.len_,Go.run_underlying ht,goInt]) hv
   ·rename_i e ver' bs hc
    obtain⟨rfl,hv⟩:=hv
    obtain⟨p,hp,_,_,⟨_,h4⟩,_⟩:=h.brow hc
    have hu:=Xce hp hx
    rcases h4 with ⟨rfl,h0⟩|⟨g,cap,cur,rfl,_⟩
    ·refine fin _ ?_ hv
     rw[hu,h0];simp[Builtin.len_,Go.run_underlying ht,goInt]
    ·exact fin _ (by rw[hu];simp[Builtin.len_,Go.run_underlying ht,goInt]) hv
   ·rename_i sz kz ver' xs hc
    obtain⟨rfl,hv⟩:=hv
    obtain⟨⟨u,p⟩,hp,h0,ts,r,q,rfl,hsl,_⟩:=h.own _ _ (Xa4 hc (by simp))
    simp only at h0 hsl
    subst h0
    have hu:=Xce hp hx
    rw[List.length_map] at hv
    obtain⟨_,_,_,_,h4⟩:=hsl
    rcases h4 with ⟨he,⟨g,rfl⟩,_⟩|⟨b,of,cap,vs,T,rfl,_⟩
    ·have:ts=[]:=List.map_eq_nil_iff.1 he
     subst this
     exact fin _ (by rw[hu];simp[Builtin.len_,Go.run_underlying ht,goInt]) hv
    ·exact fin _ (by rw[hu];simp[Builtin.len_,Go.run_underlying ht,goInt]) hv
   ·exact hv.elim
  ·cases h0
 ·obtain⟨h0,_⟩|⟨h0,_⟩|⟨_,kt,el,ht⟩:=ht
  ·cases h0
  ·cases h0
  ·split at hv
   ·rename_i es hc
    obtain⟨b,ents,clk,hb,hF,hh,hd⟩:=h.map hc
    have hu:=Xce hb hx
    have hl:=hd.length
    simp at hl
    exact fin _ (by rw[hu];simp[Builtin.len_,Go.run_underlying ht,goInt,Xcf hh (by simp),hl]) hv
   ·exact hv.elim
 ·exact hv.elim
theorem Xuf {x y:Operand} {tys:Array TypeId} {mx:Bool} (h:SatX S Y s a w H an F ms) (ho:o.op=.call { callee:=.builtin (if mx then .max else .min),args:=#[x,y],argTypes:=tys })
  (hv:match evO s.fr (Xac x),evO s.fr (Xac y) with
  | .one (.d (.int k p)),.one (.d (.int _ q))=>v=.one (.d (.int k (if (if mx then p < q else q < p) then q else p)))
  | _,_=>False):Xbj S Y s.fr s.own a ms v ((execOp a.eval o).run S.P w):=by
 have hx:=h.ev x
 have hy:=h.ev y
 split at hv
 ·rename_i k p k' q e1 e2
  rw[e1] at hx;rw[e2] at hy
  subst hv
  refine Xbj.same h (u:=.int k (if (if mx then p < q else q < p) then q else p)) ?_ (Den.int _ _)
  cases mx
  ·simp only[execOp,ho,resolve,invoke,builtin,Sem.run_bind,Sem.run_pure,Result.andThen_ok,Bool.false_eq_true,if_false]
   simp[Builtin.min_,Builtin.min2,Xbl hx,Xbl hy]
  ·simp only[execOp,ho,resolve,invoke,builtin,Sem.run_bind,Sem.run_pure,Result.andThen_ok,if_true]
   simp[Builtin.max_,Builtin.max2,Xbl hx,Xbl hy]
 ·exact hv.elim
theorem Xfh {k:IntKind} {n:Int} (h:inK k n):k.wrap n=n:=by
 unfold inK at h
 cases k <;> simp[IntKind.min,IntKind.max,IntKind.signed,IntKind.bits] at h <;> simp only[IntKind.wrap,IntKind.signed,IntKind.bits] <;> simp <;> (try split) <;> omega
theorem Xkr (a b:ByteArray):(a.toList==b.toList)=decide (a=b):=by
 rw[ByteArray.toList_eq,ByteArray.toList_eq]
 obtain⟨⟨x⟩⟩:=a
 obtain⟨⟨y⟩⟩:=b
 rw[Bool.eq_iff_iff]
 simp
theorem Xp2 (a b:ByteArray):(a==b)=decide (a=b):=(beq_toListBytes a b).trans (Xkr a b)
theorem Xug (P:Program) (w:World) (op:BinOp) (t:TypeId) (k k':IntKind) (p q:Int) (hk:Yye op=true\/k=k') (h:(Wxa op k p q).1) :
  ∃ u,(binOp op t (.int k p) (.int k' q)).run P w=.ok u w/\Den H (Wxa op k p q).2 u:=by
 cases op <;> simp only[Yye,Bool.false_eq_true,false_or,true_or] at hk <;> (try subst hk) <;> simp only[Wxa] at h ⊢ <;> simp only[binOp,ne_eq,not_true,if_false]
 case add=>exact⟨_,rfl,by rw[Xfh h];exact .int _ _⟩
 case sub=>exact⟨_,rfl,by rw[Xfh h];exact .int _ _⟩
 case mul=>exact⟨_,rfl,by rw[Xfh h];exact .int _ _⟩
 case quo=>refine⟨.int k (p.tdiv q),?_,.int _ _⟩;simp[Op.intDiv,h.1,Xfh h.2]
 case rem=>refine⟨.int k (p.tmod q),?_,.int _ _⟩;simp[Op.intDiv,h]
 case shl=>refine⟨_,?_,.int _ _⟩;simp[Op.shift,show ¬ q < 0 by omega]
 case shr=>refine⟨_,?_,.int _ _⟩;simp[Op.shift,show ¬ q < 0 by omega]
 all_goals first
  | exact⟨_,rfl,.int _ _⟩
  | exact⟨_,rfl,.bool _⟩
theorem Yn7 (P:Program) (w:World) (op:BinOp) (t:TypeId) (p q:ByteArray) (h:(Wxb op p q).1) :
  ∃ u,(binOp op t (.string p) (.string q)).run P w=.ok u w/\Den H (Wxb op p q).2 u:=by
 cases op <;> simp only[Wxb] at h ⊢ <;> (try exact h.elim) <;> simp only[binOp,Op.stringOp,Xkr]
 case add =>
  refine⟨.string (p++q),?_,.str _⟩
  rw[if_neg (by simp[IntKind.max,IntKind.signed,IntKind.bits];omega)]
  rfl
 all_goals exact⟨_,rfl,.bool _⟩
theorem Xn7 {t t2:TypeId} {x y:Operand} {kd:Leaf} {op:BinOp} (h:SatX S Y s a w H an F ms) (ho:o.op=.binOp op t x y t2)
  (ht:match kd with|.b=>S.P.underlying t=some .bool|_=>True)
  (hv:(Xua kd op (evO s.fr (Xac x)) (evO s.fr (Xac y))).1/\v=.one (.d (Xua kd op (evO s.fr (Xac x)) (evO s.fr (Xac y))).2)) :
  Xbj S Y s.fr s.own a ms v ((execOp a.eval o).run S.P w):=by
 obtain⟨hp,rfl⟩:=hv
 have hx:=h.ev x
 have hy:=h.ev y
 have fin:∀ (u:Value),(do eqGuard op t x y (a.eval x) (a.eval y);binOp op t (a.eval x) (a.eval y):Sem Value).run S.P w=.ok u w->Den H (Xua kd op (evO s.fr (Xac x)) (evO s.fr (Xac y))).2 u ->
   Xbj S Y s.fr s.own a ms (.one (.d (Xua kd op (evO s.fr (Xac x)) (evO s.fr (Xac y))).2)) ((execOp a.eval o).run S.P w):=by
  intro u hr hd
  refine Xbj.same h (u:=u) ?_ hd
  simp only[execOp,ho]
  rw[Sem.run_bind,hr];rfl
 generalize evO s.fr (Xac x)=vx at *
 generalize evO s.fr (Xac y)=vy at *
 unfold Xua at hp fin ⊢
 split at hp
 ·rename_i k p k' q
  have ex:=Xbl hx
  have ey:=Xbl hy
  have hk:Yye op=true\/k=k':=by
   by_cases hc:Yye op=true\/k=k'
   ·exact hc
   ·rw[if_neg hc] at hp;exact hp.elim
  simp only[if_pos hk] at hp fin ⊢
  obtain⟨u,hr,hd⟩:=Xug (H:=H) S.P w op t k k' p q hk hp
  refine fin u ?_ hd
  rw[ex,ey,Sem.run_bind]
  have:(eqGuard op t x y (.int k p) (.int k' q)).run S.P w=.ok () w:=by cases op <;> simp[eqGuard]
  rw[this];exact hr
 ·rename_i p q
  obtain⟨u,hr,hd⟩:=Yn7 (H:=H) S.P w op t p q hp
  refine fin u ?_ hd
  rw[Xff hx,Xff hy,Sem.run_bind]
  have:(eqGuard op t x y (.string p) (.string q)).run S.P w=.ok () w:=by cases op <;> simp[eqGuard]
  rw[this];exact hr
 ·rename_i p q
  simp only at ht
  have he:(Op.equal t (.bool p) (.bool q)).run S.P w=.ok (p==q) w:=run_equalIn_bool' w 9999 t p q ht
  cases op <;> simp only[Jeu] at hp fin ⊢ <;> (try exact hp.elim)
  ·refine fin (.bool (p==q)) ?_ (.bool _)
   rw[Xda hx,Xda hy,Sem.run_bind]
   have:(eqGuard .eql t x y (.bool p) (.bool q)).run S.P w=.ok () w:=by simp[eqGuard]
   simp only[this,Result.andThen_ok,binOp,Sem.run_bind,he,Sem.run_pure]
  ·refine fin (.bool (!(p==q))) ?_ (.bool _)
   rw[Xda hx,Xda hy,Sem.run_bind]
   have:(eqGuard .neq t x y (.bool p) (.bool q)).run S.P w=.ok () w:=by simp[eqGuard]
   simp only[this,Result.andThen_ok,binOp,Sem.run_bind,he,Sem.run_pure]
 ·exact hp.elim
theorem Xmp {P:Program} (w:World) (dp:Nat) {t e:TypeId} (ht:P.underlying t=some (.slice e)) (A:Option Addr) (m c m' c':Nat):(Op.equalIn (dp+1) t (.slice A m c) (.slice none m' c')).run P w=.ok A.isNone w:=by
 cases A <;> simp[Op.equalIn,Go.run_underlying ht]
theorem Xf1 {P:Program} (w:World) (dp:Nat) {t:TypeId} {ms:Array (String × TypeId)} (ht:P.underlying t=some (.interface ms)) (p:Value) (hp:p=.nilIface\/∃ t v,p=.iface t v) :
  (Op.equalIn (dp+1) t p .nilIface).run P w=.ok (p matches .nilIface) w:=by
 rcases hp with rfl|⟨t,v,rfl⟩ <;> simp[Op.equalIn,Go.run_underlying ht]
theorem Xg8 {P:Program} (w:World) (dp:Nat) {t:TypeId} {x y:Array TypeId} {z:Bool} (ht:P.underlying t=some (.func x y z)) (p:Value) (hp:p=.nilFunc\/∃ f a b,p=.func f a b) :
  (Op.equalIn (dp+1) t p .nilFunc).run P w=.ok (p matches .nilFunc) w:=by
 rcases hp with rfl|⟨f,a,b,rfl⟩ <;> simp[Op.equalIn,Go.run_underlying ht]
theorem Xks {P:Program} (w:World) (dp:Nat) {t e:TypeId} (ht:P.underlying t=some (.pointer e)) (A:Option Addr):(Op.equalIn (dp+1) t (.pointer A) (.pointer none)).run P w=.ok A.isNone w:=by
 cases A <;> simp[Op.equalIn,Go.run_underlying ht]
theorem Xuh {kd:NK} {x:V} {u:Value} {r:Bool} (h:Yn1 kd x=some r) (hx:Xax H an x u):match kd with
  | .sl=>∃ A m c,u=.slice A m c/\A.isNone=r
  | .ifc=>(u=.nilIface/\r=true)\/∃ t v,u=.iface t v/\r=false
  | .fn=>(u=.nilFunc/\r=true)\/∃ f a b,u=.func f a b/\r=false
  | .ptr=>∃ A,u=.pointer A/\A.isNone=r:=by
 unfold Yn1 at h
 split at h <;> cases h
 ·exact⟨_,_,_,Xkn hx,rfl⟩
 ·exact⟨_,_,_,Xkn hx,rfl⟩
 ·cases hx;exact⟨_,_,_,rfl,rfl⟩
 ·exact .inl ⟨Xub hx,rfl⟩
 ·cases hx <;> exact .inr ⟨_,_,rfl,rfl⟩
 ·obtain⟨v,rfl,_⟩:=hx;exact .inr ⟨_,_,rfl,rfl⟩
 ·cases hx;exact .inl ⟨rfl,rfl⟩
 ·cases hx;exact .inr ⟨_,_,_,rfl,rfl⟩
 ·cases hx <;> exact .inr ⟨_,_,_,rfl,rfl⟩
 ·obtain⟨vs,rfl,_⟩:=hx;exact .inr ⟨_,_,_,rfl,rfl⟩
 ·cases hx;exact⟨_,rfl,rfl⟩
 ·cases hx;exact⟨_,rfl,rfl⟩
 ·obtain⟨b,rfl,_⟩:=hx;exact⟨_,rfl,rfl⟩
 ·obtain⟨b,q,rfl,_⟩:=hx;exact⟨_,rfl,rfl⟩
theorem Xp3 {t t2:TypeId} {x y:Operand} {kd:NK} {neg:Bool} {d:TypeDesc} (h:SatX S Y s a w H an F ms) (ho:o.op=.binOp (if neg then .neq else .eql) t x y t2) (ht:S.P.underlying t=some d) (hk:Y81 d=some kd) (hy:X3g kd y=true)
  (hv:∃ r,Yn1 kd (evO s.fr (Xac x))=some r/\v=.one (.d (.bool (if neg then !r else r)))):Xbj S Y s.fr s.own a ms v ((execOp a.eval o).run S.P w):=by
 obtain⟨r,hr,rfl⟩:=hv
 have hx:=Xuh hr (h.ev x)
 have fin:∀ (p q:Value),a.eval x=p->a.eval y=q->(∀ op,(eqGuard op t x y p q).run S.P w=.ok () w)->(Op.equalIn (9999+1) t p q).run S.P w=.ok r w ->
   binOp .eql t p q=(do pure (.bool (<- Op.equal t p q)))->binOp .neq t p q=(do pure (.bool (!(<- Op.equal t p q))))->Xbj S Y s.fr s.own a ms (.one (.d (.bool (if neg then !r else r)))) ((execOp a.eval o).run S.P w):=by
  intro p q ep eq h1 h2 h3 h4
  have h2:(Op.equal t p q).run S.P w=.ok r w:=h2
  refine Xbj.same h (u:=.bool (if neg then !r else r)) ?_ (Den.bool _)
  cases neg
  ·simp only[execOp,ho,ep,eq,Sem.run_bind,h1,Result.andThen_ok,Bool.false_eq_true,if_false,h3,h2,Sem.run_pure]
  ·simp only[execOp,ho,ep,eq,Sem.run_bind,h1,Result.andThen_ok,if_true,h4,h2,Sem.run_pure]
 unfold X3g at hy
 split at hy
 ·rename_i m c
  obtain⟨e,rfl⟩:∃ e,d=.slice e:=by cases d <;> simp[Y81] at hk;exact⟨_,rfl⟩
  obtain⟨A,m',c',ex,rfl⟩:=hx
  exact fin _ (.slice none m c) ex rfl (fun op=>by cases op <;> simp[eqGuard]) (Xmp w _ ht A _ _ _ _) (by simp[binOp]) (by simp[binOp])
 ·obtain⟨e,rfl⟩:∃ e,d=.interface e:=by cases d <;> simp[Y81] at hk;exact⟨_,rfl⟩
  rcases hx with ⟨ex,rfl⟩|⟨t',v,ex,rfl⟩
  ·exact fin _ .nilIface ex rfl (fun op=>by cases op <;> simp[eqGuard]) (Xf1 w _ ht _ (.inl rfl)) (by simp[binOp]) (by simp[binOp])
  ·exact fin _ .nilIface ex rfl (fun op=>by cases op <;> simp[eqGuard]) (Xf1 w _ ht _ (.inr ⟨_,_,rfl⟩)) (by simp[binOp]) (by simp[binOp])
 ·obtain⟨p1,p2,p3,rfl⟩:∃ p1 p2 p3,d=.func p1 p2 p3:=by cases d <;> simp[Y81] at hk;exact⟨_,_,_,rfl⟩
  rcases hx with ⟨ex,rfl⟩|⟨f',q1,q2,ex,rfl⟩
  ·exact fin _ .nilFunc ex rfl (fun op=>by cases op <;> simp[eqGuard]) (Xg8 w _ ht _ (.inl rfl)) (by simp[binOp]) (by simp[binOp])
  ·exact fin _ .nilFunc ex rfl (fun op=>by cases op <;> simp[eqGuard]) (Xg8 w _ ht _ (.inr ⟨_,_,_,rfl⟩)) (by simp[binOp]) (by simp[binOp])
 ·obtain⟨e,rfl⟩:∃ e,d=.pointer e:=by cases d <;> simp[Y81] at hk;exact⟨_,rfl⟩
  obtain⟨A,ex,rfl⟩:=hx
  exact fin _ (.pointer none) ex rfl (fun op=>by cases op <;> simp[eqGuard]) (Xks w _ ht A) (by cases A <;> simp[binOp]) (by cases A <;> simp[binOp])
 ·cases hy
theorem Yn8 {x:Operand} (h:SatX S Y s a w H an F ms) (ho:o.op=.nilCheck x) (hv:v=evO s.fr (Xac x)/\Yn1 .ptr (evO s.fr (Xac x))=some false):Xbj S Y s.fr s.own a ms v ((execOp a.eval o).run S.P w):=by
 obtain⟨rfl,hr⟩:=hv
 have hx:=Xuh hr (h.ev x)
 obtain⟨A,ex,hA⟩:=hx
 refine Xbj.same h (u:=a.eval x) ?_ (h.ev x)
 cases A with
 | none=>cases hA
 | some A=>simp[execOp,ho,ex]
theorem Yn9 {t:TypeId} {x:Operand} (h:SatX S Y s a w H an F ms) (ho:o.op=.unOp .not t x)
  (hv:match evO s.fr (Xac x) with
  | .one (.d (.bool b))=>v=.one (.d (.bool !b))
  | _=>False):Xbj S Y s.fr s.own a ms v ((execOp a.eval o).run S.P w):=by
 have hx:=h.ev x
 split at hv
 ·rename_i b e
  rw[e] at hx
  subst hv
  refine Xbj.same h (u:=.bool !b) ?_ (Den.bool _)
  simp[execOp,ho,Op.unary,Xda hx]
 ·exact hv.elim
theorem Yoa {t:TypeId} {x:Operand} (h:SatX S Y s a w H an F ms) (ho:o.op=.unOp .neg t x)
  (hv:(Xua .i .sub (.one (.d (.int .i64 0))) (evO s.fr (Xac x))).1/\v=.one (.d (Xua .i .sub (.one (.d (.int .i64 0))) (evO s.fr (Xac x))).2)):Xbj S Y s.fr s.own a ms v ((execOp a.eval o).run S.P w):=by
 obtain⟨hp,rfl⟩:=hv
 have hx:=h.ev x
 have fin:∀ (u:Value),(Op.unary .neg (a.eval x)).run S.P w=.ok u w->Den H (Xua .i .sub (.one (.d (.int .i64 0))) (evO s.fr (Xac x))).2 u ->
   Xbj S Y s.fr s.own a ms (.one (.d (Xua .i .sub (.one (.d (.int .i64 0))) (evO s.fr (Xac x))).2)) ((execOp a.eval o).run S.P w):=by
  intro u hr hd
  refine Xbj.same h (u:=u) ?_ hd
  simp only[execOp,ho]
  rw[Sem.run_bind,hr];rfl
 generalize evO s.fr (Xac x)=vx at *
 unfold Xua at hp fin ⊢
 split at hp
 ·rename_i k' q _ e1
  cases e1
  have ex:=Xbl hx
  have hk:Yye .sub=true\/IntKind.i64=k':=by
   by_cases hc:Yye .sub=true\/IntKind.i64=k'
   ·exact hc
   ·rw[if_neg hc] at hp;exact hp.elim
  simp only[if_pos hk] at hp fin ⊢
  obtain⟨u,hr,hd⟩:=Xug (H:=H) S.P w .sub t .i64 k' 0 q hk hp
  refine fin u ?_ hd
  obtain rfl:IntKind.i64=k':=by rcases hk with hk|hk;cases hk;exact hk
  rw[ex]
  exact hr
 all_goals (first|(rename_i e1 _;cases e1;done)|(rename_i e1;cases e1;done)|exact hp.elim)
theorem X3x {t t2:TypeId} {x:Operand} {k0 k:IntKind} (h:SatX S Y s a w H an F ms) (ho:o.op=.convert t t2 x) (h1:S.P.underlying t=some (.int k0)) (h2:S.P.underlying t2=some (.int k))
  (hv:match evO s.fr (Xac x) with
  | .one (.d (.int _ n))=>v=.one (.d (.int k (k.wrap n)))
  | _=>False):Xbj S Y s.fr s.own a ms v ((execOp a.eval o).run S.P w):=by
 have hx:=h.ev x
 split at hv
 ·rename_i kk n e
  rw[e] at hx
  subst hv
  refine Xbj.same h (u:=.int k (k.wrap n)) ?_ (Den.int _ _)
  simp[execOp,ho,convert,Go.run_underlying h1,Go.run_underlying h2,Xbl hx,Conv.intToInt]
 ·exact hv.elim
theorem Xb0.low {x:A} (hx:x.low=true) {u:Value} (h:Xb0 H an x u):Xbg H an x u:=by
 cases x <;> first|exact h|cases hx
theorem Xaz.low:∀ {l:List A} {m:List Value},(∀ x∈l,A.low x=true)->Xaz H an l m->Xal (Xbg H an) l m
 | [],[],_,_=>trivial
 | x::_,_::_,hl,h=>⟨Xb0.low (hl x (by simp)) h.1,Xaz.low (fun y hy=>hl y (by simp[hy])) h.2⟩
theorem Xc3.get_d {l:List D} {m:List Value} (h:Xc3 H l m):∀ (j:Nat) (y:D) (v:Value),l[j]?=some y->m[j]?=some v->Den H y v:=by
 intro j y v hy hv
 obtain⟨q,hq,hd⟩:=h.get hy
 rw[hv] at hq;cases hq;exact hd
theorem Yob {t:TypeId} {x:Operand} (h:SatX S Y s a w H an F ms) (ho:o.op=.makeInterface t x) {d:TypeDesc} (ht:S.P.underlying t=some d) (hd:∀ m,d≠.interface m)
  (hv:∃ r,ifv t (evO s.fr (Xac x))=some r/\v=.one r):Xbj S Y s.fr s.own a ms v ((execOp a.eval o).run S.P w):=by
 obtain⟨r,hr,rfl⟩:=hv
 have hx:=h.ev x
 refine Xbj.same h (u:=.iface t (a.eval x)) ?_ ?_
 ·simp only[execOp,ho,Instr.makeInterface,Sem.run_bind,Go.run_underlying ht,Result.andThen_ok]
  cases d <;> first|exact absurd rfl (hd _)|rfl
 ·generalize evO s.fr (Xac x)=vx at *
  unfold ifv at hr
  split at hr
  ·cases hr;exact Den.ifcV t _ _ hx
  ·split at hr
   ·rename_i hl
    cases hr
    exact⟨_,rfl,Xb0.low hl hx⟩
   ·cases hr
  ·split at hr
   ·rename_i ds hds
    cases hr
    obtain⟨vs,e,hvs⟩:=hx
    have hdd:=Xdq hds hvs
    show Den _ _ _
    rw[e]
    exact Den.ifcA t ds vs hdd.length.symm (Xc3.get_d hdd)
   ·cases hr
  ·cases hr
theorem evs (h:SatX S Y s a w H an F ms):∀ (l:List Operand),Xal (Xax H an) (l.map fun x=>evO s.fr (Xac x)) (l.map a.eval)
 | []=>trivial
 | x::l=>⟨h.ev x,evs h l⟩
theorem Xp4:∀ {l:List V} {ds:List D} {vs:List Value},Xso l=some ds->Xal (Xax H an) l vs->Xc3 H ds vs
 | [],ds,vs,h,k=>by simp[Xso] at h;subst h;cases vs with|nil=>trivial|cons _ _=>simp[Xal] at k
 | x::l,ds,vs,h,k=>by
  cases vs with
  | nil=>simp[Xal] at k
  | cons v vs =>
   unfold Xso at h
   split at h
   ·rename_i e;cases e
   ·rename_i y l' e
    cases e
    cases e:Xso l with
    | none=>simp[e] at h
    | some r=>simp[e] at h;subst h;exact⟨k.1,Xp4 e k.2⟩
   ·cases h
theorem Xp5:∀ {l:List V} {ds:List A} {vs:List Value},Xsp l=some ds->Xal (Xax H an) l vs->Xal (Xbg H an) ds vs
 | [],ds,vs,h,k=>by simp[Xsp] at h;subst h;cases vs with|nil=>trivial|cons _ _=>simp[Xal] at k
 | x::l,ds,vs,h,k=>by
  cases vs with
  | nil=>simp[Xal] at k
  | cons v vs =>
   unfold Xsp at h
   split at h
   ·rename_i e;cases e
   ·rename_i y l' e
    cases e
    split at h
    ·rename_i hl
     cases e:Xsp l with
     | none=>simp[e] at h
     | some r=>simp[e] at h;subst h;exact⟨Xb0.low hl k.1,Xp5 e k.2⟩
    ·cases h
   ·cases h
theorem Yoc {f:Go.Fn} {first caps:Array Operand} (h:SatX S Y s a w H an F ms) (ho:o.op=.makeFunc f first caps) (hf:first.toList=[])
  (hv:∃ r,Wxc f ((caps.toList.map Xac).map (evO s.fr))=some r/\v=.one r):Xbj S Y s.fr s.own a ms v ((execOp a.eval o).run S.P w):=by
 obtain⟨r,hr,rfl⟩:=hv
 have hfe:first=#[]:=by apply Array.ext';simpa using hf
 subst hfe
 have hev:=evs h caps.toList
 refine Xbj.same h (u:=.func f #[] (caps.map a.eval)) (by simp[execOp,ho,Instr.makeFunc]) ?_
 have e:caps.map a.eval=(caps.toList.map a.eval).toArray:=by rw[<- Array.toList_map,Array.toArray_toList]
 rw[e]
 unfold Wxc at hr
 simp only[List.map_map] at hr
 split at hr
 ·rename_i ds hds
  cases hr
  have hd:=Xp4 hds hev
  exact Den.fn f ds _ hd.length.symm (Xc3.get_d hd)
 ·split at hr
  ·rename_i as has
   cases hr
   exact⟨_,rfl,Xp5 has hev⟩
  ·cases hr
theorem X3y {f:Go.Fn} {first caps:Array Operand} {x:Operand} (h:SatX S Y s a w H an F ms) (ho:o.op=.makeFunc f first caps) (hf:first.toList=[x]) (hc:caps.size=0)
  (hv:∃ r,mvv f (evO s.fr (Xac x))=some r/\v=.one r):Xbj S Y s.fr s.own a ms v ((execOp a.eval o).run S.P w):=by
 obtain⟨r,hr,rfl⟩:=hv
 have hfe:first=#[x]:=by apply Array.ext';simpa using hf
 have hce:caps=#[]:=Array.eq_empty_of_size_eq_zero hc
 subst hfe
 subst hce
 have hx:=h.ev x
 refine Xbj.same h (u:=.func f #[a.eval x] #[]) (by simp[execOp,ho,Instr.makeFunc]) ?_
 generalize evO s.fr (Xac x)=vx at *
 unfold mvv at hr
 split at hr
 ·cases hr;exact Den.mvV f _ _ hx
 ·split at hr
  ·rename_i hl
   cases hr
   exact⟨_,rfl,Xb0.low hl hx,trivial⟩
  ·cases hr
 ·obtain⟨vs,e,hvs⟩:=hx
  split at hr
  ·rename_i ds hds
   cases hr
   have hdd:=Xdq hds hvs
   show Den _ _ _
   rw[e]
   exact Den.mvA f ds vs hdd.length.symm (Xc3.get_d hdd)
  ·split at hr
   ·rename_i hl
    cases hr
    exact⟨vs,by rw[e],Xaz.low (fun y hy=>List.all_eq_true.1 hl y hy) hvs⟩
   ·cases hr
 ·cases hr
theorem Yod {t:TypeId} {own':List Ch} (h:SatX S Y s a w H an F ms) (ho:o.op=.makeMap t none) (hv:own'=s.own++[.map []]/\v=.one (.own s.own.length 0)) :
  Xbj S Y s.fr own' a ms v ((execOp a.eval o).run S.P w):=by
 obtain⟨rfl,rfl⟩:=hv
 refine⟨.value (.map (some w.heap.size)),_,_,H,_,_,?_,.inl rfl,h.push_own (.map #[] 0) (.map []) (0,.map (some w.heap.size)) ⟨rfl,w.heap.size,#[],0,rfl,fun x=>Iff.rfl,by simp,trivial⟩,?_⟩
 ·simp only[execOp,ho,Instr.makeMap]
  simp
 ·exact⟨rfl,(0,.map (some w.heap.size)),by simp[Anc.put],Nat.le_refl _,fun _=>rfl⟩
theorem X3z:∀ {l:List V} {i:Nat} {y:V},l[i]?=some y->Xbn l i=y
 | [],_,_,h=>by simp at h
 | _::_,0,_,h=>by simpa [Xbn] using h
 | _::l,i+1,y,h=>by simp only[Xbn];exact X3z (l:=l) (by simpa using h)
theorem Yoe {x:Operand} {i:Nat} (h:SatX S Y s a w H an F ms) (ho:o.op=.extract x i)
  (hv:match evO s.fr (Xac x) with
  | .tup l=>v=Xbn l i/\i < l.length
  | _=>False):Xbj S Y s.fr s.own a ms v ((execOp a.eval o).run S.P w):=by
 have hx:=h.ev x
 split at hv
 ·rename_i l e
  rw[e] at hx
  obtain⟨rfl,hi⟩:=hv
  obtain⟨vs,hu,hd⟩:=hx
  obtain⟨y,hy⟩:∃ y,l[i]?=some y:=⟨_,List.getElem?_eq_getElem hi⟩
  obtain⟨q,hq,hd1⟩:=hd.get hy
  rw[X3z hy]
  refine Xbj.same h (u:=q) ?_ ?_
  ·simp[execOp,ho,Instr.extract,hu,hq]
  ·cases y <;> first|exact hd1|exact hd1.elim
 ·exact hv.elim
theorem Yof {t:TypeId} {x:Operand} {own':List Ch} (h:SatX S Y s a w H an F ms) (ho:o.op=.range t x) (ht:S.P.underlying t=some .string)
  (hv:match evO s.fr (Xac x) with
  | .one (.d (.str st))=>own'=s.own++[.siter st 0]/\v=.one (.own s.own.length 0)
  | _=>False):Xbj S Y s.fr own' a ms v ((execOp a.eval o).run S.P w):=by
 have hx:=h.ev x
 split at hv
 ·rename_i st e
  rw[e] at hx
  obtain⟨rfl,rfl⟩:=hv
  refine⟨.value (.pointer (some ⟨w.heap.size,0,none⟩)),_,_,H,_,_,?_,.inl rfl,h.push_own (.stringIter st 0) (.siter st 0) (0,.pointer (some ⟨w.heap.size,0,none⟩)) ⟨rfl,w.heap.size,rfl,fun x=>Iff.rfl,by simp⟩,?_⟩
  ·simp only[execOp,ho,Instr.range,Sem.run_bind,Go.run_underlying ht,Result.andThen_ok,Xff hx]
   simp
  ·exact⟨rfl,(0,.pointer (some ⟨w.heap.size,0,none⟩)),by simp[Anc.put],Nat.le_refl _,fun _=>rfl⟩
 ·exact hv.elim
theorem Xkt (w:World) (b:Nat) (o:Obj):WKeep w { w with heap:=w.heap.setIfInBounds b o } (fun x=>x=b) :=
 ⟨rfl,rfl,rfl,by simp,fun i _ hi=>by
  show (w.heap.setIfInBounds b o)[i]?=_
  rw[Array.getElem?_setIfInBounds]
  rw[if_neg (fun e=>hi e.symm)]⟩
theorem Xfi {P:Program} {w:World} {b:Nat} {o o':Obj} (h:w.heap[b]?=some o) (hc:∀ c t f,o≠.cells c t f):(setObj b o').run P w=.ok () { w with heap:=w.heap.setIfInBounds b o' }:=by
 cases o with
 | cells c t f=>exact absurd rfl (hc c t f)
 | _=>simp only[setObj,Sem.run,h]
theorem Yog {x:Operand} {own':List Ch} (h:SatX S Y s a w H an F ms) (ho:o.op=.next x true)
  (hv:match evO s.fr (Xac x) with
  | .one (.own j 0)=>(match Xak s.own j with
   | .siter st pos=>if pos < st.size then own'=Xb1 s.own j (.siter st (pos+(Utf8.decode st pos).2))/\v=.tup [.one (.d (.bool true)),.one (.d (.int .i64 pos)),.one (.d (.int .i32 (Utf8.decode st pos).1))]
     else own'=s.own/\v=.tup [.one (.d (.bool false))]
   | _=>False)
  | _=>False):Xbj S Y s.fr own' a ms v ((execOp a.eval o).run S.P w):=by
 have hx:=h.ev x
 split at hv
 ·rename_i j e
  rw[e] at hx
  split at hv
  ·rename_i st pos hc
   obtain⟨p,hp,h0,b,h1,h2,h3⟩:=h.own j _ (Xa4 hc (by simp))
   obtain⟨p1,p2⟩:=p
   simp only at h0 h1
   subst h0
   have hu:=Xce hp hx
   rw[h1] at hu
   split at hv
   ·rename_i hlt
    obtain⟨rfl,rfl⟩:=hv
    refine⟨.value (.tuple #[.bool true,goInt pos,.int .i32 (Utf8.decode st pos).1]),_,{ w with heap:=w.heap.setIfInBounds b (.stringIter st (pos+(Utf8.decode st pos).2)) },H,an,F,?_,.inl rfl,?_,⟨_,rfl,Den.bool _,Den.int _ _,Den.int _ _,trivial⟩⟩
    ·simp only[execOp,ho,Instr.next,hu,Sem.run_bind,Xcf h3 (by simp),Result.andThen_ok,Sem.run_ite,if_pos hlt,Xfi h3 (by simp),Sem.run_pure]
    ·rw[Xat]
     refine h.set_own hp h2 (Xkt w b _) ⟨rfl,b,h1,h2,?_⟩
     have:=(Array.getElem?_eq_some_iff.1 h3).1
     simp[this]
   ·rename_i hlt
    obtain⟨rfl,rfl⟩:=hv
    refine Xbj.same h (u:=.tuple #[.bool false]) ?_ ⟨[.bool false],rfl,Den.bool _,trivial⟩
    simp only[execOp,ho,Instr.next,hu,Sem.run_bind,Xcf h3 (by simp),Result.andThen_ok,Sem.run_ite,if_neg hlt,Sem.run_pure]
  ·exact hv.elim
 ·exact hv.elim
end
end Go.Fw
namespace Go.Fw
open Go
section
variable {S:Sx} {Y:Dyn} {s:St} {a:Act} {w:World} {H:Heap} {an:Anc} {F:Nat->Nat->Prop} {ms:List Nat} {o:Oper} {v:V}
theorem Xjv {P:Program} {w:World} {t:TypeId} {k:Leaf} (h:Xcj P t=some k):(isAgg t).run P w=.ok false w:=by
 unfold Xcj at h
 cases e:P.underlying t with
 | none=>simp[e] at h
 | some d =>
  rw[e] at h
  unfold isAgg
  simp only[Sem.run_bind,Go.run_underlying e,Result.andThen_ok]
  cases d <;> first|rfl|(cases h;done)
theorem Xsu {P:Program} {w:World} {t:TypeId} {k:Leaf} {x y:A} {p q:Value} {r:Bool} (h:Xcj P t=some k) (hx:Xb0 H an x p) (hy:Xb0 H an y q) (he:eqL k x y=some r) (d:Nat) :
  (Op.equalIn (d+1) t p q).run P w=.ok r w:=by
 unfold Xcj at h
 cases e:P.underlying t with
 | none=>simp[e] at h
 | some ds =>
  rw[e] at h
  unfold eqL at he
  split at he
  ·split at he
   ·rename_i hk
    cases he
    cases hx;cases hy
    subst hk
    cases ds <;> first|(cases h;done)|skip
    exact run_equalIn_int w d t _ _ _ _ e
   ·cases he
  ·cases he;cases hx;cases hy
   cases ds <;> first|(cases h;done)|skip
   exact run_equalIn_bool' w d t _ _ e
  ·cases he;cases hx;cases hy
   cases ds <;> first|(cases h;done)|skip
   rw[run_equalIn_string w d t _ _ e,Xkr]
  ·cases he
theorem Xmy {P:Program} {w:World} (d:Nat) (xs ys:Array Value):∀ (fs:List Field) (i:Nat) (ks:List Leaf) (as bs:List A) (r:Bool),Xed P fs i=some ks ->
  Xaz H an as (xs.toList.drop i)->Xaz H an bs (ys.toList.drop i)->Xcz ks as bs=some r->(Op.eqFields (d+1) xs ys fs).run P w=.ok r w
 | [],i,ks,as,bs,r,h,hx,hy,he=>by
  simp[Xed] at h;subst h
  cases as <;> cases bs <;> simp[Xcz] at he
  subst he;rfl
 | f::fs,i,ks,as,bs,r,h,hx,hy,he=>by
  simp only[Xed] at h
  split at h
  ·rename_i hf
   cases e1:Xcj P f.type with
   | none=>simp[e1] at h
   | some k =>
    cases e2:Xed P fs (i+1) with
    | none=>simp[e1,e2] at h
    | some ks' =>
     simp[e1,e2] at h;subst h
     cases as with
     | nil=>simp[Xcz] at he
     | cons x as =>
      cases bs with
      | nil=>simp[Xcz] at he
      | cons y bs =>
       obtain⟨p,hp,hxp⟩:=hx.get (i:=0) (a:=x) rfl
       obtain⟨q,hq,hyq⟩:=hy.get (i:=0) (a:=y) rfl
       rw[List.getElem?_drop,Nat.add_zero,Array.getElem?_toList] at hp hq
       have hx':Xaz H an as (xs.toList.drop (i+1)):=by have:=hx.drop 1;simpa [Nat.add_comm] using this
       have hy':Xaz H an bs (ys.toList.drop (i+1)):=by have:=hy.drop 1;simpa [Nat.add_comm] using this
       simp only[Xcz] at he
       cases e3:eqL k x y with
       | none=>simp[e3] at he
       | some r1 =>
        cases e4:Xcz ks' as bs with
        | none=>simp[e3,e4] at he
        | some r2 =>
         simp[e3,e4] at he;subst he
         have ih:=Xmy (w:=w) d xs ys fs (i+1) ks' as bs r2 e2 hx' hy' e4
         simp only[Op.eqFields,if_pos hf.1,Sem.run_bind,part,Xjv e1,Result.andThen_ok,Bool.false_eq_true,if_false,hf.2,hp,hq,Sem.run_pure,Xsu e1 hxp hyq e3 d]
         cases r1
         ·simp
         ·simp[ih]
  ·cases h
theorem Xin {P:Program} {t:TypeId} {ks:List Leaf} (h:Xpv P t=some ks):P.underlying t=some (.struct (P.fieldsOf t))/\P.stoodInHeld t=false/\P.eqGuardType P.depth t=false/\Xed P (P.fieldsOf t).toList 0=some ks:=by
 unfold Xpv at h
 unfold Program.fieldsOf
 generalize P.underlying t=d at *
 match d,h with
 | some (.struct fs),h =>
  by_cases hc:(!P.stoodInHeld t && !P.eqGuardType P.depth t)=true
  ·simp only[hc,if_true] at h
   simp only[Bool.and_eq_true,Bool.not_eq_true'] at hc
   exact⟨rfl,hc.1,hc.2,h⟩
  ·simp only[hc] at h
   cases h
theorem Yoh {P:Program} {w:World} {t:TypeId} {ks:List Leaf} {as bs:List A} {us ws:List Value} {r:Bool} (h:Xpv P t=some ks) (hx:Xaz H an as us) (hy:Xaz H an bs ws) (he:Xcz ks as bs=some r) (d:Nat) :
  (Op.equalIn (d+2) t (.agg us.toArray) (.agg ws.toArray)).run P w=.ok r w:=by
 obtain⟨h1,h2,h3,h4⟩:=Xin h
 rw[run_equalIn_struct w (d+1) t _ _ h1 h2]
 exact Xmy d _ _ _ 0 ks as bs r h4 (by simpa using hx) (by simpa using hy) he
theorem Xui:∀ {k1 k2:List Leaf} {as bs:List A} {r:Bool},Xcz (k1++k2) as bs=some r ->
  ∃ r1 r2,Xcz k1 (as.take k1.length) (bs.take k1.length)=some r1/\Xcz k2 (as.drop k1.length) (bs.drop k1.length)=some r2/\r=(r1 && r2)
 | [],k2,as,bs,r,h=>⟨true,r,rfl,h,rfl⟩
 | k::k1,k2,[],bs,r,h=>by simp[Xcz] at h
 | k::k1,k2,x::as,[],r,h=>by simp[Xcz] at h
 | k::k1,k2,x::as,y::bs,r,h=>by
  simp only[List.cons_append,Xcz] at h
  cases e1:eqL k x y with
  | none=>simp[e1] at h
  | some r0 =>
   cases e2:Xcz (k1++k2) as bs with
   | none=>simp[e1,e2] at h
   | some r' =>
    simp[e1,e2] at h;subst h
    obtain⟨r1,r2,h1,h2,rfl⟩:=Xui e2
    exact⟨r0 && r1,r2,by simp[Xcz,e1,h1],by simpa using h2,by simp[Bool.and_assoc]⟩
theorem Xp6 {P:Program} {w:World} {t:TypeId} {ks:List Leaf} {n:Nat} (h:Xpv P t=some ks) (hn:szOf P t=some n) (cs:Array Value) (i:Nat) :
  (part t cs i).run P w=.ok (.agg (cs.extract i (i+n))) w:=by
 have h1:=(Xin h).1
 have:isAggB P t=true:=by unfold isAggB;rw[h1]
 simp only[part,Sem.run_bind,Xim hn,this,Result.andThen_ok,if_true,Xav hn,Sem.run_pure]
theorem Xi6 {cs:Array Value} {i n:Nat}:(cs.extract i (i+n)).toList=(cs.toList.drop i).take n:=by
 simp[Array.toList_extract,List.extract]
theorem Xfj {P:Program} {w:World} (d:Nat) (xs ys:Array Value):∀ (fs:List Field) (i:Nat) (ks:List Leaf) (as bs:List A) (r:Bool),Xc5 P fs i=some ks ->
  Xaz H an as (xs.toList.drop i)->Xaz H an bs (ys.toList.drop i)->Xcz ks as bs=some r->(Op.eqFields (d+2) xs ys fs).run P w=.ok r w
 | [],i,ks,as,bs,r,h,hx,hy,he=>by
  simp[Xc5] at h;subst h
  cases as <;> cases bs <;> simp[Xcz] at he
  subst he;rfl
 | f::fs,i,ks,as,bs,r,h,hx,hy,he=>by
  simp only[Xc5] at h
  split at h
  ·rename_i hf
   cases e1:Xcj P f.type with
   | some k =>
    cases e2:Xc5 P fs (i+1) with
    | none=>simp[e1,e2] at h
    | some ks' =>
     simp[e1,e2] at h;subst h
     cases as with
     | nil=>simp[Xcz] at he
     | cons x as =>
      cases bs with
      | nil=>simp[Xcz] at he
      | cons y bs =>
       obtain⟨p,hp,hxp⟩:=hx.get (i:=0) (a:=x) rfl
       obtain⟨q,hq,hyq⟩:=hy.get (i:=0) (a:=y) rfl
       rw[List.getElem?_drop,Nat.add_zero,Array.getElem?_toList] at hp hq
       have hx':Xaz H an as (xs.toList.drop (i+1)):=by have:=hx.drop 1;simpa [Nat.add_comm] using this
       have hy':Xaz H an bs (ys.toList.drop (i+1)):=by have:=hy.drop 1;simpa [Nat.add_comm] using this
       simp only[Xcz] at he
       cases e3:eqL k x y with
       | none=>simp[e3] at he
       | some r1 =>
        cases e4:Xcz ks' as bs with
        | none=>simp[e3,e4] at he
        | some r2 =>
         simp[e3,e4] at he;subst he
         have ih:=Xfj (w:=w) d xs ys fs (i+1) ks' as bs r2 e2 hx' hy' e4
         simp only[Op.eqFields,if_pos hf.1,Sem.run_bind,part,Xjv e1,Result.andThen_ok,Bool.false_eq_true,if_false,hf.2,hp,hq,Sem.run_pure,Xsu e1 hxp hyq e3 (d+1)]
         cases r1
         ·simp
         ·simp[ih]
   | none =>
    rw[e1] at h
    dsimp only at h
    cases e0:Xpv P f.type with
    | none=>simp[e0] at h
    | some k1 =>
     rw[e0] at h
     dsimp only at h
     split at h
     ·rename_i hsz
      cases e2:Xc5 P fs (i+k1.length) with
      | none=>simp[e2] at h
      | some ks' =>
       simp[e2] at h;subst h
       obtain⟨r1,r2,h1,h2,rfl⟩:=Xui he
       have hx':Xaz H an (as.drop k1.length) (xs.toList.drop (i+k1.length)):=by have:=hx.drop k1.length;simpa [List.drop_drop] using this
       have hy':Xaz H an (bs.drop k1.length) (ys.toList.drop (i+k1.length)):=by have:=hy.drop k1.length;simpa [List.drop_drop] using this
       have ih:=Xfj (w:=w) d xs ys fs (i+k1.length) ks' _ _ r2 e2 hx' hy' h2
       have g1:Xaz H an (as.take k1.length) (xs.extract i (i+k1.length)).toList:=by rw[Xi6];exact hx.take _
       have g2:Xaz H an (bs.take k1.length) (ys.extract i (i+k1.length)).toList:=by rw[Xi6];exact hy.take _
       have g3:=Yoh (w:=w) e0 g1 g2 h1 d
       rw[Array.toArray_toList,Array.toArray_toList] at g3
       simp only[Op.eqFields,if_pos hf.1,Sem.run_bind,Xp6 e0 hsz,Result.andThen_ok,hf.2,g3]
       cases r1
       ·simp
       ·simp[ih]
     ·cases h
  ·cases h
theorem Xhs {P:Program} {t:TypeId} {ks:List Leaf} (h:Xhm P t=some ks):P.underlying t=some (.struct (P.fieldsOf t))/\P.stoodInHeld t=false/\P.eqGuardType P.depth t=false/\Xc5 P (P.fieldsOf t).toList 0=some ks:=by
 unfold Xhm at h
 unfold Program.fieldsOf
 generalize P.underlying t=d at *
 match d,h with
 | some (.struct fs),h =>
  by_cases hc:(!P.stoodInHeld t && !P.eqGuardType P.depth t)=true
  ·simp only[hc,if_true] at h
   simp only[Bool.and_eq_true,Bool.not_eq_true'] at hc
   exact⟨rfl,hc.1,hc.2,h⟩
  ·simp only[hc] at h
   cases h
theorem X30 {P:Program} {w:World} {t:TypeId} {ks:List Leaf} {as bs:List A} {us ws:List Value} {r:Bool} (h:Xhm P t=some ks) (hx:Xaz H an as us) (hy:Xaz H an bs ws) (he:Xcz ks as bs=some r) (d:Nat) :
  (Op.equalIn (d+3) t (.agg us.toArray) (.agg ws.toArray)).run P w=.ok r w:=by
 obtain⟨h1,h2,h3,h4⟩:=Xhs h
 rw[run_equalIn_struct w (d+2) t _ _ h1 h2]
 exact Xfj d _ _ _ 0 ks as bs r h4 (by simpa using hx) (by simpa using hy) he
theorem Xuj {t t2:TypeId} {x y:Operand} {neg:Bool} {ks:List Leaf} (h:SatX S Y s a w H an F ms) (ho:o.op=.binOp (if neg then .neq else .eql) t x y t2) (hf:Xhm S.P t=some ks)
  (hv:match evO s.fr (Xac x),evO s.fr (Xac y) with
  | .agg a,.agg b=>∃ r,Xcz ks a b=some r/\v=.one (.d (.bool (if neg then !r else r)))
  | _,_=>False):Xbj S Y s.fr s.own a ms v ((execOp a.eval o).run S.P w):=by
 have hx:=h.ev x
 have hy:=h.ev y
 split at hv
 ·rename_i as bs e1 e2
  rw[e1] at hx;rw[e2] at hy
  obtain⟨r,hr,rfl⟩:=hv
  obtain⟨us,hu,hdx⟩:=hx
  obtain⟨ws,hw,hdy⟩:=hy
  have hg:=(Xhs hf).2.2.1
  have he:=X30 (w:=w) hf hdx hdy hr 9997
  cases neg
  ·refine Xbj.same h (u:=.bool r) ?_ (Den.bool _)
   simp only[execOp,ho,Bool.false_eq_true,if_false,hu,hw,Sem.run_bind,run_eqGuard_agg w .eql t x y _ _ hg,Result.andThen_ok,run_eql_struct,he,Sem.run_pure]
  ·refine Xbj.same h (u:=.bool (!r)) ?_ (Den.bool _)
   simp only[execOp,ho,if_true,hu,hw,Sem.run_bind,run_eqGuard_agg w .neq t x y _ _ hg,Result.andThen_ok,run_neq_struct,he,Sem.run_pure]
 ·exact hv.elim
theorem Xn8 {P:Program} {t:TypeId} {q:Bool × List Leaf} (h:Xhb P t=some q):(∃ k,Xcj P t=some k/\q=(false,[k]))\/(Xhm P t=some q.2/\q.1=true):=by
 unfold Xhb at h
 cases e:Xcj P t with
 | some k=>simp[e] at h;exact .inl ⟨k,rfl,h.symm⟩
 | none =>
  rw[e] at h
  cases e2:Xhm P t with
  | none=>simp[e2] at h
  | some ks=>simp[e2] at h;subst h;exact .inr ⟨rfl,rfl⟩
theorem Yyg {P:Program} {w:World} {t:TypeId} {q:Bool × List Leaf} {x y:V} {p u:Value} {r:Bool} (h:Xhb P t=some q) (hx:Xam H an x p) (hy:Xam H an y u) (he:eqV q.1 q.2 x y=some r) :
  (Op.equal t p u).run P w=.ok r w:=by
 rcases Xn8 h with ⟨k,hk,rfl⟩|⟨hf,h1⟩
 ·unfold eqV at he
  split at he
  ·simp only[Bool.false_eq_true,if_false,Xcz] at he
   rename_i b1 b2
   cases e:eqL k b1 b2 with
   | none=>simp[e] at he
   | some r'=>simp[e] at he;subst he;exact Xsu hk hx hy e 9999
  ·simp at he
  ·cases he
 ·unfold eqV at he
  split at he
  ·simp[h1] at he
  ·simp only[h1,if_true] at he
   obtain⟨us,rfl,hdx⟩:=hx
   obtain⟨ws,rfl,hdy⟩:=hy
   exact X30 hf hdx hdy he 9997
  ·cases he
theorem Xmz {P:Program} {w:World} (b:Bool) (n:Nat) (cs:Array Value):∀ (fs:List Field) (i:Nat) (ks:List Leaf),Xed P fs i=some ks->i+fs.length<=cs.size ->
  (forIn fs PUnit.unit (fun f (_:PUnit) =>
   if f.name ≠ "_" then (part f.type cs f.offset).bind fun x => (Instr.checkKey b (n + 1) f.type x).bind fun _ => Sem.pure (ForInStep.yield PUnit.unit)
   else Sem.pure (ForInStep.yield PUnit.unit):Field->PUnit->Sem (ForInStep PUnit))).run P w=.ok PUnit.unit w
 | [],_,_,_,_=>by simp
 | f::fs,i,ks,h,hl=>by
  simp only[Xed] at h
  split at h
  ·rename_i hf
   cases e1:Xcj P f.type with
   | none=>simp[e1] at h
   | some k =>
    cases e2:Xed P fs (i+1) with
    | none=>simp[e1,e2] at h
    | some ks' =>
     have ih:=Xmz (w:=w) b n cs fs (i+1) ks' e2 (by simp at hl;omega)
     have hi:i < cs.size:=by simp at hl;omega
     have hc:cs[i]?=some cs[i]:=Array.getElem?_eq_getElem hi
     have hk:(Instr.checkKey b (n+1) f.type cs[i]).run P w=.ok () w:=by
      unfold Xcj at e1
      cases e:P.underlying f.type with
      | none=>simp[e] at e1
      | some d =>
       rw[e] at e1
       simp only[Instr.checkKey,Sem.run_bind,Go.run_underlying e,Result.andThen_ok]
       cases d <;> first|rfl|(cases e1;done)
     have hp:(part f.type cs f.offset).run P w=.ok cs[i] w:=by
      simp only[part,Sem.run_bind,Xjv e1,Result.andThen_ok,Bool.false_eq_true,if_false,hf.2,hc,Sem.run_pure]
     rw[List.forIn_cons,Sem.run_bind]
     simp only[if_pos hf.1,Sem.run_bind',hp,Result.andThen_ok,hk,Sem.run_pure']
     exact ih
  ·cases h
theorem Xm0 {P:Program}:∀ {fs:List Field} {i:Nat} {ks:List Leaf},Xed P fs i=some ks->ks.length=fs.length
 | [],_,_,h=>by simp[Xed] at h;subst h;rfl
 | f::fs,i,ks,h=>by
  simp only[Xed] at h
  split at h
  ·cases e1:Xcj P f.type with
   | none=>simp[e1] at h
   | some k =>
    cases e2:Xed P fs (i+1) with
    | none=>simp[e1,e2] at h
    | some ks'=>simp[e1,e2] at h;subst h;simp[Xm0 e2]
  ·cases h
theorem Xmq {P:Program} {w:World} {t:TypeId} {ks:List Leaf} (b:Bool) (n:Nat) (h:Xpv P t=some ks) (cs:Array Value) (hl:ks.length<=cs.size) :
  (Instr.checkKey b (n+2) t (.agg cs)).run P w=.ok () w:=by
 obtain⟨g1,g2,g3,g4⟩:=Xin h
 have hl2:=Xm0 g4
 have:=Xmz (P:=P) (w:=w) b n cs (P.fieldsOf t).toList 0 ks g4 (by simp at hl2 ⊢;omega)
 unfold Instr.checkKey
 simp only[Sem.run_bind,Go.run_underlying g1,Result.andThen_ok]
 rw[<- Array.forIn_toList]
 exact (congrArg (fun r=>Result.andThen r fun _ w'=>Result.ok () w') this)
theorem Xd0 {P:Program} {w:World} (b:Bool) (n:Nat) (cs:Array Value):∀ (fs:List Field) (i:Nat) (ks:List Leaf),Xc5 P fs i=some ks->i+ks.length<=cs.size ->
  (forIn fs PUnit.unit (fun f (_:PUnit) =>
   if f.name ≠ "_" then (part f.type cs f.offset).bind fun x => (Instr.checkKey b (n + 2) f.type x).bind fun _ => Sem.pure (ForInStep.yield PUnit.unit)
   else Sem.pure (ForInStep.yield PUnit.unit):Field->PUnit->Sem (ForInStep PUnit))).run P w=.ok PUnit.unit w
 | [],_,_,_,_=>by simp
 | f::fs,i,ks,h,hl=>by
  simp only[Xc5] at h
  split at h
  ·rename_i hf
   cases e1:Xcj P f.type with
   | some k =>
    cases e2:Xc5 P fs (i+1) with
    | none=>simp[e1,e2] at h
    | some ks' =>
     simp[e1,e2] at h;subst h
     have ih:=Xd0 (w:=w) b n cs fs (i+1) ks' e2 (by simp at hl;omega)
     have hi:i < cs.size:=by simp at hl;omega
     have hc:cs[i]?=some cs[i]:=Array.getElem?_eq_getElem hi
     have hk:(Instr.checkKey b (n+2) f.type cs[i]).run P w=.ok () w:=by
      unfold Xcj at e1
      cases e:P.underlying f.type with
      | none=>simp[e] at e1
      | some d =>
       rw[e] at e1
       simp only[Instr.checkKey,Sem.run_bind,Go.run_underlying e,Result.andThen_ok]
       cases d <;> first|rfl|(cases e1;done)
     have hp:(part f.type cs f.offset).run P w=.ok cs[i] w:=by
      simp only[part,Sem.run_bind,Xjv e1,Result.andThen_ok,Bool.false_eq_true,if_false,hf.2,hc,Sem.run_pure]
     rw[List.forIn_cons,Sem.run_bind]
     simp only[if_pos hf.1,Sem.run_bind',hp,Result.andThen_ok,hk,Sem.run_pure']
     exact ih
   | none =>
    rw[e1] at h
    dsimp only at h
    cases e0:Xpv P f.type with
    | none=>simp[e0] at h
    | some k1 =>
     rw[e0] at h
     dsimp only at h
     split at h
     ·rename_i hsz
      cases e2:Xc5 P fs (i+k1.length) with
      | none=>simp[e2] at h
      | some ks' =>
       simp[e2] at h;subst h
       have ih:=Xd0 (w:=w) b n cs fs (i+k1.length) ks' e2 (by simp at hl;omega)
       have hp:=Xp6 (w:=w) e0 hsz cs i
       have hk:=Xmq (w:=w) b n e0 (cs.extract i (i+k1.length)) (by simp at hl ⊢;omega)
       rw[List.forIn_cons,Sem.run_bind]
       simp only[if_pos hf.1,Sem.run_bind',hf.2,hp,Result.andThen_ok,hk,Sem.run_pure']
       exact ih
     ·cases h
  ·cases h
theorem Xuk:∀ {ks:List Leaf} {as bs:List A} {r:Bool},Xcz ks as bs=some r->as.length=ks.length
 | [],[],[],_,_=>rfl
 | k::ks,x::l,y::m,r,h=>by
  simp only[Xcz] at h
  cases e1:eqL k x y with
  | none=>simp[e1] at h
  | some a =>
   cases e2:Xcz ks l m with
   | none=>simp[e1,e2] at h
   | some b=>simp[Xuk e2]
 | [],[],_::_,_,h=>by simp[Xcz] at h
 | [],_::_,_,_,h=>by simp[Xcz] at h
 | _::_,[],_,_,h=>by simp[Xcz] at h
 | _::_,_::_,[],_,h=>by simp[Xcz] at h
theorem Xku {P:Program} {w:World} {t:TypeId} {q:Bool × List Leaf} {x:V} {p:Value} (b:Bool) (h:Xhb P t=some q) (hx:Xam H an x p) (he:eqV q.1 q.2 x x≠none) :
  (Instr.checkKey b 10000 t p).run P w=.ok () w:=by
 rcases Xn8 h with ⟨k,hk,rfl⟩|⟨hf,h1⟩
 ·unfold Xcj at hk
  cases e:P.underlying t with
  | none=>simp[e] at hk
  | some d =>
   rw[e] at hk
   have h0:Instr.checkKey b 10000 t p=Instr.checkKey b (9999+1) t p:=rfl
   rw[h0]
   unfold Instr.checkKey
   simp only[Sem.run_bind,Go.run_underlying e,Result.andThen_ok]
   cases d <;> first|rfl|(cases hk;done)
 ·obtain⟨g1,g2,g3,g4⟩:=Xhs hf
  cases x with
  | agg as =>
   unfold eqV at he
   rw[h1] at he
   simp only[if_true] at he
   obtain⟨us,rfl,hdx⟩:=hx
   obtain⟨r,hr⟩:=Option.ne_none_iff_exists'.1 he
   have hl:=Xuk hr
   have hl3:=hdx.length
   have:=Xd0 (P:=P) (w:=w) b 9997 us.toArray (P.fieldsOf t).toList 0 q.2 g4 (by simp;omega)
   have h0:Instr.checkKey b 10000 t (.agg us.toArray)=Instr.checkKey b (9999+1) t (.agg us.toArray):=rfl
   rw[h0]
   unfold Instr.checkKey
   simp only[Sem.run_bind,Go.run_underlying g1,Result.andThen_ok]
   rw[<- Array.forIn_toList]
   exact (congrArg (fun r=>Result.andThen r fun _ w'=>Result.ok () w') this)
  | one a=>unfold eqV at he;rw[h1] at he;exact absurd rfl he
  | tup l=>exact hx.elim
  | un=>exact absurd rfl he
theorem Xhd {P:Program} {w:World} {t:TypeId} {q:Bool × List Leaf} {x:V} {p:Value} (h:Xhb P t=some q) (hx:Xam H an x p) :
  ∀ (es:List (V × V)) (ents:List MapEntry) (i:Nat) (r:Option V),Xal (fun e en=>Xam H an e.1 en.key/\Xam H an e.2 en.val) es ents->Xdz q.1 q.2 es x=some r ->
   match r with
   | none=>(Instr.findAsking t p ents i).run P w=.ok none w/\∀ y,Xmx q.1 q.2 es x y=some (es++[(x,y)])
   | some u=>∃ j en,(Instr.findAsking t p ents i).run P w=.ok (some (i+j,en.val)) w/\ents[j]?=some en/\Xam H an u en.val/\(∀ y,Xmx q.1 q.2 es x y=some (es.set j (x,y)))/\∃ k,(es[j]?).map (·.1)=some k/\eqV q.1 q.2 x k=some true
 | [],[],i,r,_,hr=>by simp[Xdz] at hr;subst hr;exact⟨rfl,fun y=>rfl⟩
 | (k,u)::es,en::ents,i,r,hes,hr=>by
  simp only[Xdz] at hr
  cases e:eqV q.1 q.2 x k with
  | none=>simp[e] at hr
  | some b =>
   have hq:=Yyg (w:=w) h hx hes.1.1 e
   cases b with
   | true =>
    simp[e] at hr
    subst hr
    refine⟨0,en,?_,rfl,hes.1.2,fun y=>by simp[Xmx,e],k,rfl,e⟩
    simp[Instr.findAsking,hq]
   | false =>
    simp[e] at hr
    have ih:=Xhd (w:=w) h hx es ents (i+1) r hes.2 hr
    cases r with
    | none =>
     obtain⟨h1,h2⟩:=ih
     exact⟨by simp[Instr.findAsking,hq,h1],fun y=>by simp[Xmx,e,h2 y]⟩
    | some u' =>
     obtain⟨j,en',h1,h2,h3,h4,k',h5,h6⟩:=ih
     refine⟨j+1,en',?_,by simpa using h2,h3,fun y=>by simp[Xmx,e,h4 y],k',by simpa using h5,h6⟩
     simp only[Instr.findAsking,Sem.run_bind,hq,Result.andThen_ok,Bool.false_eq_true,if_false,h1]
     rw[show i+(j+1)=i+1+j by omega]
theorem Xul {P:Program} {t:TypeId} {k:Leaf} {d:TypeDesc} {x:V} {p:Value} (hk:Xcj P t=some k) (hd:P.underlying t=some d) (hx:Xam H an x p) :
  ∀ (es:List (V × V)) (ents:List MapEntry) (i:Nat) (r:Option V),Xal (fun e en=>Xam H an e.1 en.key/\Xam H an e.2 en.val) es ents->Xdz false [k] es x=some r ->
   ∃ g,Instr.findNow d p ents i=some g/\∀ w,(Instr.findAsking t p ents i).run P w=.ok g w
 | [],[],i,r,_,hr=>⟨none,rfl,fun _=>rfl⟩
 | (y,u)::es,en::ents,i,r,hes,hr=>by
  simp only[Xdz] at hr
  cases e:eqV false [k] x y with
  | none=>simp[e] at hr
  | some b =>
   have hq:=fun w=>Yyg (P:=P) (w:=w) (q:=(false,[k])) (t:=t) (by unfold Xhb;rw[hk]) hx hes.1.1 e
   have hs:Instr.sameNow d p en.key=some b:=by
    unfold Xcj at hk
    rw[hd] at hk
    cases x with
    | one x1 =>
     cases y with
     | one y1 =>
      simp only[eqV,Bool.false_eq_true,if_false,Xcz] at e
      cases e1:eqL k x1 y1 with
      | none=>simp[e1] at e
      | some b' =>
       simp[e1] at e;subst e
       have hy:=hes.1.1
       unfold eqL at e1
       split at e1
       ·split at e1
        ·rename_i hkk
         cases e1
         have f1:=Xbl (H:=H) (an:=an) hx
         have f2:=Xbl (H:=H) (an:=an) hy
         rw[f1,f2]
         subst hkk
         cases d <;> first|(cases hk;done)|simp[Instr.sameNow]
        ·cases e1
       ·cases e1
        have f1:=Xda (H:=H) (an:=an) hx
        have f2:=Xda (H:=H) (an:=an) hy
        rw[f1,f2]
        cases d <;> first|(cases hk;done)|simp[Instr.sameNow]
       ·cases e1
        have f1:=Xff (H:=H) (an:=an) hx
        have f2:=Xff (H:=H) (an:=an) hy
        rw[f1,f2]
        cases d <;> first|(cases hk;done)|simp[Instr.sameNow,Xp2]
       ·cases e1
     | _=>simp[eqV] at e
    | agg _=>cases y <;> simp[eqV] at e
    | tup _=>cases y <;> simp[eqV] at e
    | un=>cases y <;> simp[eqV] at e
   cases b with
   | true =>
    refine⟨some (i,en.val),by simp[Instr.findNow,hs],fun w=>by simp[Instr.findAsking,hq w]⟩
   | false =>
    simp[e] at hr
    obtain⟨g,h1,h2⟩:=Xul hk hd hx es ents (i+1) r hes.2 hr
    exact⟨g,by simp[Instr.findNow,hs,h1],fun w=>by simp[Instr.findAsking,hq w,h2 w]⟩
theorem Xn9 {P:Program} {w:World} {t:TypeId} {q:Bool × List Leaf} {x:V} {p:Value} (h:Xhb P t=some q) (hx:Xam H an x p)
  (es:List (V × V)) (ents:List MapEntry) (r:Option V) (hes:Xal (fun e en=>Xam H an e.1 en.key/\Xam H an e.2 en.val) es ents) (hr:Xdz q.1 q.2 es x=some r) :
  (Instr.findKey t p ents).run P w=(Instr.findAsking t p ents 0).run P w:=by
 rcases Xn8 h with ⟨k,hk,rfl⟩|⟨hf,h1⟩
 ·cases e:P.underlying t with
  | none=>unfold Xcj at hk;rw[e] at hk;cases hk
  | some d =>
   obtain⟨g,h1,h2⟩:=Xul hk e hx es ents 0 r hes hr
   simp only[Instr.findKey,Sem.run_bind,Go.run_underlying e,Result.andThen_ok,h1,Sem.run_pure,h2]
 ·have hu:=(Xhs hf).1
  simp only[Instr.findKey,Sem.run_bind,Go.run_underlying hu,Result.andThen_ok]
  cases ents with
  | nil=>rfl
  | cons en ents=>simp[Instr.findNow,Instr.sameNow]
theorem Xht {x:V} {p:Value} (hk:x.ok=true) (h:Xax H an x p):Xam H an x p:=by
 cases x <;> first|exact h|cases hk
theorem Xp7 {P:Program} {e:TypeId} {z:V} (hz:Xfz P e=some z):∃ u,(∀ w,(zeroValue e).run P w=.ok u w)/\Xax H an z u:=by
 unfold Xfz at hz
 cases hi:P.info? e with
 | none=>simp[hi] at hz
 | some i =>
  cases hu:i.zero with
  | none=>simp[hi,hu] at hz
  | some u =>
   simp[hi,hu] at hz
   subst hz
   exact⟨u,fun w=>by simp[zeroValue,typeInfo,hi,hu],X3j H an u⟩
end
end Go.Fw
namespace Go.Fw
open Go
section
variable {S:Sx} {Y:Dyn} {s:St} {a:Act} {w:World} {H:Heap} {an:Anc} {F:Nat->Nat->Prop} {ms:List Nat} {o:Oper} {v:V}
theorem Yoi {x:V} {p:Value} (h:Xam H an x p) (hx:x.ok=true):Xax H an x p:=by
 cases x <;> first|exact h|cases hx
theorem Yoj {t kt e:TypeId} {m k:Operand} {ok:Bool} {z:V} {q:Bool × List Leaf} (h:SatX S Y s a w H an F ms) (ho:o.op=.lookup t m k ok) (ht:S.P.underlying t=some (.map kt e))
  (hq:Xhb S.P kt=some q) (hz:Xfz S.P e=some z)
  (hv:∃ r u,(match evO s.fr (Xac m) with
   | .one (.own j 0)=>(match Xak s.own j with
    | .map es=>Xdz q.1 q.2 es (evO s.fr (Xac k))=some r
    | _=>False)
   | .one (.d (.raw (.map none)))=>r=none
   | _=>False)/\eqV q.1 q.2 (evO s.fr (Xac k)) (evO s.fr (Xac k))≠none/\u=r.getD z/\u.ok=true/\v=if ok then .tup [u,.one (.d (.bool r.isSome))] else u) :
  Xbj S Y s.fr s.own a ms v ((execOp a.eval o).run S.P w):=by
 obtain⟨r,u,hm,hkk,rfl,huo,rfl⟩:=hv
 have hx:=h.ev m
 have hk:=h.ev k
 have hk1:Xam H an (evO s.fr (Xac k)) (a.eval k):=by
  cases e1:evO s.fr (Xac k) with
  | tup l=>rw[e1] at hkk;simp[eqV] at hkk
  | one x=>rw[e1] at hk;exact hk
  | agg x=>rw[e1] at hk;exact hk
  | un=>trivial
 obtain⟨zu,hzr,hzd⟩:=Xp7 (H:=H) (an:=an) hz
 have fin:∀ (es:Array MapEntry) (res:Option (Nat × Value)) (u:Value),((a.eval m=.map none/\es=#[])\/∃ b clk,a.eval m=.map (some b)/\w.heap[b]?=some (.map es clk)) ->
   (Instr.findKey kt (a.eval k) es.toList).run S.P w=.ok res w->res.isSome=r.isSome->(match res with|some (_,v)=>v|none=>zu)=u ->
   Xax H an (r.getD z) u->Xbj S Y s.fr s.own a ms (if ok then .tup [r.getD z,.one (.d (.bool r.isSome))] else r.getD z) ((execOp a.eval o).run S.P w):=by
  intro es res u h1 h2 h3 h4 h5
  refine Xbj.same h (u:=if ok then .tuple #[u,.bool r.isSome] else u) ?_ ?_
  ·have hck:=Xku (w:=w) es.isEmpty hq hk1 hkk
   have hlk:(Instr.lookup t (a.eval m) (a.eval k) ok).run S.P w=.ok (if ok then .tuple #[u,.bool r.isSome] else u) w:=by
    rcases h1 with ⟨h1,rfl⟩|⟨b,clk,h1,hh⟩
    ·simp only[Instr.lookup,Sem.run_bind,Go.run_underlying ht,Result.andThen_ok,h1,Sem.run_pure,hck]
     rw[h2]
     cases res with
     | none=>simp only[Sem.run_bind,hzr,Result.andThen_ok,Sem.run_pure,<- h3,<- h4,Option.isSome_none]
     | some x=>simp only[Sem.run_bind,Result.andThen_ok,Sem.run_pure,<- h3,<- h4,Option.isSome_some]
    ·simp only[Instr.lookup,Sem.run_bind,Go.run_underlying ht,Result.andThen_ok,h1,Xcf hh (by simp),Sem.run_pure,hck]
     rw[h2]
     cases res with
     | none=>simp only[Sem.run_bind,hzr,Result.andThen_ok,Sem.run_pure,<- h3,<- h4,Option.isSome_none]
     | some x=>simp only[Sem.run_bind,Result.andThen_ok,Sem.run_pure,<- h3,<- h4,Option.isSome_some]
   simp only[execOp,ho,Sem.run_bind,hlk,Result.andThen_ok,Sem.run_pure]
  ·cases ok with
   | true =>
    simp only[if_true]
    refine⟨[u,.bool r.isSome],rfl,Xht huo h5,Den.bool _,trivial⟩
   | false=>exact h5
 split at hm
 ·rename_i j e1
  rw[e1] at hx
  split at hm
  ·rename_i es hc
   obtain⟨b,ents,clk,hb,hF,hh,hd⟩:=h.map hc
   have hu:=Xce hb hx
   have hfk:=Xn9 (w:=w) hq hk1 es ents.toList r hd hm
   have hfa:=Xhd (w:=w) hq hk1 es ents.toList 0 r hd hm
   have hg:(a.eval m=.map none/\ents=#[])\/∃ b clk,a.eval m=.map (some b)/\w.heap[b]?=some (.map ents clk):=.inr ⟨b,clk,hu,hh⟩
   cases r with
   | none=>exact fin ents none zu hg (hfk.trans hfa.1) rfl rfl hzd
   | some u =>
    obtain⟨i,en,g1,g2,g3,_⟩:=hfa
    exact fin ents _ en.val hg (hfk.trans g1) rfl rfl (Yoi g3 huo)
  ·exact hm.elim
 ·rename_i e1
  rw[e1] at hx
  subst hm
  refine fin #[] none zu ?_ ?_ rfl rfl hzd
  ·exact .inl ⟨Xkn hx,rfl⟩
  ·have:=Xn9 (w:=w) hq hk1 [] [] none trivial rfl
   exact this
 ·exact hm.elim
theorem Xhu {k:Leaf} {x y:A} {p u:Value} (hx:Xb0 H an x p) (hy:Xb0 H an y u) (he:eqL k x y=some true) (n:Nat):Instr.sameBits n p u=true:=by
 unfold eqL at he
 split at he
 ·split at he
  ·rename_i hk
   cases hx;cases hy
   simp at he
   subst hk;subst he
   simp[Instr.sameBits]
  ·cases he
 ·cases hx;cases hy
  simp at he;subst he
  simp[Instr.sameBits]
 ·cases hx;cases hy
  simp at he;subst he
  simp[Instr.sameBits,Xp2]
 ·cases he
theorem Xg9:∀ {ks:List Leaf} {as bs:List A} {us ws:List Value},Xaz H an as us->Xaz H an bs ws->Xcz ks as bs=some true->∀ n,us.length=ws.length/\(us.zip ws).all (fun (x,y)=>Instr.sameBits n x y)=true
 | [],[],[],[],[],_,_,_,n=>⟨rfl,rfl⟩
 | k::ks,x::as,y::bs,p::us,q::ws,hx,hy,he,n=>by
  simp only[Xcz] at he
  cases e1:eqL k x y with
  | none=>simp[e1] at he
  | some r1 =>
   cases e2:Xcz ks as bs with
   | none=>simp[e1,e2] at he
   | some r2 =>
    simp[e1,e2] at he
    obtain⟨rfl,rfl⟩:=he
    obtain⟨h1,h2⟩:=Xg9 hx.2 hy.2 e2 n
    exact⟨by simp[h1],by simp only[List.zip_cons_cons,List.all_cons,h2,Xhu hx.1 hy.1 e1 n,Bool.and_self]⟩
 | [],[],_::_,_,_,_,_,he,_=>by simp[Xcz] at he
 | [],_::_,_,_,_,_,_,he,_=>by simp[Xcz] at he
 | _::_,[],_,_,_,_,_,he,_=>by simp[Xcz] at he
 | _::_,_::_,[],_,_,_,_,he,_=>by simp[Xcz] at he
 | [],[],[],_::_,_,hx,_,_,_=>hx.elim
 | [],[],[],[],_::_,_,hy,_,_=>hy.elim
 | _::_,_::_,_::_,[],_,hx,_,_,_=>hx.elim
 | _::_,_::_,_::_,_::_,[],_,hy,_,_=>hy.elim
theorem Xp8 {kag:Bool} {ks:List Leaf} {x y:V} {p u:Value} (hx:Xam H an x p) (hy:Xam H an y u) (he:eqV kag ks x y=some true):Instr.sameBits 10000 p u=true:=by
 unfold eqV at he
 split at he
 ·cases kag with
  | true=>simp at he
  | false =>
   simp only[Bool.false_eq_true,if_false] at he
   rename_i a b
   match ks,he with
   | [k],he =>
    simp only[Xcz] at he
    cases e1:eqL k a b with
    | none=>simp[e1] at he
    | some r=>simp[e1] at he;subst he;exact Xhu hx hy e1 _
   | [],he=>simp[Xcz] at he
   | k::k2::ks,he =>
    simp only[Xcz] at he
    cases e1:eqL k a b <;> simp[e1] at he
 ·cases kag with
  | false=>simp at he
  | true =>
   simp only[if_true] at he
   obtain⟨us,rfl,hdx⟩:=hx
   obtain⟨ws,rfl,hdy⟩:=hy
   obtain⟨h1,h2⟩:=Xg9 hdx hdy he 9999
   show Instr.sameBits (9999+1) _ _=true
   unfold Instr.sameBits
   simp[h1,h2]
 ·cases he
theorem Yok {k:Leaf} {x y:A} (h:eqL k x y=some true):eqL k y x=some true:=by
 unfold eqL at h
 split at h
 ·split at h
  ·rename_i hk
   subst hk
   simp at h
   subst h
   simp[eqL]
  ·cases h
 ·simp at h;subst h;simp[eqL]
 ·simp at h;subst h;simp[eqL]
 ·cases h
theorem Xkv:∀ {ks:List Leaf} {as bs:List A},Xcz ks as bs=some true->Xcz ks bs as=some true
 | [],[],[],_=>rfl
 | k::ks,x::as,y::bs,h=>by
  simp only[Xcz] at h ⊢
  cases e1:eqL k x y with
  | none=>simp[e1] at h
  | some r1 =>
   cases e2:Xcz ks as bs with
   | none=>simp[e1,e2] at h
   | some r2 =>
    simp[e1,e2] at h
    obtain⟨rfl,rfl⟩:=h
    simp[Yok e1,Xkv e2]
 | [],[],_::_,h=>by simp[Xcz] at h
 | [],_::_,_,h=>by simp[Xcz] at h
 | _::_,[],_,h=>by simp[Xcz] at h
 | _::_,_::_,[],h=>by simp[Xcz] at h
theorem Yol {kag:Bool} {ks:List Leaf} {x y:V} (h:eqV kag ks x y=some true):eqV kag ks y x=some true:=by
 unfold eqV at h
 split at h
 ·cases kag with
  | true=>simp at h
  | false=>simp only[Bool.false_eq_true,if_false] at h;simp[eqV,Xkv h]
 ·cases kag with
  | false=>simp at h
  | true=>simp only[if_true] at h;simp[eqV,Xkv h]
 ·cases h
theorem Xkw {R:V × V->MapEntry->Prop} {g:MapEntry->MapEntry} {x:V × V}:∀ (l:List (V × V)) (m:List MapEntry) (j:Nat),Xal R l m->(∀ en,m[j]?=some en->R x (g en))->Xal R (l.set j x) (m.modify j g)
 | [],[],j,_,_=>by simp[Xal]
 | _::_,_::_,0,h,k=>by simp only[List.set_cons_zero,List.modify_zero_cons];exact⟨k _ rfl,h.2⟩
 | _::l,_::m,j+1,h,k=>by
  simp only[List.set_cons_succ,List.modify_succ_cons]
  exact⟨h.1,Xkw l m j h.2 (fun en he=>k en (by simpa using he))⟩
theorem Xp9 {t kt e:TypeId} {m k x:Operand} {q:Bool × List Leaf} {own':List Ch} (h:SatX S Y s a w H an F ms) (ho:o.op=.mapUpdate t m k x\/o.op=.insert t m k x) (ht:S.P.underlying t=some (.map kt e)) (hq:Xhb S.P kt=some q)
  (hv:v=.un/\eqV q.1 q.2 (evO s.fr (Xac k)) (evO s.fr (Xac k))≠none/\(evO s.fr (Xac k)).ok=true/\(evO s.fr (Xac x)).ok=true/\match evO s.fr (Xac m) with
  | .one (.own j 0)=>(match Xak s.own j with
   | .map es=>∃ r,Xmx q.1 q.2 es (evO s.fr (Xac k)) (evO s.fr (Xac x))=some r/\own'=Xb1 s.own j (.map r)
   | _=>False)
  | _=>False):Xbj S Y s.fr own' a ms v ((execOp a.eval o).run S.P w):=by
 obtain⟨rfl,hkk,hko,hxo,hv⟩:=hv
 have hm:=h.ev m
 have hk1:=Xht hko (h.ev k)
 have hx1:=Xht hxo (h.ev x)
 split at hv
 ·rename_i j e1
  rw[e1] at hm
  split at hv
  ·rename_i es hc
   obtain⟨r,hr,rfl⟩:=hv
   obtain⟨b,ents,clk,hb,hF,hh,hd⟩:=h.map hc
   have hu:=Xce hb hm
   have hfind:∃ g,Xdz q.1 q.2 es (evO s.fr (Xac k))=some g:=by
    clear hd hc
    induction es generalizing r with
    | nil=>exact⟨none,rfl⟩
    | cons y es ih =>
     obtain⟨y1,y2⟩:=y
     simp only[Xmx] at hr
     simp only[Xdz]
     cases e2:eqV q.1 q.2 (evO s.fr (Xac k)) y1 with
     | none=>simp[e2] at hr
     | some b' =>
      cases b' with
      | true=>exact⟨_,rfl⟩
      | false =>
       simp only[e2] at hr
       cases e3:Xmx q.1 q.2 es (evO s.fr (Xac k)) (evO s.fr (Xac x)) with
       | none=>simp[e3] at hr
       | some r'=>exact ih r' e3
   obtain⟨g,hg⟩:=hfind
   have hfk:=Xn9 (w:=w) hq hk1 es ents.toList g hd hg
   have hfa:=Xhd (w:=w) hq hk1 es ents.toList 0 g hd hg
   have hblt:=(Array.getElem?_eq_some_iff.1 hh).1
   have fin:∀ (o':Obj) (r':List (V × V)),(Instr.mapUpdate t (a.eval m) (a.eval k) (a.eval x)).run S.P w=.ok () { w with heap:=w.heap.setIfInBounds b o' }->r=r' ->
     (∃ ents' clk',o'=.map ents' clk'/\Xal (fun e en=>Xam H an e.1 en.key/\Xam H an e.2 en.val) r' ents'.toList)->Xbj S Y s.fr (Xb1 s.own j (.map r)) a ms .un ((execOp a.eval o).run S.P w):=by
    rintro o' r' hrun rfl ⟨ents',clk',rfl,hall⟩
    refine⟨.skip,undef,{ w with heap:=w.heap.setIfInBounds b (.map ents' clk') },H,an,F,?_,.inr ⟨rfl,rfl⟩,?_,trivial⟩
    ·rcases ho with ho|ho <;> simp only[execOp,ho,Sem.run_bind,hrun,Result.andThen_ok,Sem.run_pure]
    ·rw[Xat]
     exact h.set_own hb hF (Xkt w b _) ⟨rfl,b,ents',clk',rfl,hF,by simp[hblt],hall⟩
   cases g with
   | none =>
    obtain⟨g1,g2⟩:=hfa
    have hrr:=g2 (evO s.fr (Xac x))
    rw[hr] at hrr;cases hrr
    refine fin (.map (ents.push { key:=a.eval k,val:=a.eval x,born:=clk }) (clk+1)) _ ?_ rfl ⟨_,_,rfl,?_⟩
    ·simp only[Instr.mapUpdate,Sem.run_bind,Go.run_underlying ht,Result.andThen_ok,hu,Xcf hh (by simp),Xku false hq hk1 hkk,hfk,g1,Xfi hh (by simp)]
    ·simp only[Array.toList_push]
     exact hd.append ⟨⟨hk1,hx1⟩,trivial⟩
   | some u =>
    obtain⟨i,en,g1,g2,g3,g4,ky,g5,g6⟩:=hfa
    have hrr:=g4 (evO s.fr (Xac x))
    rw[hr] at hrr;cases hrr
    have hes:∃ e0,es[i]?=some e0/\e0.1=ky:=by
     cases e3:es[i]? with
     | none=>simp[e3] at g5
     | some e0=>simp[e3] at g5;exact⟨e0,rfl,g5⟩
    obtain⟨e0,he0,rfl⟩:=hes
    obtain⟨en',hen,hd0,_⟩:=hd.get he0
    rw[g2] at hen;cases hen
    have hsb':Instr.sameBits 10000 en.key (a.eval k)=true:=Xp8 hd0 hk1 (Yol g6)
    refine fin (.map (ents.modify i fun e=>{ e with key:=a.eval k,val:=a.eval x }) clk) _ ?_ rfl ⟨_,_,rfl,?_⟩
    ·have g2':ents[i]?=some en:=by rw[<- Array.getElem?_toList];exact g2
     simp only[Instr.mapUpdate,Sem.run_bind,Go.run_underlying ht,Result.andThen_ok,hu,Xcf hh (by simp),Xku false hq hk1 hkk,hfk,g1,Nat.zero_add,g2',Option.map_some,Option.getD_some,Instr.keyThatStays,hsb',if_true,Sem.run_pure,Xfi hh (by simp)]
    ·rw[Array.toList_modify]
     exact Xkw _ _ _ hd (fun en _=>⟨hk1,hx1⟩)
  ·exact hv.elim
 ·exact hv.elim
end
end Go.Fw
namespace Go.Fw
open Go
section
variable {S:Sx} {Y:Dyn} {s:St} {a:Act} {w w':World} {H:Heap} {an:Anc} {F:Nat->Nat->Prop} {ms:List Nat} {o:Oper} {v:V}
theorem SatX.models (h:SatX S Y s a w H an F ms) {may:Nat->Prop} (hw:WKeep w w' may) (hm:∀ b,may b->∃ i,F i b):Xci w' H:=fun x o hx=>by
 have h1:=h.mod x o hx
 refine (hw.block x (Array.getElem?_eq_some_iff.1 h1).1 (fun e=>?_)).trans h1
 obtain⟨i,hi⟩:=hm x e
 rw[(h.fp i x hi).2.1] at hx;cases hx
theorem SatX.re_own (h:SatX S Y s a w H an F ms) {i:Nat} {c:Ch} {p q:Nat × Value} {f:Nat->Prop} (hi:an i=some p) (hlt:p.1 < q.1) (hq:∃ a n c,q.2=.slice a n c)
  (hw:WKeep w w' (F i)) (hf:∀ b,f b->(F i b\/w.heap.size<=b)/\b < w'.heap.size)
  (hc:Xb7 H (an.put i q) w' c q f):SatX S Y { s with own:=s.own.set i c } a w' H (an.put i q) (fun j b=>if j=i then f b else F j b) ms:=by
 have hle:Anc.Le an (an.put i q):=⟨fun j r hr=>by
  unfold Anc.put
  by_cases e:j=i
  ·subst e
   rw[hi] at hr;cases hr
   exact⟨q,by simp,.inr ⟨hlt,hq⟩⟩
  ·exact⟨r,by simp[e,hr],.inl rfl⟩⟩
 have hil:=(h.anc i).1 ⟨p,hi⟩
 refine h.evolve (may:=F i) hw (fun b hb=>⟨i,hb⟩) (Heap.Le.refl _) (h.models hw fun b hb=>⟨i,hb⟩) (fun b o hb=>.inl hb) hle ?_ ?_ ?_ ?_
 ·intro j
  rw[List.length_set]
  unfold Anc.put
  by_cases e:j=i
  ·subst e;simp[hil]
  ·rw[if_neg e];exact h.anc j
 ·intro j c' hc'
  rw[List.getElem?_set] at hc'
  by_cases e:i=j
  ·subst e
   simp only[if_true,if_pos hil] at hc'
   cases hc'
   exact⟨q,by simp[Anc.put],by simpa using hc⟩
  ·rw[if_neg e] at hc'
   obtain⟨r,hr,hs⟩:=h.own j c' hc'
   refine⟨r,by simp[Anc.put,Ne.symm e,hr],?_⟩
   have:=hs.keep (w':=w') (Heap.Le.refl _) hle (fun x hx=>hw.block x (h.fp j x hx).1 (fun e'=>e (h.dj i j x e' hx)))
   simpa [Ne.symm e] using this
 ·intro j b hb
  rw[List.length_set]
  by_cases e:j=i
  ·subst e
   simp only[if_true] at hb
   obtain⟨h1,h2⟩:=hf b hb
   refine⟨hil,h2,?_,h1.symm.imp id (fun x=>⟨_,x⟩)⟩
   rcases h1 with h1|h1
   ·exact (h.fp _ b h1).2.1
   ·exact h.none_new h1
  ·simp only[if_neg e] at hb
   obtain⟨h1,h2,h3⟩:=h.fp j b hb
   exact⟨h.fl j b hb,Nat.lt_of_lt_of_le h1 hw.size,h2,.inr ⟨j,hb⟩⟩
 ·intro j k b hj hk
  by_cases e:j=i <;> by_cases e':k=i
  ·omega
  ·simp only[if_pos e] at hj;simp only[if_neg e'] at hk
   exfalso
   rcases (hf b hj).1 with h1|h1
   ·exact e' (h.dj k i b hk h1)
   ·have:=(h.fp k b hk).1;omega
  ·simp only[if_pos e'] at hk;simp only[if_neg e] at hj
   exfalso
   rcases (hf b hk).1 with h1|h1
   ·exact e (h.dj j i b hj h1)
   ·have:=(h.fp j b hj).1;omega
  ·simp only[if_neg e] at hj;simp only[if_neg e'] at hk
   exact h.dj j k b hj hk
theorem SatX.add_own (h:SatX S Y s a w H an F ms) {c:Ch} {q:Nat × Value} {f:Nat->Prop} (hw:WKeep w w' (fun _=>False)) (hf:∀ b,f b->w.heap.size<=b/\b < w'.heap.size)
  (hc:Xb7 H (an.put s.own.length q) w' c q f):SatX S Y { s with own:=s.own++[c] } a w' H (an.put s.own.length q) (fun j b=>if j=s.own.length then f b else F j b) ms:=by
 have hle:Anc.Le an (an.put s.own.length q):=⟨fun i r hr=>by
  refine⟨r,?_,.inl rfl⟩
  unfold Anc.put
  rw[if_neg (by have:=(h.anc i).1 ⟨r,hr⟩;omega)]
  exact hr⟩
 refine h.evolve (may:=fun _=>False) hw (fun _ hb=>hb.elim) (Heap.Le.refl _) (h.models hw fun _ hb=>hb.elim) (fun b o hb=>.inl hb) hle ?_ ?_ ?_ ?_
 ·intro i
  unfold Anc.put
  by_cases e:i=s.own.length
  ·subst e;simp
  ·rw[if_neg e,h.anc i];simp;omega
 ·intro i c' hc'
  by_cases e:i=s.own.length
  ·subst e
   rw[List.getElem?_append_right (Nat.le_refl _)] at hc'
   simp at hc'
   subst hc'
   exact⟨q,by simp[Anc.put],by simpa using hc⟩
  ·have hlt:i < s.own.length:=by
    have:=(List.getElem?_eq_some_iff.1 hc').1
    simp at this
    omega
   rw[List.getElem?_append_left hlt] at hc'
   obtain⟨r,hr,hs⟩:=h.own i c' hc'
   refine⟨r,by simp[Anc.put,e,hr],?_⟩
   have:=hs.keep (w':=w') (Heap.Le.refl _) hle (fun x hx=>hw.block x (h.fp i x hx).1 (fun x=>x))
   simpa [e] using this
 ·intro i b hb
  by_cases e:i=s.own.length
  ·simp only[e,if_true] at hb
   obtain⟨h1,h2⟩:=hf b hb
   exact⟨by simp[e],h2,h.none_new h1,.inl h1⟩
  ·simp only[e,if_false] at hb
   obtain⟨h1,h2,h3⟩:=h.fp i b hb
   exact⟨by have:=h.fl i b hb;simp;omega,Nat.lt_of_lt_of_le h1 hw.size,h2,.inr ⟨i,hb⟩⟩
 ·intro i j b hi hj
  by_cases e:i=s.own.length <;> by_cases e':j=s.own.length
  ·omega
  ·simp only[e,if_true] at hi;simp only[e',if_false] at hj
   have:=(h.fp j b hj).1;have:=(hf b hi).1;omega
  ·simp only[e',if_true] at hj;simp only[e,if_false] at hi
   have:=(h.fp i b hi).1;have:=(hf b hj).1;omega
  ·simp only[e,if_false] at hi;simp only[e',if_false] at hj
   exact h.dj i j b hi hj
theorem Xcn {i ver:Nat} {p:Value} (h:p.oneCell'=true):Xax H (an.put i (ver,p)) (.one (.own i ver)) p:=⟨h,(ver,p),by simp[Anc.put],Nat.le_refl _,fun _=>rfl⟩
theorem Xio (h:SatX S Y s a w H an F ms) {y:Operand} {d q n:Nat} (hq:Xau (evO s.fr) (some (Xac y)) d q) (hle:q<=n) (code:BoundsCode):(Instr.sliceBound (a.eval y) n code).run S.P w=.ok q w:=by
 have hy:=h.ev y
 simp only[Xau] at hq
 split at hq
 ·rename_i k m e2
  rw[e2] at hy
  subst hq
  simp only[Xbl hy,Instr.sliceBound,asIntOf,Sem.run_bind,Sem.run_pure,Result.andThen_ok,Sem.run_ite]
  rw[if_pos ⟨by omega,by omega⟩];simp
 ·exact hq.elim
theorem Xm1 (h:SatX S Y s a w H an F ms) {lo hi:Option Operand} {len cap l q:Nat} (isS:Bool) (hl:Xau (evO s.fr) (lo.map Xac) 0 l) (hq:Xau (evO s.fr) (hi.map Xac) len q) (h1:l<=q) (h2:q<=cap) :
  (Instr.sliceBounds isS len cap (lo.map a.eval) (hi.map a.eval) none).run S.P w=.ok (l,q,cap) w:=by
 cases hi with
 | none =>
  simp only[Option.map_none,Xau] at hq
  subst hq
  cases lo with
  | none =>
   simp only[Option.map_none,Xau] at hl
   subst hl
   simp[Instr.sliceBounds]
  | some y =>
   have:=Xio h (y:=y) hl h1 .sliceB
   simp[Instr.sliceBounds,this]
 | some x =>
  have hx:=Xio h (y:=x) (n:=cap) hq h2 (if isS then .sliceAcap else .sliceAlen)
  cases lo with
  | none =>
   simp only[Option.map_none,Xau] at hl
   subst hl
   simp[Instr.sliceBounds,hx]
  | some y =>
   have:=Xio h (y:=y) hl h1 .sliceB
   simp[Instr.sliceBounds,hx,this]
theorem X31 {t:TypeId} {x:Operand} {lo hi:Option Operand} (h:SatX S Y s a w H an F ms) (ho:o.op=.slice t x lo hi none) (ht:S.P.underlying t=some .string)
  (hv:match evO s.fr (Xac x) with
  | .one (.d (.str st))=>∃ l q:Nat,Xau (evO s.fr) (lo.map Xac) 0 l/\Xau (evO s.fr) (hi.map Xac) st.size q/\l<=q/\q<=st.size/\v=.one (.d (.str (st.extract l q)))
  | _=>False):Xbj S Y s.fr s.own a ms v ((execOp a.eval o).run S.P w):=by
 have hx:=h.ev x
 split at hv
 ·rename_i st e
  rw[e] at hx
  obtain⟨l,q,hl,hq,hlq,hqs,rfl⟩:=hv
  refine Xbj.same h (u:=.string (st.extract l q)) ?_ (Den.str _)
  simp only[execOp,ho,Option.map_none,Instr.sliceAt,Sem.run_bind,Go.run_underlying ht,Result.andThen_ok,Instr.slice,Xff hx,Option.isSome_none,Bool.false_eq_true,if_false,Xm1 h false hl hq hlq hqs,Sem.run_pure]
 ·exact hv.elim
theorem Y87 {xs:List (List D)} {u:Value} {n l q:Nat} (hu:Den H (.sl xs) u) (hs:∀ y∈xs,y.length=n) (h1:l<=q) (h2:q<=xs.length) :
  ∃ A cap,u=.slice A xs.length cap/\xs.length<=cap/\Den H (.sl ((xs.take q).drop l)) (.slice (if cap=l then A else A.map (·.add (l*n))) (q - l) (cap - l)):=by
 cases hu with
 | slE A c =>
  simp at h2
  obtain rfl:q=0:=by omega
  obtain rfl:l=0:=by omega
  exact⟨A,c,rfl,by simp,by simpa using Den.slE _ _⟩
 | sl xs b o c sz cells T fz f hb hs' hc hl hf hd =>
  refine⟨_,c,rfl,hc,?_⟩
  have hlen:((xs.take q).drop l).length=q - l:=by simp;omega
  by_cases e0:q=l
  ·subst e0
   have:(xs.take q).drop q=[]:=by simp
   rw[this,Nat.sub_self]
   exact Den.slE _ _
  ·have hne:c≠l:=by omega
   rw[if_neg hne,<- hlen]
   simp only[Option.map_some,Xdr]
   have hsn:sz=n:=by
    cases xs with
    | nil=>simp at h2;omega
    | cons y ys=>rw[<- hs' y (by simp),hs y (by simp)]
   subst hsn
   refine Den.sl _ b _ _ sz cells T fz (fun i j=>f (l+i) j) hb (fun y hy=>hs y (List.mem_of_mem_take (List.mem_of_mem_drop hy))) (by rw[hlen];omega) (by rw[hlen];omega) ?_ ?_
   ·intro i y j z hy hz
    rw[List.getElem?_drop,List.getElem?_take] at hy
    split at hy
    ·rw[<- hf _ _ _ _ hy hz];congr 1;rw[Nat.add_mul];omega
    ·cases hy
   ·intro i y j z hy hz
    rw[List.getElem?_drop,List.getElem?_take] at hy
    split at hy
    ·exact hd _ _ _ _ hy hz
    ·cases hy
theorem Yom {t e:TypeId} {x:Operand} {lo hi:Option Operand} {n:Nat} {own':List Ch} (h:SatX S Y s a w H an F ms) (ho:o.op=.slice t x lo hi none) (ht:S.P.underlying t=some (.slice e)) (hn:szOf S.P e=some n)
  (hv:match (evO s.fr (Xac x)).nrm with
  | .one (.d (.sl xs))=>own'=s.own/\∃ l q:Nat,Xau (evO s.fr) (lo.map Xac) 0 l/\Xau (evO s.fr) (hi.map Xac) xs.length q/\l<=q/\q<=xs.length/\(∀ y∈xs,y.length=n)/\v=.one (.d (.sl ((xs.take q).drop l)))
  | .one (.own j ver)=>(match Xak s.own j with
   | .row sz' ver' xs=>sz'=n/\ver'=ver/\∃ l q:Nat,Xau (evO s.fr) (lo.map Xac) 0 l/\Xau (evO s.fr) (hi.map Xac) xs.length q/\l<=q/\q<=xs.length/\own'=Xb1 s.own j (.row n (ver+1) ((xs.take q).drop l))/\v=.one (.own j (ver+1))
   | _=>False)
  | _=>False):Xbj S Y s.fr own' a ms v ((execOp a.eval o).run S.P w):=by
 have hx:=h.evn x
 have run:∀ (A:Option Addr) (len cap l q:Nat),a.eval x=.slice A len cap->Xau (evO s.fr) (lo.map Xac) 0 l->Xau (evO s.fr) (hi.map Xac) len q->l<=q->q<=cap ->
   (execOp a.eval o).run S.P w=.ok (.value (.slice (if cap=l then A else A.map (·.add (l*n))) (q - l) (cap - l))) w:=by
  intro A len cap l q hu hl hq h1 h2
  simp only[execOp,ho,Option.map_none,Instr.sliceAt,Sem.run_bind,Go.run_underlying ht,Result.andThen_ok,Instr.slice,hu,Xm1 h true hl hq h1 h2,Xav hn,Sem.run_pure]
 split at hv
 ·rename_i xs e1
  rw[e1] at hx
  obtain⟨rfl,l,q,hl,hq,h1,h2,hs,rfl⟩:=hv
  obtain⟨A,cap,hu,hc,hd⟩:=Y87 (u:=a.eval x) hx hs h1 h2
  exact Xbj.same h (run A _ cap l q hu hl hq h1 (by omega)) hd
 ·rename_i j ver e1
  rw[e1] at hx
  split at hv
  ·rename_i sz' ver' xs hc
   obtain⟨rfl,rfl,l,q,hl,hq,h1,h2,rfl,rfl⟩:=hv
   obtain⟨p,hp,hps,hs,hsz,hlen,h4⟩:=h.row hc
   have hu:=Xce hp hx
   have hlen':((xs.take q).drop l).length=q - l:=by simp;omega
   rcases h4 with ⟨rfl,⟨A,rfl⟩,hF⟩|⟨b,of,cap,vs,T,rfl,e2,e3,e4,e5,e6⟩
   ·simp at h2
    obtain rfl:q=0:=by omega
    obtain rfl:l=0:=by omega
    have hr:=run A 0 0 0 0 hu hl hq (Nat.le_refl _) (Nat.le_refl _)
    simp only[if_true,Nat.sub_self] at hr
    refine⟨_,_,w,H,an.put j (ver'+1,.slice A 0 0),(fun i b=>if i=j then False else F i b),hr,.inl rfl,?_,Xcn (an:=an) (p:=.slice A 0 0) (ver:=ver'+1) rfl⟩
    rw[Xat]
    exact h.re_own (q:=(ver'+1,.slice A 0 0)) (f:=fun _=>False) hp (by simp) ⟨A,0,0,rfl⟩ (WKeep.refl _ _) (fun _ hb=>hb.elim) ⟨rfl,⟨A,0,0,rfl⟩,hs,by simp,by simp[lenMax],.inl ⟨by simp,⟨A,rfl⟩,fun _ hb=>hb⟩⟩
   ·have hr:=run _ _ cap l q hu hl hq h1 (by omega)
    have hch:∀ (of':Nat),(¬ cap=l->of'=of+l*sz')->(cap=l->of'=of)->Xb7 H (an.put j (ver'+1,.slice (some ⟨b,of',none⟩) (q - l) (cap - l))) w (.row sz' (ver'+1) ((xs.take q).drop l)) (ver'+1,.slice (some ⟨b,of',none⟩) (q - l) (cap - l)) (fun x=>x=b):=by
     intro of' ho1 ho2
     refine⟨rfl,⟨_,_,_,rfl⟩,hs,fun y hy=>hsz y (List.mem_of_mem_take (List.mem_of_mem_drop hy)),by rw[hlen'];omega,.inr ⟨b,of',cap - l,vs,T,by rw[hlen'],fun _=>Iff.rfl,e3,by rw[hlen'];omega,?_,?_⟩⟩
     ·by_cases ec:cap=l
      ·rw[ho2 ec,ec,Nat.sub_self]
       have:of+cap*sz'<=vs.size:=e5
       omega
      ·rw[ho1 ec,Nat.sub_mul]
       have:l*sz'<=cap*sz':=Nat.mul_le_mul_right _ (by omega)
       omega
     ·intro i y k z hy hz
      rw[List.getElem?_drop,List.getElem?_take] at hy
      split at hy
      ·rename_i hlt
       obtain⟨g,hg,hgd⟩:=e6.get (Xds hsz hy hz)
       refine⟨g,?_,hgd⟩
       rw[List.getElem?_take] at hg
       split at hg
       ·rw[List.getElem?_drop] at hg
        rw[<- Array.getElem?_toList,<- hg];congr 1
        rw[ho1 (by omega),Nat.add_mul];omega
       ·cases hg
      ·cases hy
    rw[Xat]
    by_cases ec:cap=l
    ·rw[if_pos ec] at hr
     refine⟨_,_,w,H,an.put j (ver'+1,.slice (some ⟨b,of,none⟩) (q - l) (cap - l)),(fun i x=>if i=j then x=b else F i x),hr,.inl rfl,?_,Xcn (an:=an) (ver:=ver'+1) rfl⟩
     exact h.re_own (q:=(ver'+1,.slice (some ⟨b,of,none⟩) (q - l) (cap - l))) (f:=fun x=>x=b) hp (by simp) ⟨_,_,_,rfl⟩ (WKeep.refl _ _) (fun x hx=>⟨.inl ((e2 x).2 hx),by subst hx;exact (Array.getElem?_eq_some_iff.1 e3).1⟩) (hch of (fun hn=>absurd ec hn) (fun _=>rfl))
    ·rw[if_neg ec] at hr
     simp only[Option.map_some,Xdr] at hr
     refine⟨_,_,w,H,an.put j (ver'+1,.slice (some ⟨b,of+l*sz',none⟩) (q - l) (cap - l)),(fun i x=>if i=j then x=b else F i x),hr,.inl rfl,?_,Xcn (an:=an) (ver:=ver'+1) rfl⟩
     exact h.re_own (q:=(ver'+1,.slice (some ⟨b,of+l*sz',none⟩) (q - l) (cap - l))) (f:=fun x=>x=b) hp (by simp) ⟨_,_,_,rfl⟩ (WKeep.refl _ _) (fun x hx=>⟨.inl ((e2 x).2 hx),by subst hx;exact (Array.getElem?_eq_some_iff.1 e3).1⟩) (hch (of+l*sz') (fun _=>rfl) (fun hn=>absurd hn ec))
  ·exact hv.elim
 ·exact hv.elim
theorem Yon {t xt:TypeId} {x:Operand} {ok:Bool} {z:V} {d:TypeDesc} (h:SatX S Y s a w H an F ms) (ho:o.op=.typeAssert x xt t ok) (ht:S.P.underlying t=some d) (hd:∀ m,d≠.interface m) (hz:Xfz S.P t=some z)
  (hv:match evO s.fr (Xac x) with
  | .one (.d (.ifc t' ag cs))=>if t'=t then v=(if ok then .tup [mkV ag (cs.map .d),.one (.d (.bool true))] else mkV ag (cs.map .d)) else ok=true/\z.ok=true/\v=.tup [z,.one (.d (.bool false))]
  | .one (.d .nilI)=>ok=true/\z.ok=true/\v=.tup [z,.one (.d (.bool false))]
  | _=>False):Xbj S Y s.fr s.own a ms v ((execOp a.eval o).run S.P w):=by
 have hx:=h.ev x
 obtain⟨zu,hzr,hzd⟩:=Xp7 (H:=H) (an:=an) hz
 have fails:ok=true->z.ok=true->((Instr.typeAssert (a.eval x) xt t ok).run S.P w=.ok (.tuple #[zu,.bool false]) w)->Xbj S Y s.fr s.own a ms (.tup [z,.one (.d (.bool false))]) ((execOp a.eval o).run S.P w):=by
  intro _ hzo hr
  refine Xbj.same h (u:=.tuple #[zu,.bool false]) ?_ ⟨[zu,.bool false],rfl,Xht hzo hzd,Den.bool _,trivial⟩
  simp only[execOp,ho,Sem.run_bind,hr,Result.andThen_ok,Sem.run_pure]
 split at hv
 ·rename_i t' ag cs e
  rw[e] at hx
  have:∃ u,a.eval x=.iface t' u/\Xam H an (mkV ag (cs.map .d)) u:=by
   generalize a.eval x=q at hx
   cases hx with
   | ifcV _ c u hc=>exact⟨u,rfl,hc⟩
   | ifcA _ cs vs hl hc=>exact⟨_,rfl,vs,rfl,Xc3.den_d (Xal.of_get hl.symm hc)⟩
  obtain⟨u,hu,hud⟩:=this
  split at hv
  ·rename_i htt
   subst htt
   subst hv
   refine Xbj.same h (u:=if ok then .tuple #[u,.bool true] else u) ?_ ?_
   ·simp only[execOp,ho,Instr.typeAssert,Sem.run_bind,Go.run_underlying ht,Result.andThen_ok,hu]
    cases d <;> first|exact absurd rfl (hd _)|(cases ok <;> simp)
   ·cases ok with
    | true=>exact⟨[u,.bool true],rfl,hud,Den.bool _,trivial⟩
    | false =>
     simp only[Bool.false_eq_true,if_false]
     generalize mkV ag (cs.map .d)=q at hud
     cases q <;> first|exact hud|exact hud.elim
  ·rename_i htt
   obtain⟨hok,hzo,rfl⟩:=hv
   refine fails hok hzo ?_
   simp only[Instr.typeAssert,Sem.run_bind,Go.run_underlying ht,Result.andThen_ok,hu]
   cases d <;> first|exact absurd rfl (hd _)|simp[htt,hok,hzr]
 ·rename_i e
  rw[e] at hx
  obtain⟨hok,hzo,rfl⟩:=hv
  refine fails hok hzo ?_
  simp only[Instr.typeAssert,Sem.run_bind,Go.run_underlying ht,Result.andThen_ok,Xub hx]
  cases d <;> first|exact absurd rfl (hd _)|simp[hok,hzr]
 ·exact hv.elim
end
end Go.Fw
namespace Go.Fw
open Go
theorem Xkx (z:List D):∀ n,Xc0 z n=List.replicate n z
 | 0=>rfl
 | n+1=>by simp[Xc0,Xkx z n,List.replicate_succ]
section
variable {S:Sx} {Y:Dyn} {s:St} {a:Act} {w w':World} {H:Heap} {an:Anc} {F:Nat->Nat->Prop} {ms:List Nat} {o:Oper} {v:V}
theorem Xqa {ver sz of cap:Nat} {xs:List (List D)} {b:Nat} {vs:Array Value} {T:TypeId} {f:Nat->Prop} (hs:0 < sz) (hsz:∀ x∈xs,x.length=sz) (hl:xs.length < lenMax) (hf:∀ x,f x↔x=b)
  (hb:w.heap[b]?=some (.cells vs T (0,0))) (hc:xs.length<=cap) (ho:of+cap*sz<=vs.size) (hd:Xc3 H xs.flatten ((vs.toList.drop of).take (xs.length*sz))) :
  Xb7 H an w (.row sz ver xs) (ver,.slice (some ⟨b,of,none⟩) xs.length cap) f:=by
 refine⟨rfl,⟨_,_,_,rfl⟩,hs,hsz,hl,.inr ⟨b,of,cap,vs,T,rfl,hf,hb,hc,ho,?_⟩⟩
 intro i x j y hx hy
 obtain⟨g,hg,hgd⟩:=hd.get (Xds hsz hx hy)
 refine⟨g,?_,hgd⟩
 rw[List.getElem?_take] at hg
 split at hg
 ·rw[List.getElem?_drop] at hg
  rw[<- Array.getElem?_toList,<- hg];congr 1;omega
 ·cases hg
theorem Xum {t e:TypeId} {l c:Operand} {n by_:Nat} {z:List D} {own':List Ch} (h:SatX S Y s a w H an F ms) (ho:o.op=.makeSlice t l c) (ht:S.P.underlying t=some (.slice e)) (hlc:a.eval c=a.eval l\/(∃ k k' q,a.eval l=.int k q/\a.eval c=.int k' q))
  (hn:szOf S.P e=some n) (hb:Xcc S.P e=some by_) (hz:Xb6 S.P e=some z)
  (hv:match evO s.fr (Xac l) with
  | .one (.d (.int _ q))=>0<=q/\0 < n/\z.length=n/\q*by_<=140737488355328/\q < lenMax/\own'=s.own++[.row n 0 (List.replicate q.toNat z)]/\v=.one (.own s.own.length 0)
  | _=>False):Xbj S Y s.fr own' a ms v ((execOp a.eval o).run S.P w):=by
 have hx:=h.ev l
 split at hv
 ·rename_i k q e1
  rw[e1] at hx
  obtain⟨h0,hs,hzl,hby,hq,rfl,rfl⟩:=hv
  have hu:=Xbl hx
  have hc:∃ k',a.eval c=.int k' q:=by
   rcases hlc with hlc|⟨k1,k2,q',h1,h2⟩
   ·exact⟨k,by rw[hlc,hu]⟩
   ·rw[hu] at h1;cases h1;exact⟨_,h2⟩
  obtain⟨k',hc⟩:=hc
  obtain⟨m,rfl⟩:=Int.eq_ofNat_of_zero_le h0
  obtain⟨i,u,hi,hzu,hd⟩:=Xb2 hz
  have hcells:=Xgo (H:=H) hd hzl hs m
  have hib:i.bytes=by_:=by
   unfold Xcc at hb
   rw[hi] at hb
   simpa using hb
  have hw64:IntKind.i64.wrap (m:Int)=m:=Xfh (by unfold inK lenMax at *;simp[IntKind.min,IntKind.max,IntKind.signed,IntKind.bits];omega)
  have hrun:(Instr.makeSlice t (a.eval l) (a.eval c)).run S.P w=.ok (.slice (some ⟨w.heap.size,0,none⟩) m m) { w with heap:=w.heap.push (.cells ((Array.range (m*n)).map (u.cells[· % u.cells.size]!)) e) }:=by
   have n1:¬ (m:Int) < 0:=by omega
   have n2:¬ (281474976710656 < (i.bytes:Int)*(m:Int)):=by rw[hib,Int.mul_comm];omega
   have n5:¬ (140737488355328 < m*i.bytes):=by
    rw[hib];intro hlt
    have:((m*by_:Nat):Int)<=140737488355328:=by rw[Int.natCast_mul];exact hby
    omega
   by_cases h00:m*n=0
   ·simp[Instr.makeSlice,run_underlying ht,hu,hc,asInt,asIntOf,typeInfo,hi,Xav hn,hw64,n1,n2,n5,h00,newRow,askRoom,roomBytes]
    rw[show (Array.range 0)=(#[]:Array Nat) from rfl];simp
   ·simp[Instr.makeSlice,run_underlying ht,hu,hc,asInt,asIntOf,typeInfo,hi,Xav hn,zeroValue,hzu,hw64,n1,n2,n5,h00,newRow,askRoom,roomBytes]
  refine⟨_,_,_,H,_,_,?_,.inl rfl,h.add_own (q:=(0,.slice (some ⟨w.heap.size,0,none⟩) m m)) (f:=fun x=>x=w.heap.size) (c:=.row n 0 (List.replicate (m:Int).toNat z)) (WKeep.push w (.cells ((Array.range (m*n)).map (u.cells[· % u.cells.size]!)) e) _) (fun b hb=>⟨by omega,by subst hb;simp⟩) ?_,Xcn rfl⟩
  ·simp only[execOp,ho,Sem.run_bind,hrun,Result.andThen_ok,Sem.run_pure]
  ·rw[Int.toNat_natCast,<- Xkx]
   have hzz:∀ x∈Xc0 z m,x.length=n:=fun x hx=>by rw[Xe1 hx];exact hzl
   have:=Xqa (H:=H) (an:=an.put s.own.length (0,.slice (some ⟨w.heap.size,0,none⟩) m m)) (w:={ w with heap:=w.heap.push (.cells ((Array.range (m*n)).map (u.cells[· % u.cells.size]!)) e) }) (vs:=(Array.range (m*n)).map (u.cells[· % u.cells.size]!)) (ver:=0) (sz:=n) (of:=0) (cap:=m) (xs:=Xc0 z m) (b:=w.heap.size) (T:=e) (f:=fun x=>x=w.heap.size) hs hzz (by rw[Xbq];unfold lenMax at *;omega) (fun _=>Iff.rfl) (by simp) (by rw[Xbq];exact Nat.le_refl _) (by simp) (by
    rw[Xbq,List.drop_zero,List.take_of_length_le (by simp)]
    exact hcells)
   rw[Xbq] at this
   exact this
 ·exact hv.elim
theorem Xqb {t e:TypeId} {l c:Operand} {n by_:Nat} {z:List D} (h:SatX S Y s a w H an F ms) (ho:o.op=.makeSlice t l c) (ht:S.P.underlying t=some (.slice e)) (hlc:a.eval c=a.eval l\/(∃ k k' q,a.eval l=.int k q/\a.eval c=.int k' q))
  (hn:szOf S.P e=some n) (hb:Xcc S.P e=some by_) (hz:Xb6 S.P e=some z)
  (hv:match evO s.fr (Xac l) with
  | .one (.d (.int _ q))=>0<=q/\0 < n/\z.length=n/\q*by_<=140737488355328/\q < lenMax/\v=.one (.d (.sl (List.replicate q.toNat z)))
  | _=>False):Xbj S Y s.fr s.own a ms v ((execOp a.eval o).run S.P w):=by
 have hx:=h.ev l
 split at hv
 ·rename_i k q e1
  rw[e1] at hx
  obtain⟨h0,hs,hzl,hby,hq,rfl⟩:=hv
  have hu:=Xbl hx
  have hc:∃ k',a.eval c=.int k' q:=by
   rcases hlc with hlc|⟨k1,k2,q',h1,h2⟩
   ·exact⟨k,by rw[hlc,hu]⟩
   ·rw[hu] at h1;cases h1;exact⟨_,h2⟩
  obtain⟨k',hc⟩:=hc
  obtain⟨m,rfl⟩:=Int.eq_ofNat_of_zero_le h0
  obtain⟨i,u,hi,hzu,hd⟩:=Xb2 hz
  have hcells:=Xgo (H:=H) hd hzl hs m
  have hib:i.bytes=by_:=by
   unfold Xcc at hb
   rw[hi] at hb
   simpa using hb
  have hw64:IntKind.i64.wrap (m:Int)=m:=Xfh (by unfold inK lenMax at *;simp[IntKind.min,IntKind.max,IntKind.signed,IntKind.bits];omega)
  have hrun:(Instr.makeSlice t (a.eval l) (a.eval c)).run S.P w=.ok (.slice (some ⟨w.heap.size,0,none⟩) m m) { w with heap:=w.heap.push (.cells ((Array.range (m*n)).map (u.cells[· % u.cells.size]!)) e) }:=by
   have n1:¬ (m:Int) < 0:=by omega
   have n2:¬ (281474976710656 < (i.bytes:Int)*(m:Int)):=by rw[hib,Int.mul_comm];omega
   have n5:¬ (140737488355328 < m*i.bytes):=by
    rw[hib];intro hlt
    have:((m*by_:Nat):Int)<=140737488355328:=by rw[Int.natCast_mul];exact hby
    omega
   by_cases h00:m*n=0
   ·simp[Instr.makeSlice,run_underlying ht,hu,hc,asInt,asIntOf,typeInfo,hi,Xav hn,hw64,n1,n2,n5,h00,newRow,askRoom,roomBytes]
    rw[show (Array.range 0)=(#[]:Array Nat) from rfl];simp
   ·simp[Instr.makeSlice,run_underlying ht,hu,hc,asInt,asIntOf,typeInfo,hi,Xav hn,zeroValue,hzu,hw64,n1,n2,n5,h00,newRow,askRoom,roomBytes]
  refine⟨.value (.slice (some ⟨w.heap.size,0,none⟩) m m),_,_,_,_,_,?_,.inl rfl,h.push_known (.cells ((Array.range (m*n)).map (u.cells[· % u.cells.size]!)) e),?_⟩
  ·simp only[execOp,ho,Sem.run_bind,hrun,Result.andThen_ok,Sem.run_pure]
  ·rw[Int.toNat_natCast,<- Xkx]
   have hle:Heap.Le H (H.put w.heap.size (.cells ((Array.range (m*n)).map (u.cells[· % u.cells.size]!)) e)):=Heap.put_le (h.none_new (Nat.le_refl _))
   have hzz:∀ x∈Xc0 z m,x.length=n:=fun x hx=>by rw[Xe1 hx];exact hzl
   show Den _ (.sl (Xc0 z m)) _
   have e2:(Value.slice (some ⟨w.heap.size,0,none⟩) m m)=.slice (some ⟨w.heap.size,0,none⟩) (Xc0 z m).length m:=by rw[Xbq]
   rw[e2]
   refine Xc3.row (cells:=(Array.range (m*n)).map (u.cells[· % u.cells.size]!)) (T:=e) (fz:=(0,0)) hs (by simp[Heap.put]) hzz (by rw[Xbq];exact Nat.le_refl _) (by rw[Xbq];unfold lenMax at *;omega) ?_
   rw[Xbq,List.drop_zero,List.take_of_length_le (by simp)]
   exact hcells.mono hle
 ·exact hv.elim
theorem X32 {t e:TypeId} {len:Nat} {ps:Array (Nat × Operand)} {z:List D} {n:Nat} {own':List Ch} (h:SatX S Y s a w H an F ms) (ho:o.op=.buildSlice t len ps) (ht:S.P.underlying t=some (.slice e))
  (hn:szOf S.P e=some n) (hz:Xb6 S.P e=some z)
  (hv:z.length=n/\len*n<=16777216/\0 < n/\∃ xs,Xsn (evO s.fr) n (Xc0 z len) (ps.toList.map fun p=>(p.1,Xac p.2))=some xs/\((ps.toList.map fun p=>(p.1,Xac p.2)).all fun p=>(evO s.fr p.2).ok)=true/\own'=s.own++[.row n 0 xs]/\v=.one (.own s.own.length 0)) :
  Xbj S Y s.fr own' a ms v ((execOp a.eval o).run S.P w):=by
 obtain⟨hzl,hlen,hpos,xs,hl,hk,rfl,rfl⟩:=hv
 obtain⟨i,u,hi,hu,hd⟩:=Xb2 hz
 have hc:=Xgo (H:=H) hd hzl hpos len
 obtain⟨rs,hr,hd',h1,h2⟩:=Xkq (evO s.fr) a.eval h.ev n ps.toList (Xc0 z len) xs _ hc (fun x hx=>by rw[Xe1 hx];exact hzl) hl hk
 rw[Xbq] at h2
 have hr':Instr.fill (fun i=>some (i*n,n)) ((Array.range (len*n)).map (u.cells[· % u.cells.size]!)) (ps.map fun (p:Nat × Operand)=>(p.1,a.eval p.2)).toList=some rs:=by simpa using hr
 have hll:xs.length < lenMax:=by
  have:xs.length*1<=xs.length*n:=Nat.mul_le_mul_left _ hpos
  rw[h2] at this ⊢
  unfold lenMax;omega
 have hlr:=hd'.length
 rw[flat_len h1] at hlr
 simp at hlr
 refine⟨.value (.slice (some ⟨w.heap.size,0,none⟩) len len),_,_,H,_,_,?_,.inl rfl,h.add_own (q:=(0,.slice (some ⟨w.heap.size,0,none⟩) len len)) (f:=fun x=>x=w.heap.size) (c:=.row n 0 xs) (WKeep.push w (.cells rs e) _) (fun b hb=>⟨by omega,by subst hb;simp⟩) ?_,Xcn rfl⟩
 ·by_cases h0:len*n=0
  ·have hl0:len=0:=by rcases Nat.mul_eq_zero.1 h0 with h|h <;> omega
   subst hl0
   simp only[Nat.zero_mul] at hr'
   have e0:(Array.range 0).map (u.cells[· % u.cells.size]!)=(#[]:Array Value):=by simp
   rw[e0] at hr'
   have e1:(Array.range 0).map ((#[]:Array Value)[· % (#[]:Array Value).size]!)=(#[]:Array Value):=by simp
   simp only[execOp,ho,Instr.buildSlice,Sem.run_bind,Go.run_underlying ht,Result.andThen_ok,Xav hn,Nat.zero_mul]
   simp only[Nat.not_lt_zero,gt_iff_lt,if_false,if_true,Sem.run_bind,Sem.run_pure,Result.andThen_ok]
   rw[e1,hr']
   simp[newRow]
  ·simp only[execOp,ho,Instr.buildSlice,Sem.run_bind,Go.run_underlying ht,Result.andThen_ok,Xav hn]
   rw[if_neg (by omega)]
   simp only[if_neg h0,Sem.run_bind,zeroValue,typeInfo,run_program,hi,hu,Sem.run_pure,Result.andThen_ok,hr']
   simp[newRow]
 ·have:=Xqa (H:=H) (an:=an.put s.own.length (0,.slice (some ⟨w.heap.size,0,none⟩) len len)) (w:={ w with heap:=w.heap.push (.cells rs e) }) (vs:=rs) (ver:=0) (sz:=n) (of:=0) (cap:=len) (xs:=xs) (b:=w.heap.size) (T:=e) (f:=fun x=>x=w.heap.size) hpos h1 hll (fun _=>Iff.rfl) (by simp) (by omega) (by rw[<- h2];omega) (by
    rw[List.drop_zero,List.take_of_length_le (by simp;omega)]
    exact hd')
  rw[h2] at this
  exact this
theorem Xi7 {P:Program} {w:World} {t ty e:TypeId} {i:TypeInfo} {z:Value} (ht:P.underlying t=some (.slice e)) (hi:P.info? e=some i) (hz:i.zero=some z)
  {base ba:Option Addr} {sLen sCap m c:Nat} {olds news:Array Value}
  (ho:∀ d,(Builtin.firstCells i.size sLen (.slice base sLen sCap)).run P { w with drawn:=d }=.ok olds { w with drawn:=d })
  (hn:∀ d,(Builtin.firstCells i.size m (.slice ba m c)).run P { w with drawn:=d }=.ok news { w with drawn:=d })
  (hg:sCap < sLen+m) (h63:((sLen+m:Nat):Int)<=9223372036854775807) (hfit:Builtin.nextslicecap (sLen+m) sCap*i.bytes<=281474976710656) :
  ∃ w',(Builtin.append_ #[t,t] ty #[.slice base sLen sCap,.slice ba m c]).run P w=.ok (.slice (some ⟨w.heap.size,0,none⟩) (sLen+m) (grownCap w (sLen+m) sCap e)) w' /\
   w'.heap=w.heap.push (.cells (olds++news++Builtin.zeroCells z.cells (grownCap w (sLen+m) sCap e - (sLen+m))) e)/\w'.os=w.os/\w'.tape=w.tape/\w'.output=w.output:=by
 have hn':¬ (sLen+m<=sCap):=by omega
 have h63':¬ (9223372036854775807 < ((sLen:Int)+(m:Int))):=by omega
 have h48':¬ (281474976710656 < Builtin.nextslicecap (sLen+m) sCap*i.bytes):=by omega
 have ho:=ho (w.drawn+1)
 have hn:=hn (w.drawn+1)
 refine⟨w.drew.alloc (.cells (olds++news++Builtin.zeroCells z.cells (grownCap w (sLen+m) sCap e - (sLen+m))) e),?_,rfl,rfl,rfl,rfl⟩
 have ho':(Builtin.firstCells i.size sLen (.slice base sLen sCap)).run P w.drew=.ok olds w.drew:=ho
 have hn'':(Builtin.firstCells i.size m (.slice ba m c)).run P w.drew=.ok news w.drew:=hn
 simp[Builtin.append_,run_underlying ht,sizeOf,typeInfo,zeroValue,hi,hz,Builtin.lenOf,hn',h63',h48',Question.forced,ho',hn'',newRow,grownCap]
theorem Xi8 {P:Program} {w:World} {t ty e:TypeId} {i:TypeInfo} (ht:P.underlying t=some (.slice e)) (hi:P.info? e=some i)
  {g of sLen sCap m c:Nat} {ba:Option Addr} {cur:Array Value} {T:TypeId} {news:List Value} (hg:w.heap[g]?=some (.cells cur T (0,0)))
  (hn:(Builtin.firstCells i.size m (.slice ba m c)).run P w=.ok news.toArray w) (h1:∀ u∈news,u.oneCell'=true)
  (hroom:sLen+m<=sCap) (hfit:of+sLen*i.size+news.length<=cur.size) :
  (Builtin.append_ #[t,t] ty #[.slice (some ⟨g,of,none⟩) sLen sCap,.slice ba m c]).run P w =
   .ok (.slice (some ⟨g,of,none⟩) (sLen+m) sCap) (w.setRow g (cur.toList.take (of+sLen*i.size)++news++cur.toList.drop (of+sLen*i.size+news.length)).toArray):=by
 have hst:=run_storeCells_at P g (of+sLen*i.size) T news 0 cur w hg (by simpa using hfit) h1
 simp only[Nat.add_zero] at hst
 simp[Builtin.append_,run_underlying ht,sizeOf,typeInfo,hi,Builtin.lenOf,hroom,hn,Xdr,hst]
theorem Xky {P:Program} {ys:List (List D)} {u:Value} {n:Nat} (h:SatX S Y s a w H an F ms) (hu:Den H (.sl ys) u) (hs:∀ y∈ys,y.length=n) :
  ∃ ba c news,u=.slice ba ys.length c/\news.length=ys.length*n/\Xc3 H ys.flatten news/\∀ d,(Builtin.firstCells n ys.length (.slice ba ys.length c)).run P { w with drawn:=d }=.ok news.toArray { w with drawn:=d }:=by
 cases hu with
 | slE A c=>exact⟨A,c,[],rfl,by simp,trivial,fun d=>by cases A <;> simp[Builtin.firstCells,loadCells,loadCellsFrom]⟩
 | sl xs b o c sz cells T fz f hb hs' hc hl hf hd =>
  have hw:=h.mod _ _ hb
  have hsn:ys=[]\/sz=n:=by
   cases ys with
   | nil=>exact .inl rfl
   | cons y l=>exact .inr (by rw[<- hs' y (by simp),hs y (by simp)])
  rcases hsn with rfl|rfl
  ·exact⟨_,c,[],rfl,by simp,trivial,fun d=>by simp[Builtin.firstCells,loadCells,loadCellsFrom]⟩
  ·have hget:∀ k x,ys.flatten[k]?=some x->∃ v,cells[o+k]?=some v/\Den H x v:=by
    intro k x hx
    have hk:=(List.getElem?_eq_some_iff.1 hx).1
    rw[flat_len hs] at hk
    have hpos:0 < sz:=by rcases Nat.eq_zero_or_pos sz with e|e <;> first|exact e|(subst e;simp at hk)
    obtain⟨x',y',h1,h2,h3⟩:=Xn5 hpos hs hk
    rw[hx] at h3;cases h3
    have h4:=hf _ _ _ _ h1 h2
    refine⟨_,?_,hd _ _ _ _ h1 h2⟩
    rw[<- h4];congr 1
    rw[Nat.add_assoc,Nat.mul_comm,Nat.div_add_mod]
   refine⟨_,c,(List.range (ys.length*sz)).map fun k=>cells.getD (o+k) undef,rfl,by simp,?_,fun d=>?_⟩
   ·refine Xal.of_get (by rw[flat_len hs];simp) fun k x v hx hv=>?_
    obtain⟨v',hv',hd'⟩:=hget k x hx
    have hk:=(List.getElem?_eq_some_iff.1 hv).1
    simp at hk
    simp[List.getElem?_range hk,Array.getD_eq_getD_getElem?,hv'] at hv
    rw[<- hv];exact hd'
   ·refine run_firstCells_some _ sz ys.length _ ys.length c _ (by simp) fun j v hv=>?_
    have hk:=(List.getElem?_eq_some_iff.1 hv).1
    simp at hk
    obtain⟨v',hv',hd'⟩:=hget j _ (List.getElem?_eq_getElem (by rw[flat_len hs];exact hk))
    simp[List.getElem?_range hk,Array.getD_eq_getD_getElem?,hv'] at hv
    subst hv
    rw[Xdr,cell_of_heap (w:={ w with drawn:=d }) (T:=T) (fz:=fz) (cs:=cells) hw]
    exact hv'
theorem Xc3.oneCell {l:List D} {m:List Value} (h:Xc3 H l m):∀ u∈m,u.oneCell'=true:=by
 intro u hu
 obtain⟨i,hi⟩:=List.mem_iff_getElem?.1 hu
 have hlt:=(List.getElem?_eq_some_iff.1 hi).1
 have hl:i < l.length:=by rw[h.length];exact hlt
 obtain⟨v,hv,hd⟩:=h.get (List.getElem?_eq_getElem hl)
 rw[hi] at hv;cases hv
 exact Den.oneCell hd
theorem Xee {xs ys:List (List D)}:(xs++ys).flatten=xs.flatten++ys.flatten:=by simp
theorem X33 {t e:TypeId} {own':List Ch} (h:SatX S Y s a w H an F ms) (ho:o.op=.alloc t) (hb:Ynw S.P t=some e)
  (hv:own'=s.own++[.bld t (.own (s.own.length+1) 0),.brow e 0 []]/\v=.one (.ptr s.own.length 0)):Xbj S Y s.fr own' a ms v ((execOp a.eval o).run S.P w):=by
 obtain⟨rfl,rfl⟩:=hv
 obtain⟨i,u,hi,hu,hd⟩:=X1y hb
 have hcs:u.cells.toList=[.pointer none,.slice none 0 0]:=by
  match e0:u.cells.toList,hd with
  | [],hd=>simp[Xhl] at hd
  | [x],hd =>
   simp only[Xhl] at hd
   cases e1:dOf x with
   | none=>simp[e1] at hd
   | some d=>simp[e1] at hd
  | x::y::l,hd =>
   simp only[Xhl] at hd
   cases e1:dOf x with
   | none=>simp[e1] at hd
   | some d =>
    cases e2:dOf y with
    | none=>simp[e1,e2] at hd
    | some d2 =>
     cases e3:Xhl l with
     | none=>simp[e1,e2,e3] at hd
     | some l2 =>
      simp[e1,e2,e3] at hd
      obtain⟨rfl,rfl,rfl⟩:=hd
      have hl:l=[]:=by
       cases l with
       | nil=>rfl
       | cons z l =>
        simp only[Xhl] at e3
        cases e4:dOf z with
        | none=>simp[e4] at e3
        | some d3 =>
         cases e5:Xhl l with
         | none=>simp[e4,e5] at e3
         | some l3=>simp[e4,e5] at e3
      subst hl
      rw[Yn3 e1,Wxf e2]
 have hua:u.cells=[Value.pointer none,.slice none 0 0].toArray:=by rw[<- hcs,Array.toArray_toList]
 have hrun:(execOp a.eval o).run S.P w=.ok (.value (.pointer (some ⟨w.heap.size,0,none⟩))) { w with heap:=w.heap.push (.cells [Value.pointer none,.slice none 0 0].toArray t) }:=by
  simp only[execOp,ho,Instr.alloc]
  simp[zeroValue,typeInfo,hi,hu,newVar,newRow,hua]
 have h1:=h.new_box t (cs:=[.d .nilP,.nil]) (vs:=[.pointer none,.slice none 0 0]) ⟨Den.nilP,⟨none,rfl⟩,trivial⟩
 have h2:=h1.add_own (c:=.brow e 0 []) (q:=(0,.slice none 0 0)) (f:=fun _=>False) (WKeep.refl _ _) (fun _ hb=>hb.elim) ⟨rfl,by simp[lenMax],fun _=>rfl,⟨by simp[Lib.byteCells],.inl ⟨rfl,rfl⟩⟩,fun x=>by simp[Value.ownBlock]⟩
 simp only[List.append_assoc,List.length_append,List.length_cons,List.length_nil,Nat.zero_add] at h2
 have hp:(an.put s.own.length (0,.pointer (some ⟨w.heap.size,0,none⟩))).put (s.own.length+1) (0,.slice none 0 0) s.own.length=some (0,.pointer (some ⟨w.heap.size,0,none⟩)):=by
  simp[Anc.put]
 have h3:=h2.set_own (w':=_) (i:=s.own.length) (b:=w.heap.size) (c:=.bld t (.own (s.own.length+1) 0)) hp (fun x=>by simp) (WKeep.refl _ _)
  ⟨rfl,w.heap.size,.pointer none,.slice none 0 0,t,rfl,fun x=>by simp,by simp,.inl ⟨rfl,rfl⟩,⟨rfl,(0,.slice none 0 0),by simp[Anc.put],Nat.le_refl _,fun _=>rfl⟩⟩
 have e1:(s.own++([Ch.cells [.d .nilP,.nil]]++[Ch.brow e 0 []])).set s.own.length (.bld t (.own (s.own.length+1) 0))=s.own++[.bld t (.own (s.own.length+1) 0),.brow e 0 []]:=by
  rw[List.set_append_right _ _ (Nat.le_refl _)];simp
 refine⟨.value (.pointer (some ⟨w.heap.size,0,none⟩)),_,_,_,_,_,hrun,.inl rfl,by rw[<- e1];exact h3,?_⟩
 exact⟨_,rfl,(0,.pointer (some ⟨w.heap.size,0,none⟩)),by simp[Anc.put],fun b e=>by cases e;rfl⟩
theorem Xhv (l m:List UInt8):Lib.byteCells (l++m)=Lib.byteCells l++Lib.byteCells m:=by simp[Lib.byteCells]
theorem Xa1 (l:List UInt8):(Lib.byteCells l).length=l.length:=by simp[Lib.byteCells]
theorem X34:∀ {l:List UInt8} {m:List Value},Xc3 H (Yyf l).flatten m->m=Lib.byteCells l
 | [],[],_=>rfl
 | [],_::_,h=>h.elim
 | c::l,[],h=>h.elim
 | c::l,v::m,h=>by
  obtain⟨h1,h2⟩:=h
  cases h1
  rw[X34 (l:=l) (m:=m) h2];rfl
theorem Xqc {j ver:Nat} {e:TypeId} {bs cs:List UInt8} {x:Operand} (h:SatX S Y s a w H an F ms) (hc:Xak s.own j=.brow e ver bs) (hx:Xax H an (.one (.own j ver)) (a.eval x)) (A:Value->Sem Value)
  (hexec:∀ (r:Value) (w':World),(A (a.eval x)).run S.P w=.ok r w'->(execOp a.eval o).run S.P w=.ok (.value r) w') (hlen:bs.length+cs.length<=140737488355328)
  (hnil:cs=[]->(A (.slice none 0 0)).run S.P w=.ok (.slice none 0 0) w)
  (hroom:∀ (g n cap:Nat) (cur:Array Value),w.heap[g]?=some (.cells cur e (0,0))->n+cs.length<=cap->n+cs.length<=cur.size ->
   (A (.slice (some ⟨g,0,none⟩) n cap)).run S.P w=.ok (.slice (some ⟨g,0,none⟩) (n+cs.length) cap) (w.setRow g (cur.toList.take n++Lib.byteCells cs++cur.toList.drop (n+cs.length)).toArray))
  (hgrow:∀ (base:Option Addr) (n cap:Nat) (olds:List Value),olds.length=n->(∀ d,(Builtin.firstCells 1 n (.slice base n cap)).run S.P { w with drawn:=d }=.ok olds.toArray { w with drawn:=d })->cap < n+cs.length->n+cs.length<=140737488355328 ->
   ∃ w',(A (.slice base n cap)).run S.P w=.ok (.slice (some ⟨w.heap.size,0,none⟩) (n+cs.length) (grownCap w (n+cs.length) cap e)) w' /\
    (∃ zc:Array Value,zc.size=1/\w'.heap=w.heap.push (.cells (olds.toArray++(Lib.byteCells cs).toArray++Builtin.zeroCells zc (grownCap w (n+cs.length) cap e - (n+cs.length))) e))/\w'.os=w.os/\w'.tape=w.tape/\w'.output=w.output) :
  Xbj S Y s.fr (Xb1 s.own j (.brow e (ver+1) (bs++cs))) a ms (.one (.own j (ver+1))) ((execOp a.eval o).run S.P w):=by
 obtain⟨p,hp,hlm,hem,⟨_,h4⟩,hF⟩:=h.brow hc
 have hux:=Xce hp hx
 rw[Xat]
 have hl2:(bs++cs).length < lenMax:=by simp[lenMax];omega
 have grow:∀ (base:Option Addr) (n cap:Nat),p=.slice base n cap->bs.length=n->(∀ d,(Builtin.firstCells 1 n (.slice base n cap)).run S.P { w with drawn:=d }=.ok (Lib.byteCells bs).toArray { w with drawn:=d })->cap < n+cs.length ->
   Xbj S Y s.fr (s.own.set j (.brow e (ver+1) (bs++cs))) a ms (.one (.own j (ver+1))) ((execOp a.eval o).run S.P w):=by
  intro base n cap hpe hn hf hg
  have hnn:¬ (bs++cs=[]):=fun he=>by
   obtain⟨hb1,hc1⟩:=List.append_eq_nil_iff.1 he
   rw[hb1] at hn
   rw[hc1] at hg
   simp at hn hg
   omega
  obtain⟨w',hr,⟨zc,hz1,hw1⟩,hw2,hw3,hw4⟩:=hgrow base n cap (Lib.byteCells bs) (by rw[Xa1,hn]) hf hg (by omega)
  rw[<- hpe,<- hux] at hr
  have hge:=grownCap_ge w (n+cs.length) cap e
  have hle:=grownCap_le_maxLen w (n+cs.length) cap e (by unfold maxLen;omega)
  refine⟨_,_,w',H,an.put j (ver+1,.slice (some ⟨w.heap.size,0,none⟩) (n+cs.length) (grownCap w (n+cs.length) cap e)),(fun i b=>if i=j then b=w.heap.size else F i b),hexec _ _ hr,.inl rfl,?_,Xcn (an:=an) (ver:=ver+1) rfl⟩
  refine h.re_own (q:=(ver+1,.slice (some ⟨w.heap.size,0,none⟩) (n+cs.length) (grownCap w (n+cs.length) cap e))) (f:=fun b=>b=w.heap.size) hp (by simp) ⟨_,_,_,rfl⟩
   ⟨hw2,hw3,hw4,by rw[hw1];simp,fun b hb _=>by rw[hw1,Array.getElem?_push,if_neg (by omega)]⟩ (fun b hb=>⟨.inr (by omega),by rw[hw1];simp;omega⟩)
   ⟨rfl,hl2,fun he=>(hnn he).elim,⟨by rw[Xa1];simp,.inr ⟨w.heap.size,grownCap w (n+cs.length) cap e,_,by rw[List.length_append,hn],Nat.zero_le _,by rw[hw1];exact Array.getElem?_push_size,by rw[List.length_append,hn];exact hge,hle,?_,?_⟩⟩,fun x=>by simp[Value.ownBlock,eq_comm]⟩
  ·simp only[Array.size_append,List.size_toArray,size_zeroCells,hz1,Xa1,hn]
   omega
  ·simp only[Array.toList_append,List.length_append,Nat.mul_one]
   rw[List.take_append_of_le_length (by simp[Xa1]),List.take_of_length_le (by simp[Xa1]),Xhv]
 rcases h4 with ⟨hpn,h0⟩|⟨g,cap,cur,hpe,_,hg,hnc,hcm,hcs,htake⟩
 ·have hb0:bs=[]:=List.eq_nil_of_length_eq_zero h0
  subst hb0
  by_cases hcs:cs=[]
  ·subst hcs
   have hr:=hnil rfl
   rw[<- hpn,<- hux] at hr
   refine⟨_,_,w,H,an.put j (ver+1,.slice none 0 0),(fun i b=>if i=j then False else F i b),hexec _ _ hr,.inl rfl,?_,by rw[hux,hpn];exact Xcn (an:=an) (ver:=ver+1) rfl⟩
   exact h.re_own (q:=(ver+1,.slice none 0 0)) (f:=fun _=>False) hp (by simp) ⟨_,_,_,rfl⟩ (WKeep.refl _ _) (fun _ hb=>hb.elim) ⟨rfl,hl2,fun _=>rfl,⟨by simp[Lib.byteCells],.inl ⟨rfl,by simp⟩⟩,fun x=>by simp[Value.ownBlock]⟩
  ·have hpos:0 < cs.length:=List.length_pos_iff.2 hcs
   exact grow none 0 0 hpn rfl (fun d=>by simp[Builtin.firstCells,loadCells,loadCellsFrom,Lib.byteCells]) (by omega)
 ·have hcs':cur.size=cap:=by simpa using hcs
  by_cases hr0:bs.length+cs.length<=cap
  ·have hr:=hroom g bs.length cap cur hg hr0 (by omega)
   rw[<- hpe,<- hux] at hr
   refine⟨_,_,_,H,an.put j (ver+1,.slice (some ⟨g,0,none⟩) (bs.length+cs.length) cap),(fun i b=>if i=j then b=g else F i b),hexec _ _ hr,.inl rfl,?_,Xcn (an:=an) (ver:=ver+1) rfl⟩
   have hFg:∀ x,F j x↔x=g:=fun x=>by rw[hF x,hpe];simp[Value.ownBlock,eq_comm]
   refine h.re_own (q:=(ver+1,.slice (some ⟨g,0,none⟩) (bs.length+cs.length) cap)) (f:=fun b=>b=g) hp (by simp) ⟨_,_,_,rfl⟩ ((Xc6 w g _).mono fun x hx=>(hFg x).2 hx)
    (fun x hx=>⟨.inl ((hFg x).2 hx),by subst hx;exact Nat.lt_of_lt_of_le (Array.getElem?_eq_some_iff.1 hg).1 (Xc6 w x _).size⟩)
    ⟨rfl,hl2,(fun he=>by have:=hem (List.append_eq_nil_iff.1 he).1;rw[hpe] at this;cases this),⟨by rw[Xa1];simp,.inr ⟨g,cap,_,by rw[List.length_append],Nat.zero_le _,setRow_heap w g cur _ e _ hg,by rw[List.length_append];exact hr0,hcm,?_,?_⟩⟩,fun x=>by simp[Value.ownBlock,eq_comm]⟩
   ·simp only[List.size_toArray,List.length_append,List.length_take,List.length_drop,Array.length_toList,Xa1]
    omega
   ·have ht':cur.toList.take bs.length=Lib.byteCells bs:=by simpa using htake
    simp only[ht',List.length_append,Nat.mul_one,Xhv]
    rw[List.take_append_of_le_length (by simp[Xa1]),List.take_of_length_le (by simp[Xa1])]
  ·refine grow (some ⟨g,0,none⟩) bs.length cap hpe rfl (fun d=>?_) (by omega)
   refine run_firstCells_some _ 1 bs.length ⟨g,0,none⟩ bs.length cap _ (by rw[Xa1,Nat.mul_one]) fun k v hk=>?_
   rw[Xdr,cell_of_heap (w:={ w with drawn:=d }) (T:=e) (fz:=(0,0)) (cs:=cur) hg]
   have ht':cur.toList.take bs.length=Lib.byteCells bs:=by simpa using htake
   rw[<- ht',List.getElem?_take] at hk
   split at hk
   ·simpa using hk
   ·cases hk
theorem Xoa {P:Program} {w:World} {t u ty e:TypeId} {i:TypeInfo} {z:Value} (ht:P.underlying t=some (.slice e)) (hu:P.underlying u=some .string) (hi:P.info? e=some i) (hz:i.zero=some z)
  {base:Option Addr} {sLen sCap:Nat} {olds:Array Value} (s:ByteArray)
  (ho:∀ d,(Builtin.firstCells i.size sLen (.slice base sLen sCap)).run P { w with drawn:=d }=.ok olds { w with drawn:=d })
  (hg:sCap < sLen+s.size) (h63:((sLen+s.size:Nat):Int)<=9223372036854775807) (hfit:Builtin.nextslicecap (sLen+s.size) sCap*i.bytes<=281474976710656) :
  ∃ w',(Builtin.append_ #[t,u] ty #[.slice base sLen sCap,.string s]).run P w=.ok (.slice (some ⟨w.heap.size,0,none⟩) (sLen+s.size) (grownCap w (sLen+s.size) sCap e)) w' /\
   w'.heap=w.heap.push (.cells (olds++(Lib.strCells s).toArray++Builtin.zeroCells z.cells (grownCap w (sLen+s.size) sCap e - (sLen+s.size))) e)/\w'.os=w.os/\w'.tape=w.tape/\w'.output=w.output:=by
 have hn':¬ (sLen+s.size<=sCap):=by omega
 have h63':¬ (9223372036854775807 < ((sLen:Int)+(s.size:Int))):=by omega
 have h48':¬ (281474976710656 < Builtin.nextslicecap (sLen+s.size) sCap*i.bytes):=by omega
 have ho:=ho (w.drawn+1)
 refine⟨w.drew.alloc (.cells (olds++(Lib.strCells s).toArray++Builtin.zeroCells z.cells (grownCap w (sLen+s.size) sCap e - (sLen+s.size))) e),?_,rfl,rfl,rfl,rfl⟩
 have ho':(Builtin.firstCells i.size sLen (.slice base sLen sCap)).run P w.drew=.ok olds w.drew:=ho
 have hn'':=Lib.run_firstCells_string (P:=P) w.drew i.size s
 simp[Builtin.append_,run_underlying ht,run_underlying hu,sizeOf,typeInfo,zeroValue,hi,hz,Builtin.lenOf,hn',h63',h48',Question.forced,ho',hn'',newRow,grownCap]
theorem X35 {t u e:TypeId} {x y:Operand} {own':List Ch} (h:SatX S Y s a w H an F ms) (ho:o.op=.call { callee:=.builtin .append,args:=#[x,y],argTypes:=#[t,u] })
  (ht:S.P.underlying t=some (.slice e)) (hu:S.P.underlying u=some .string) (hn:szOf S.P e=some 1) (hb:Xcc S.P e=some 1) (hz:(S.P.info? e).bind (·.zero)=some (.int .u8 0))
  (hv:match evO s.fr (Xac x),evO s.fr (Xac y) with
  | .one (.own j ver),.one (.d (.str t))=>(match Xak s.own j with
   | .brow e' ver' bs=>e'=e/\ver'=ver/\bs.length+t.size<=140737488355328/\own'=Xb1 s.own j (.brow e (ver+1) (bs++t.data.toList))/\v=.one (.own j (ver+1))
   | _=>False)
  | _,_=>False):Xbj S Y s.fr own' a ms v ((execOp a.eval o).run S.P w):=by
 have hyd:=h.ev y
 have hxd:=h.ev x
 obtain⟨i,hi,hiz⟩:=Option.bind_eq_some_iff.1 hz
 have hin:i.size=1:=by
  obtain⟨i',d,hi',hin,_⟩:=Xe0 hn
  rw[hi] at hi';cases hi';exact hin
 have hib:i.bytes=1:=by
  unfold Xcc at hb
  rw[hi] at hb
  simpa using hb
 split at hv
 ·rename_i j ver st e1 e2
  rw[e1] at hxd
  rw[e2] at hyd
  have hys:=Xff hyd
  split at hv
  ·rename_i e' ver' bs hc
   obtain⟨rfl,rfl,hl,rfl,rfl⟩:=hv
   have hcl:st.data.toList.length=st.size:=Array.length_toList
   refine Xqc (cs:=st.data.toList) h hc hxd (fun r=>Builtin.append_ #[t,u] o.type #[r,.string st]) (fun r w' hr=>?_) (by rw[hcl];exact hl) (fun hn0=>?_) (fun g n cap cur hg h1 h2=>?_) (fun base n cap olds hol hf hg hl2=>?_)
   ·unfold execOp
    simp only[ho,resolve,invoke,builtin,Sem.run_bind,Sem.run_pure,Result.andThen_ok,List.map_toArray,List.map_cons,List.map_nil,hys,hr]
   ·have hs0:st.size=0:=by rw[<- hcl,hn0];rfl
    have hf:=Lib.run_firstCells_string (P:=S.P) w i.size st
    rw[hs0] at hf
    simp[Builtin.append_,run_underlying ht,run_underlying hu,sizeOf,typeInfo,hi,Builtin.lenOf,hs0,hf]
   ·rw[hcl] at h1 h2 ⊢
    exact Lib.run_append_room_string (P:=S.P) w t u o.type e' i ht hu hi hin g n cap cur hg st h1 h2
   ·rw[hcl] at hg hl2 ⊢
    obtain⟨w',k1,k2,k3⟩:=Xoa (ty:=o.type) ht hu hi hiz st (by rw[hin];exact hf) hg (by omega) (by rw[hib];exact growslice_fits hg (by omega))
    exact⟨w',k1,⟨_,rfl,k2⟩,k3⟩
  ·exact hv.elim
 ·exact hv.elim
theorem Yoo {t ty e:TypeId} {x y:Operand} {n by_:Nat} {z:List D} {own':List Ch} (h:SatX S Y s a w H an F ms) (ho:o.op=.call { callee:=.builtin .append,args:=#[x,y],argTypes:=#[t,t] })
  (ht:S.P.underlying t=some (.slice e)) (hn:szOf S.P e=some n) (hb:Xcc S.P e=some by_) (hz:Xb6 S.P e=some z) (hn0:n≠0) (hzl:z.length=n)
  (hv:match (evO s.fr (Xac y)).nrm with
  | .one (.d (.sl ys))=>(∀ q∈ys,q.length=n)/\(match evO s.fr (Xac x) with
   | .one .nil=>0 < n/\ys.length*by_<=140737488355328/\ys.length < lenMax/\own'=s.own++[.row n 0 ys]/\v=.one (.own s.own.length 0)
   | .one (.own j ver)=>(match Xak s.own j with
    | .row sz' ver' xs=>sz'=n/\ver'=ver/\(xs.length+ys.length)*by_<=140737488355328/\xs.length+ys.length < lenMax/\own'=Xb1 s.own j (.row n (ver+1) (xs++ys))/\v=.one (.own j (ver+1))
    | .brow e' ver' bs=>e'=e/\n=1/\by_=1/\ver'=ver/\(bs.length+ys.length)<=140737488355328/\∃ cs:List UInt8,ys=Yyf cs/\own'=Xb1 s.own j (.brow e (ver+1) (bs++cs))/\v=.one (.own j (ver+1))
    | _=>False)
   | _=>False)
  | _=>False):Xbj S Y s.fr own' a ms v ((execOp a.eval o).run S.P w):=by
 have hyd:=h.evn y
 have hxd:=h.ev x
 obtain⟨i,u,hi,hzu,hd⟩:=Xb2 hz
 have hin:i.size=n:=by
  obtain⟨i',d,hi',hin,_⟩:=Xe0 hn
  rw[hi] at hi';cases hi';exact hin
 have hib:i.bytes=by_:=by
  unfold Xcc at hb
  rw[hi] at hb
  simpa using hb
 have hpos:0 < n:=by omega
 have hus:u.cells.size=n:=by have:=(Xhn H hd).length;simp at this;omega
 split at hv
 ·rename_i ys e1
  rw[e1] at hyd
  obtain⟨hys,hv⟩:=hv
  obtain⟨ba,c,news,hyu,hnl,hnd,hfc⟩:=Xky (P:=S.P) (u:=a.eval y) h hyd hys
  have hexec:∀ (r:Value) (w':World),(Builtin.append_ #[t,t] o.type #[a.eval x,a.eval y]).run S.P w=.ok r w'->(execOp a.eval o).run S.P w=.ok (.value r) w':=by
   intro r w' hr
   unfold execOp
   simp only[ho,resolve,invoke,builtin,Sem.run_bind,Sem.run_pure,Result.andThen_ok,List.map_toArray,List.map_cons,List.map_nil,hr]
  have hgrow:∀ (base:Option Addr) (sLen sCap:Nat) (xs:List (List D)) (olds:List Value),a.eval x=.slice base sLen sCap->xs.length=sLen->(∀ q∈xs,q.length=n)->Xc3 H xs.flatten olds ->
    (∀ d,(Builtin.firstCells n sLen (.slice base sLen sCap)).run S.P { w with drawn:=d }=.ok olds.toArray { w with drawn:=d })->sCap < sLen+ys.length->(sLen+ys.length)*by_<=140737488355328->sLen+ys.length < lenMax ->
    ∃ r w',(execOp a.eval o).run S.P w=.ok (.value r) w'/\WKeep w w' (fun _=>False)/\w.heap.size < w'.heap.size/\∀ (bn:Anc) (ver:Nat),r.oneCell'=true/\Xb7 H bn w' (.row n ver (xs++ys)) (ver,r) (fun b=>b=w.heap.size):=by
   intro base sLen sCap xs olds hux hxl hxs hxd hfo hg hby hl
   have hfit:=growslice_fits hg (by rw[hib];exact hby:(sLen+ys.length)*i.bytes<=140737488355328)
   obtain⟨w',hr,hw1,hw2,hw3,hw4⟩:=Xi7 (P:=S.P) (w:=w) (ty:=o.type) ht hi hzu (by rw[hin];exact hfo) (by rw[hin];exact hfc) hg (by unfold lenMax at hl;omega) hfit
   rw[<- hux,<- hyu] at hr
   refine⟨_,w',hexec _ _ hr,⟨hw2,hw3,hw4,by rw[hw1];simp,fun b hb _=>by rw[hw1,Array.getElem?_push,if_neg (by omega)]⟩,by rw[hw1];simp,fun bn ver=>⟨rfl,?_⟩⟩
   have hge:=grownCap_ge w (sLen+ys.length) sCap e
   have hlen:(xs++ys).length=sLen+ys.length:=by simp[hxl]
   have hol:olds.length=sLen*n:=by rw[<- hxd.length,flat_len hxs,hxl]
   have hnlen:news.length=ys.length*n:=hnl
   have hxy:∀ q∈xs++ys,q.length=n:=fun q hq=>(List.mem_append.1 hq).elim (hxs q) (hys q)
   have:=Xqa (H:=H) (an:=bn) (w:=w') (ver:=ver) (sz:=n) (of:=0) (cap:=grownCap w (sLen+ys.length) sCap e) (xs:=xs++ys) (b:=w.heap.size) (T:=e)
    (vs:=olds.toArray++news.toArray++Builtin.zeroCells u.cells (grownCap w (sLen+ys.length) sCap e - (sLen+ys.length))) (f:=fun b=>b=w.heap.size) hpos hxy (by rw[hlen];exact hl) (fun _=>Iff.rfl)
    (by rw[hw1];simp) (by rw[hlen];exact hge) (by
     simp only[Array.size_append,List.size_toArray,size_zeroCells,hus,hol,hnlen,<- Nat.add_mul,Nat.zero_add]
     exact Nat.mul_le_mul_right _ (by omega)) (by
     rw[List.drop_zero,hlen,Xee]
     have:(olds.toArray++news.toArray++Builtin.zeroCells u.cells (grownCap w (sLen+ys.length) sCap e - (sLen+ys.length))).toList.take ((sLen+ys.length)*n)=olds++news:=by
      simp only[Array.toList_append]
      rw[List.take_append_of_le_length (by simp[hol,hnlen,Nat.add_mul]),List.take_of_length_le (by simp[hol,hnlen,Nat.add_mul])]
     rw[this]
     exact hxd.append hnd)
   rw[hlen] at this
   exact this
  obtain⟨_,hv⟩:True/\_:=⟨trivial,hv⟩
  split at hv
  ·rename_i e2
   rw[e2] at hxd
   obtain⟨_,hby,hl,rfl,rfl⟩:=hv
   obtain⟨A,hux⟩:=hxd
   by_cases hy0:ys.length=0
   ·have hy0':ys=[]:=List.eq_nil_of_length_eq_zero hy0
    subst hy0'
    have hn0:news=[]:=List.eq_nil_of_length_eq_zero (by simpa using hnl)
    subst hn0
    have hr:(Builtin.append_ #[t,t] o.type #[a.eval x,a.eval y]).run S.P w=.ok (.slice A 0 0) w:=by
     have hf:(Builtin.firstCells n 0 (.slice ba 0 c)).run S.P w=.ok #[] w:=hfc w.drawn
     rw[<- hin] at hf
     rw[hux,hyu]
     cases A with
     | none=>simp[Builtin.append_,run_underlying ht,sizeOf,typeInfo,hi,Builtin.lenOf,hf]
     | some A => 
      have:(storeCells (A.add 0) []).run S.P w=.ok () w:=by simp[storeCells]
      simp[Builtin.append_,run_underlying ht,sizeOf,typeInfo,hi,Builtin.lenOf,hf,this]
    refine⟨_,.slice A 0 0,w,H,_,_,hexec _ _ hr,.inl rfl,h.add_own (q:=(0,.slice A 0 0)) (f:=fun _=>False) (c:=.row n 0 []) (WKeep.refl w _) (fun b hb=>hb.elim) ?_,Xcn rfl⟩
    exact⟨rfl,⟨_,_,_,rfl⟩,hpos,by simp,by simp[lenMax],.inl ⟨rfl,⟨A,rfl⟩,fun _ hb=>hb⟩⟩
   ·obtain⟨r,w',hr,hk,hlt,hc⟩:=hgrow A 0 0 [] [] hux rfl (by simp) trivial (fun d=>by cases A <;> simp[Builtin.firstCells,loadCells,loadCellsFrom]) (by omega) (by simpa using hby) (by simpa using hl)
    refine⟨_,r,w',H,_,_,hr,.inl rfl,h.add_own (q:=(0,r)) (f:=fun b=>b=w.heap.size) (c:=.row n 0 ys) hk (fun b hb=>⟨by omega,by omega⟩) ?_,Xcn (hc an 0).1⟩
    simpa using (hc (an.put s.own.length (0,r)) 0).2
  ·rename_i j ver e2
   rw[e2] at hxd
   split at hv
   ·rename_i sz' ver' xs hc
    obtain⟨rfl,rfl,hby,hl,rfl,rfl⟩:=hv
    obtain⟨p,hp,hps,hsz0,hsz,hlen,h4⟩:=h.row hc
    have hux:=Xce hp hxd
    rw[Xat]
    have small:∀ (A:Option Addr) (xs':List (List D)),xs'=[]->p=.slice A 0 0->(∀ b,¬ F j b)->Xbj S Y s.fr (s.own.set j (.row sz' (ver'+1) (xs'++ys))) a ms (.one (.own j (ver'+1))) ((execOp a.eval o).run S.P w):=by
     intro A xs' hx0 hpA hF
     subst hx0
     rw[hpA] at hux
     by_cases hy0:ys.length=0
     ·have hy0':ys=[]:=List.eq_nil_of_length_eq_zero hy0
      subst hy0'
      have hn0:news=[]:=List.eq_nil_of_length_eq_zero (by simpa using hnl)
      subst hn0
      have hr:(Builtin.append_ #[t,t] o.type #[a.eval x,a.eval y]).run S.P w=.ok (.slice A 0 0) w:=by
       have hf:(Builtin.firstCells sz' 0 (.slice ba 0 c)).run S.P w=.ok #[] w:=hfc w.drawn
       rw[<- hin] at hf
       rw[hux,hyu]
       cases A with
       | none=>simp[Builtin.append_,run_underlying ht,sizeOf,typeInfo,hi,Builtin.lenOf,hf]
       | some A =>
        have:(storeCells (A.add 0) []).run S.P w=.ok () w:=by simp[storeCells]
        simp[Builtin.append_,run_underlying ht,sizeOf,typeInfo,hi,Builtin.lenOf,hf,this]
      refine⟨_,.slice A 0 0,w,H,an.put j (ver'+1,.slice A 0 0),(fun i b=>if i=j then False else F i b),hexec _ _ hr,.inl rfl,?_,Xcn (an:=an) (ver:=ver'+1) rfl⟩
      exact h.re_own (q:=(ver'+1,.slice A 0 0)) (f:=fun _=>False) hp (by simp) ⟨A,0,0,rfl⟩ (WKeep.refl _ _) (fun _ hb=>hb.elim) ⟨rfl,⟨A,0,0,rfl⟩,hsz0,by simp,by simp[lenMax],.inl ⟨by simp,⟨A,rfl⟩,fun _ hb=>hb⟩⟩
     ·obtain⟨r,w',hr,hk,hlt,hc⟩:=hgrow A 0 0 [] [] hux rfl (by simp) trivial (fun d=>by cases A <;> simp[Builtin.firstCells,loadCells,loadCellsFrom]) (by omega) (by
       have:(0+ys.length)*by_<=(xs.length+ys.length)*by_:=Nat.mul_le_mul_right _ (by omega)
       omega) (by omega)
      refine⟨_,r,w',H,an.put j (ver'+1,r),(fun i b=>if i=j then b=w.heap.size else F i b),hr,.inl rfl,?_,Xcn (hc an 0).1⟩
      have h2:=(hc (an.put j (ver'+1,r)) (ver'+1)).2
      have hsl:∃ a n c,r=.slice a n c:=by obtain⟨_,h3,_⟩:=h2;exact h3
      exact h.re_own (q:=(ver'+1,r)) (f:=fun b=>b=w.heap.size) hp (by simp) hsl (hk.mono fun _ hf=>hf.elim) (fun b hb=>⟨.inr (by omega),by omega⟩) h2
    rcases h4 with ⟨hx0,⟨A,hpA⟩,hF⟩|⟨b,of,cap,vs,T,hpA,e2,e3,e4,e5,e6⟩
    ·have:=small A [] rfl hpA hF
     rw[hx0];exact this
    ·rw[hpA] at hux
     have hol:((vs.toList.drop of).take (xs.length*sz')).length=xs.length*sz':=by rw[<- e6.length,flat_len hsz]
     have hxc:xs.length*sz'<=cap*sz':=Nat.mul_le_mul_right _ e4
     by_cases hroom:xs.length+ys.length<=cap
     ·have hfit:of+xs.length*i.size+news.length<=vs.size:=by
       have:(xs.length+ys.length)*sz'<=cap*sz':=Nat.mul_le_mul_right _ hroom
       rw[hin,hnl]
       rw[Nat.add_mul] at this
       omega
      have hr:=Xi8 (P:=S.P) (w:=w) (ty:=o.type) (ba:=ba) (c:=c) ht hi (sLen:=xs.length) (sCap:=cap) e3 (by rw[hin];exact hfc w.drawn) hnd.oneCell hroom hfit
      rw[<- hux,<- hyu] at hr
      refine⟨_,.slice (some ⟨b,of,none⟩) (xs.length+ys.length) cap,_,H,an.put j (ver'+1,.slice (some ⟨b,of,none⟩) (xs.length+ys.length) cap),(fun i x=>if i=j then x=b else F i x),hexec _ _ hr,.inl rfl,?_,Xcn (an:=an) (ver:=ver'+1) rfl⟩
      refine h.re_own (q:=(ver'+1,.slice (some ⟨b,of,none⟩) (xs.length+ys.length) cap)) (f:=fun x=>x=b) hp (by simp) ⟨_,_,_,rfl⟩ ((Xc6 w b _).mono fun x hx=>(e2 x).2 hx)
       (fun x hx=>⟨.inl ((e2 x).2 hx),by subst hx;exact Nat.lt_of_lt_of_le (Array.getElem?_eq_some_iff.1 e3).1 (Xc6 w x _).size⟩) ?_
      have hxy:∀ q∈xs++ys,q.length=sz':=fun q hq=>(List.mem_append.1 hq).elim (hsz q) (hys q)
      have hlen':(xs++ys).length=xs.length+ys.length:=by simp
      have:=Xqa (H:=H) (an:=an.put j (ver'+1,.slice (some ⟨b,of,none⟩) (xs.length+ys.length) cap)) (w:=w.setRow b (vs.toList.take (of+xs.length*i.size)++news++vs.toList.drop (of+xs.length*i.size+news.length)).toArray)
       (ver:=ver'+1) (sz:=sz') (of:=of) (cap:=cap) (xs:=xs++ys) (b:=b) (T:=T) (vs:=(vs.toList.take (of+xs.length*i.size)++news++vs.toList.drop (of+xs.length*i.size+news.length)).toArray) (f:=fun x=>x=b)
       hsz0 hxy (by rw[hlen'];exact hl) (fun _=>Iff.rfl) (setRow_heap w b _ _ T (0,0) e3) (by rw[hlen'];exact hroom) (by
        simp only[List.size_toArray,List.length_append,List.length_take,List.length_drop,Array.length_toList]
        omega) (by
        rw[hlen',Xee]
        have:((vs.toList.take (of+xs.length*i.size)++news++vs.toList.drop (of+xs.length*i.size+news.length)).drop of).take ((xs.length+ys.length)*sz')=(vs.toList.drop of).take (xs.length*sz')++news:=by
         rw[hin,List.append_assoc,List.drop_append_of_le_length (by simp;omega),List.drop_take,Nat.add_sub_cancel_left,<- List.append_assoc]
         rw[List.take_append_of_le_length (by rw[List.length_append,hol,hnl,Nat.add_mul];exact Nat.le_refl _),List.take_of_length_le (by rw[List.length_append,hol,hnl,Nat.add_mul];exact Nat.le_refl _)]
        simp only[List.toList_toArray]
        rw[this]
        exact e6.append hnd)
      rw[hlen'] at this
      exact this
     ·obtain⟨r,w',hr,hk,hlt,hc⟩:=hgrow (some ⟨b,of,none⟩) xs.length cap xs _ hux rfl hsz e6 (fun d=>by
       refine run_firstCells_some _ sz' xs.length _ xs.length cap _ hol fun j v hv=>?_
       rw[List.getElem?_take] at hv
       split at hv
       ·rw[List.getElem?_drop] at hv
        rw[Xdr,cell_of_heap (w:={ w with drawn:=d }) (T:=T) (fz:=(0,0)) (cs:=vs) e3,<- Array.getElem?_toList]
        exact hv
       ·cases hv) (by omega) hby hl
      refine⟨_,r,w',H,an.put j (ver'+1,r),(fun i b=>if i=j then b=w.heap.size else F i b),hr,.inl rfl,?_,Xcn (hc an 0).1⟩
      have h2:=(hc (an.put j (ver'+1,r)) (ver'+1)).2
      have hsl:∃ a n c,r=.slice a n c:=by obtain⟨_,h3,_⟩:=h2;exact h3
      exact h.re_own (q:=(ver'+1,r)) (f:=fun b=>b=w.heap.size) hp (by simp) hsl (hk.mono fun _ hf=>hf.elim) (fun b hb=>⟨.inr (by omega),by omega⟩) h2
   ·rename_i e' ver' bs hc
    obtain⟨rfl,rfl,rfl,rfl,hl,cs,rfl,rfl,rfl⟩:=hv
    have hlc:(Yyf cs).length=cs.length:=by simp[Yyf]
    have hnews:=X34 hnd
    subst hnews
    rw[hlc] at hl hfc hyu
    refine Xqc (cs:=cs) h hc hxd (fun r=>Builtin.append_ #[t,t] o.type #[r,a.eval y]) hexec hl (fun hn0=>?_) (fun g m cap cur hg h1 h2=>?_) (fun base m cap olds hol hf hg hl2=>?_)
    ·subst hn0
     have hf:(Builtin.firstCells 1 0 (.slice ba 0 c)).run S.P w=.ok #[] w:=hfc w.drawn
     rw[<- hin] at hf
     show (Builtin.append_ #[t,t] o.type #[.slice none 0 0,a.eval y]).run S.P w=_
     rw[hyu]
     simp[Builtin.append_,run_underlying ht,sizeOf,typeInfo,hi,Builtin.lenOf,hf]
    ·have hr:=Xi8 (P:=S.P) (w:=w) (ty:=o.type) (ba:=ba) (c:=c) ht hi (sLen:=m) (sCap:=cap) hg (by rw[hin];exact hfc w.drawn) hnd.oneCell h1 (by rw[hin,Xa1,Nat.zero_add,Nat.mul_one];exact h2)
     rw[<- hyu,hin,Xa1,Nat.zero_add,Nat.mul_one] at hr
     exact hr
    ·have hfit:=growslice_fits hg (by rw[hib];omega:(m+cs.length)*i.bytes<=140737488355328)
     obtain⟨w',hr,hw1,hw2⟩:=Xi7 (P:=S.P) (w:=w) (ty:=o.type) ht hi hzu (by rw[hin];exact hf) (by rw[hin];exact hfc) hg (by omega) hfit
     rw[<- hyu] at hr
     exact⟨w',hr,⟨u.cells,hus,hw1⟩,hw2⟩
   ·exact hv.elim
  ·exact hv.elim
 ·exact hv.elim
theorem X36 {t t' e:TypeId} {x y:Operand} {n:Nat} {own':List Ch} (h:SatX S Y s a w H an F ms) (ho:o.op=.call { callee:=.builtin .copy,args:=#[x,y],argTypes:=#[t,t'] })
  (ht:S.P.underlying t=some (.slice e)) (hn:szOf S.P e=some n)
  (hv:match evO s.fr (Xac x),(evO s.fr (Xac y)).nrm with
  | .one (.own j ver),.one (.d (.sl ys))=>(match Xak s.own j with
   | .row sz' ver' xs=>sz'=n/\ver'=ver/\(∀ q∈ys,q.length=n)/\ys.length=xs.length/\own'=Xb1 s.own j (.row n ver ys)/\v=.one (.d (.int .i64 ys.length))
   | _=>False)
  | _,_=>False):Xbj S Y s.fr own' a ms v ((execOp a.eval o).run S.P w):=by
 have hyd:=h.evn y
 have hxd:=h.ev x
 obtain⟨i,hi,hin⟩:∃ i,S.P.info? e=some i/\i.size=n:=by
  obtain⟨i',d,hi',hin,_⟩:=Xe0 hn;exact⟨i',hi',hin⟩
 split at hv
 ·rename_i j ver ys e1 e2
  rw[e1] at hxd;rw[e2] at hyd
  split at hv
  ·rename_i sz ver' xs hc
   obtain⟨rfl,rfl,hys,hl,rfl,rfl⟩:=hv
   obtain⟨p,hp,hps,hsz0,hsz,hlen,h4⟩:=h.row hc
   have hux:=Xce hp hxd
   obtain⟨ba,c,news,hyu,hnl,hnd,hfc⟩:=Xky (P:=S.P) (u:=a.eval y) h hyd hys
   have hexec:∀ (r:Value) (w':World),(Builtin.copy_ #[t,t'] o.type #[a.eval x,a.eval y]).run S.P w=.ok r w'->(execOp a.eval o).run S.P w=.ok (.value r) w':=by
    intro r w' hr
    unfold execOp
    simp only[ho,resolve,invoke,builtin,Sem.run_bind,Sem.run_pure,Result.andThen_ok,List.map_toArray,List.map_cons,List.map_nil,hr]
   have hjs:=Xa4 hc (by simp)
   rcases h4 with ⟨hx0,⟨A,hpA⟩,hF⟩|⟨b,of,cap,vs,T,hpA,e2,e3,e4,e5,e6⟩
   ·have hy0:ys=[]:=List.eq_nil_of_length_eq_zero (by rw[hl,hx0];rfl)
    subst hy0
    have hn0:news=[]:=List.eq_nil_of_length_eq_zero (by simpa using hnl)
    subst hn0
    have hsame:Xb1 s.own j (.row sz ver' [])=s.own:=by
     rw[Xat]
     apply List.ext_getElem?
     intro k
     rw[List.getElem?_set]
     split
     ·rename_i e;subst e
      rw[hjs,hx0]
      simp[(List.getElem?_eq_some_iff.1 hjs).1]
     ·rfl
    rw[hsame]
    have hf:(Builtin.firstCells sz 0 (.slice ba 0 c)).run S.P w=.ok #[] w:=hfc w.drawn
    rw[<- hin] at hf
    have hr:(Builtin.copy_ #[t,t'] o.type #[a.eval x,a.eval y]).run S.P w=.ok (.int .i64 0) w:=by
     rw[hux,hpA,hyu]
     cases A with
     | none=>simp[Builtin.copy_,run_underlying ht,sizeOf,typeInfo,hi,Builtin.lenOf,hf,goInt]
     | some A =>
      have:(storeCells A []).run S.P w=.ok () w:=by simp[storeCells]
      simp[Builtin.copy_,run_underlying ht,sizeOf,typeInfo,hi,Builtin.lenOf,hf,this,goInt]
    exact⟨_,.int .i64 0,w,H,an,F,hexec _ _ hr,.inl rfl,h,Den.int _ _⟩
   ·have hf:(Builtin.firstCells i.size ys.length (.slice ba ys.length c)).run S.P w=.ok news.toArray w:=by rw[hin];exact hfc w.drawn
    have hxc:xs.length*sz<=cap*sz:=Nat.mul_le_mul_right _ e4
    have hfit:of+news.length<=vs.size:=by rw[hnl,hl];omega
    have hst:=run_storeCells_at S.P b of T news 0 vs w e3 (by simpa using hfit) hnd.oneCell
    simp only[Nat.add_zero] at hst
    have hmin:Nat.min ys.length xs.length=ys.length:=by rw[hl];exact Nat.min_self _
    have hr:(Builtin.copy_ #[t,t'] o.type #[a.eval x,a.eval y]).run S.P w=.ok (.int .i64 ys.length) (w.setRow b (vs.toList.take of++news++vs.toList.drop (of+news.length)).toArray):=by
     rw[hux,hpA,hyu]
     simp only[Builtin.copy_,run_underlying ht,sizeOf,typeInfo,hi,Builtin.lenOf,hmin]
     simp[run_underlying ht,sizeOf,typeInfo,hi,Builtin.lenOf,hmin,hf,hst,goInt]
    rw[Xat]
    refine⟨_,.int .i64 ys.length,_,H,an,F,hexec _ _ hr,.inl rfl,?_,Den.int _ _⟩
    refine h.set_own hp e2 (Xc6 w b _) ?_
    have:=Xqa (H:=H) (an:=an) (w:=w.setRow b (vs.toList.take of++news++vs.toList.drop (of+news.length)).toArray) (ver:=ver') (sz:=sz) (of:=of) (cap:=cap) (xs:=ys) (b:=b) (T:=T)
     (vs:=(vs.toList.take of++news++vs.toList.drop (of+news.length)).toArray) (f:=F j) hsz0 hys (by rw[hl];exact hlen) e2 (setRow_heap w b _ _ T (0,0) e3) (by rw[hl];exact e4) (by
      simp only[List.size_toArray,List.length_append,List.length_take,List.length_drop,Array.length_toList]
      omega) (by
      have:((vs.toList.take of++news++vs.toList.drop (of+news.length)).drop of).take (ys.length*sz)=news:=by
       rw[List.append_assoc,List.drop_append_of_le_length (by simp;omega),List.drop_take,Nat.sub_self,List.take_zero,List.nil_append,List.take_append_of_le_length (by rw[hnl];exact Nat.le_refl _),List.take_of_length_le (by rw[hnl];exact Nat.le_refl _)]
      simp only[List.toList_toArray]
      rw[this]
      exact hnd)
    rw[hpA,<- hl]
    exact this
  ·exact hv.elim
 ·exact hv.elim
theorem Xun:∀ (bs:List UInt8) (r:ByteArray),(bs.map fun b=>(b.toNat:Int)).foldl (fun r n=>r.push (UInt8.ofNat n.toNat)) r=⟨r.data++bs.toArray⟩
 | [],r=>by simp
 | b::bs,r=>by
  simp only[List.map_cons,List.foldl_cons]
  rw[Xun bs]
  simp[ByteArray.push]
theorem X37 {t e t2:TypeId} {x:Operand} (h:SatX S Y s a w H an F ms) (ho:o.op=.convert t t2 x) (h1:S.P.underlying t=some (.slice e)) (he:S.P.underlying e=some (.int .u8)) (h2:S.P.underlying t2=some .string)
  (hv:∃ bs:List UInt8,bs≠[]/\evO s.fr (Xac x)=.one (.d (.sl (bs.map fun b=>[.int .u8 b.toNat])))/\v=.one (.d (.str ⟨bs.toArray⟩))):Xbj S Y s.fr s.own a ms v ((execOp a.eval o).run S.P w):=by
 obtain⟨bs,hne,e1,rfl⟩:=hv
 have hx:=h.ev x
 rw[e1] at hx
 have hx:Den H (.sl (bs.map fun b=>[.int .u8 b.toNat])) (a.eval x):=hx
 obtain⟨ba,c,news,hu,hl,hd,hr⟩:=Xky (P:=S.P) h hx (n:=1) (by simp)
 have hf:∀ bs:List UInt8,(bs.map fun b=>[D.int .u8 b.toNat]).flatten=bs.map fun b=>D.int .u8 b.toNat:=by
  intro bs
  induction bs with
  | nil=>rfl
  | cons b bs ih=>simp only[List.map_cons,List.flatten_cons,ih];rfl
 rw[hf] at hd
 have hnews:news=(bs.map fun b=>(b.toNat:Int)).map (Value.int .u8):=by
  have:∀ (bs:List UInt8) (news:List Value),Xc3 H (bs.map fun b=>D.int .u8 b.toNat) news->news=(bs.map fun b=>(b.toNat:Int)).map (Value.int .u8):=by
   intro bs
   induction bs with
   | nil=>intro news h;cases news with
    | nil=>rfl
    | cons _ _=>exact h.elim
   | cons b bs ih=>intro news h;cases news with
    | nil=>exact h.elim
    | cons v news =>
     obtain⟨g1,g2⟩:=h
     rw[ih news g2]
     cases g1
     rfl
  exact this bs news hd
 have hrw:=hr w.drawn
 cases ba with
 | none =>
  exfalso
  simp[Builtin.firstCells] at hrw
  rw[hnews] at hrw
  cases bs with
  | nil=>exact hne rfl
  | cons b bs=>simp at hrw
 | some ba =>
  simp only[Builtin.firstCells,Nat.mul_one] at hrw
  rw[hnews] at hrw
  refine Xbj.same h (u:=.string ⟨bs.toArray⟩) ?_ (Den.str _)
  have hb:=run_bytesToString (P:=S.P) w ba _ c _ hrw
  rw[Xun] at hb
  simp only[execOp,ho,Sem.run_bind,hu,run_convert_bytes_string w t t2 e _ _ _ h1 he h2,hb,Result.andThen_ok,Sem.run_pure]
  simp
end
end Go.Fw
namespace Go.Fw
open Go
section
variable {S:Sx} {Y:Dyn} {s:St} {a:Act} {w w':World} {H:Heap} {an:Anc} {F:Nat->Nat->Prop} {ms:List Nat} {o:Oper} {v:V}
def Jis:MOp->Bool
 | .call ..=>true
 | .callv ..=>true
 | _=>false
theorem Xm2 {α:Type} {xs:Array α} {x:α} (h:xs.toList=[x]):xs=#[x]:=Array.ext' (by simpa using h)
theorem Xdx {α:Type} {xs:Array α} {x y:α} (h:xs.toList=[x,y]):xs=#[x,y]:=Array.ext' (by simpa using h)
theorem Y88 {imm:Bool} {m:MOp} {own':List Ch} (h:SatX S Y s a w H an F ms) (ht:Ynx S.P imm o.op=some m) (hv:Ev S m (evO s.fr) s.own v own') :
  Xbj S Y s.fr own' a ms v ((execOp a.eval o).run S.P w):=by
 generalize ho:o.op=op at ht
 unfold Ynx at ht
 split at ht
 case h_1 x=>cases ht;obtain⟨rfl,rfl⟩:=hv;exact Xpz h (.inl ho) rfl
 case h_2 x=>cases ht;obtain⟨rfl,rfl⟩:=hv;exact Xpz h (.inr ho) rfl
 case h_3 c x y=>cases ht;obtain⟨rfl,hv⟩:=hv;exact X3p h ho hv
 case h_4 e =>
  split at ht
  ·rename_i e' hb;cases ht;exact X33 h ho hb hv
  ·cases hz:Xb6 S.P e with
   | none=>simp[hz] at ht
   | some z=>simp[hz] at ht;subst ht;exact X1x h ho hz hv
 case h_5 e x =>
  cases imm with
  | true=>simp at ht;subst ht;obtain⟨h1,rfl,h2⟩:=hv;exact X3q h ho ⟨h1,h2⟩
  | false=>simp at ht;subst ht;exact Yn4 h ho hv
 case h_6 t ps =>
  split at ht
  ·rename_i hf
   cases hz:Xb6 S.P t with
   | none=>simp[hz] at ht
   | some z =>
    cases hq:Xf0 S.P t ps.toList with
    | none=>simp[hz,hq] at ht
    | some q=>simp[hz,hq] at ht;subst ht;obtain⟨rfl,hv⟩:=hv;exact X1z h ho hf hz (by split <;> simp) hq hv
  ·cases ht
 case h_7 t len ps =>
  split at ht
  ·rename_i e he
   cases hn:szOf S.P e with
   | none=>simp[hn] at ht
   | some n =>
    cases hz:Xb6 S.P e with
    | none=>simp[hn,hz] at ht
    | some z =>
     simp only[hn,hz,Option.bind_some,Option.map_some,Option.some.injEq] at ht
     split at ht
     ·subst ht;exact X32 h ho he hn hz hv
     ·subst ht;obtain⟨rfl,hv⟩:=hv;exact Xst h ho he hn hz hv
  ·cases ht
 case h_8 t x =>
  cases hn:szOf S.P t with
  | none=>simp[hn] at ht
  | some n=>simp[hn] at ht;subst ht;obtain⟨rfl,hv⟩:=hv;exact X3s h ho hn hv
 case h_9 t x y =>
  cases hn:szOf S.P t with
  | none=>simp[hn] at ht
  | some n=>simp[hn] at ht;subst ht;exact X10 h ho hn hv
 case h_10 t x f =>
  split at ht
  ·rename_i fs hfs
   cases hg:fs[f]? with
   | none=>simp[hg] at ht
   | some g =>
    cases hn:szOf S.P g.type with
    | none=>simp[hg,hn] at ht
    | some n =>
     simp[hg,hn] at ht
     obtain⟨hn0,rfl⟩:=ht
     obtain⟨rfl,hv⟩:=hv
     exact Yn5 h ho hfs hg hn hn0 hv
  ·cases ht
 case h_11 t x i =>
  split at ht
  ·rename_i e he
   cases hn:szOf S.P e with
   | none=>simp[hn] at ht
   | some n=>simp[hn] at ht;subst ht;obtain⟨rfl,hv⟩:=hv;exact Yn6 h ho he hn hv
  ·rename_i len e he
   cases hn:szOf S.P e with
   | none=>simp[hn] at ht
   | some n=>simp[hn] at ht;subst ht;obtain⟨rfl,hv⟩:=hv;exact X3t h ho he hn hv
  ·cases ht
 case h_12 t x i =>
  split at ht
  ·rename_i he;cases ht;obtain⟨rfl,hv⟩:=hv;exact X3u h ho he hv
  ·rename_i len e he
   split at ht
   ·rename_i hc;cases ht;obtain⟨rfl,hv⟩:=hv;exact X3v h ho he hc.1 hc.2 hv
   ·cases ht
  ·cases ht
 case h_13 op t x y t2 =>
  split at ht
  ·rename_i fs hfs
   cases hk:Xhm S.P t with
   | none=>simp[hk] at ht
   | some ks =>
    simp only[hk,Option.bind_some] at ht
    split at ht
    ·cases ht;obtain⟨rfl,hv⟩:=hv;exact Xuj (neg:=false) h ho hk hv
    ·cases ht;obtain⟨rfl,hv⟩:=hv;exact Xuj (neg:=true) h ho hk hv
    ·cases ht
  ·cases ht;obtain⟨rfl,hv⟩:=hv;exact Xn7 (kd:=.i) h ho trivial hv
  ·cases ht;obtain⟨rfl,hv⟩:=hv;exact Xn7 (kd:=.s) h ho trivial hv
  ·rename_i hb;cases ht;obtain⟨rfl,hv⟩:=hv;exact Xn7 (kd:=.b) h ho hb hv
  ·rename_i d _ _ _ _ hd
   cases hk:Y81 d with
   | none=>simp[hk] at ht
   | some kd =>
    simp only[hk,Option.bind_some] at ht
    split at ht
    ·rename_i hn
     split at ht
     ·cases ht;obtain⟨rfl,hv⟩:=hv;exact Xp3 (neg:=false) h ho hd hk hn hv
     ·cases ht;obtain⟨rfl,hv⟩:=hv;exact Xp3 (neg:=true) h ho hd hk hn hv
     ·cases ht
    ·cases ht
  ·cases ht
 case h_14 t x=>cases ht;obtain⟨rfl,hv⟩:=hv;exact Yn9 h ho hv
 case h_15 t t2 x =>
  split at ht
  ·rename_i h1 h2;cases ht;obtain⟨rfl,hv⟩:=hv;exact X3x h ho h1 h2 hv
  ·rename_i e h1 h2
   split at ht
   ·rename_i he;cases ht;obtain⟨rfl,hv⟩:=hv;exact X37 h ho h1 he h2 hv
   ·cases ht
  ·cases ht
 case h_16 t x =>
  split at ht
  ·cases ht
  ·cases ht
  ·rename_i hni hnn
   cases ht
   obtain⟨rfl,hv⟩:=hv
   cases hd:S.P.underlying t with
   | none=>exact absurd hd hnn
   | some d=>exact Yob h ho hd (fun m e=>hni m (by rw[hd,e])) hv
 case h_17 f first caps =>
  split at ht
  ·rename_i hf;cases ht;obtain⟨rfl,hv⟩:=hv;exact Yoc h ho hf hv
  ·rename_i x hf
   split at ht
   ·rename_i hcs;cases ht;obtain⟨rfl,hv⟩:=hv;exact X3y h ho hf hcs hv
   ·cases ht
  ·cases ht
 case h_18 t=>cases ht;exact Yod h ho hv
 case h_19 t m k ok =>
  split at ht
  ·rename_i kt e he
   cases hq:Xhb S.P kt with
   | none=>simp[hq] at ht
   | some q =>
    cases hz:Xfz S.P e with
    | none=>simp[hq,hz] at ht
    | some z=>simp[hq,hz] at ht;subst ht;obtain⟨rfl,hv⟩:=hv;exact Yoj h ho he hq hz hv
  ·cases ht
 case h_20 t m k x =>
  split at ht
  ·rename_i kt e he
   cases hq:Xhb S.P kt with
   | none=>simp[hq] at ht
   | some q=>simp[hq] at ht;subst ht;exact Xp9 h (.inl ho) he hq hv
  ·cases ht
 case h_21 t m k x =>
  split at ht
  ·rename_i kt e he
   cases hq:Xhb S.P kt with
   | none=>simp[hq] at ht
   | some q=>simp[hq] at ht;subst ht;exact Xp9 h (.inr ho) he hq hv
  ·cases ht
 case h_22 t l c =>
  split at ht
  ·rename_i e he
   split at ht
   ·rename_i p q
    split at ht
    ·rename_i hpq
     cases hn:szOf S.P e with
     | none=>simp[hn] at ht
     | some n =>
      cases hb:Xcc S.P e with
      | none=>simp[hn,hb] at ht
      | some b =>
       cases hz:Xb6 S.P e with
       | none=>simp[hn,hb,hz] at ht
       | some z =>
        simp only[hn,hb,hz,Option.bind_some,Option.map_some,Option.some.injEq] at ht
        split at ht
        ·subst ht;obtain⟨rfl,hv⟩:=hv;exact Xqb h ho he (.inl (by rw[hpq])) hn hb hz hv
        ·subst ht;exact Xum h ho he (.inl (by rw[hpq])) hn hb hz hv
    ·cases ht
   ·rename_i k p k' q
    split at ht
    ·rename_i hpq
     cases hn:szOf S.P e with
     | none=>simp[hn] at ht
     | some n =>
      cases hb:Xcc S.P e with
      | none=>simp[hn,hb] at ht
      | some b =>
       cases hz:Xb6 S.P e with
       | none=>simp[hn,hb,hz] at ht
       | some z =>
        simp only[hn,hb,hz,Option.bind_some,Option.map_some,Option.some.injEq] at ht
        split at ht
        ·subst ht;obtain⟨rfl,hv⟩:=hv;exact Xqb h ho he (.inr ⟨k,k',p,rfl,by rw[hpq];rfl⟩) hn hb hz hv
        ·subst ht;exact Xum h ho he (.inr ⟨k,k',p,rfl,by rw[hpq];rfl⟩) hn hb hz hv
    ·cases ht
   ·cases ht
  ·cases ht
 case h_23 t x lo hi =>
  split at ht
  ·rename_i he;cases ht;obtain⟨rfl,hv⟩:=hv;exact X31 h ho he hv
  ·rename_i e he
   cases hn:szOf S.P e with
   | none=>simp[hn] at ht
   | some n=>simp[hn] at ht;subst ht;exact Yom h ho he hn hv
  ·cases ht
 case h_24 x i=>cases ht;obtain⟨rfl,hv⟩:=hv;exact Yoe h ho hv
 case h_25 args tys =>
  split at ht
  ·rename_i x t hx hts
   have e1:=Xm2 hx
   have e2:=Xm2 hts
   subst e1 e2
   split at ht
   ·rename_i he;cases ht;obtain⟨rfl,hv⟩:=hv;exact Xn6 h ho (.inl ⟨rfl,he⟩) hv
   ·rename_i e he;cases ht;obtain⟨rfl,hv⟩:=hv;exact Xn6 h ho (.inr (.inl ⟨rfl,e,he⟩)) hv
   ·rename_i k e he;cases ht;obtain⟨rfl,hv⟩:=hv;exact Xn6 h ho (.inr (.inr ⟨rfl,k,e,he⟩)) hv
   ·cases ht
  ·cases ht
 case h_26 args tys =>
  split at ht
  ·rename_i x y t t' hx hts
   have e1:=Xdx hx
   have e2:=Xdx hts
   subst e1 e2
   split at ht
   ·rename_i htt
    subst htt
    split at ht
    ·rename_i e he
     cases hn:szOf S.P e with
     | none=>simp[hn] at ht
     | some n =>
      cases hb:Xcc S.P e with
      | none=>simp[hn,hb] at ht
      | some b =>
       cases hz:Xb6 S.P e with
       | none=>simp[hn,hb,hz] at ht
       | some z =>
        simp only[hn,hb,hz,Option.bind_some] at ht
        split at ht
        ·cases ht
        ·rename_i hnz
         cases ht
         simp at hnz
         exact Yoo (ty:=0) h ho he hn hb hz hnz.1 hnz.2 hv
    ·cases ht
   ·split at ht
    ·rename_i e he hs
     split at ht
     ·rename_i hzz
      split at ht
      ·rename_i hc
       cases ht
       exact X35 h ho he hs hc.1 hc.2 hzz hv
      ·cases ht
     ·cases ht
    ·cases ht
  ·cases ht
 case h_27 args tys _ =>
  split at ht
  ·rename_i x y hx
   have e1:=Xdx hx
   subst e1
   cases ht;obtain⟨rfl,hv⟩:=hv;exact Xuf (mx:=false) h ho hv
  ·cases ht
 case h_28 args tys _ =>
  split at ht
  ·rename_i x y hx
   have e1:=Xdx hx
   subst e1
   cases ht;obtain⟨rfl,hv⟩:=hv;exact Xuf (mx:=true) h ho hv
  ·cases ht
 case h_29 t x =>
  split at ht
  ·rename_i he;cases ht;exact Yof h ho he hv
  ·cases ht
 case h_30 x=>cases ht;exact Yog h ho hv
 case h_31 x xt t ok =>
  split at ht
  ·cases ht
  ·cases ht
  ·rename_i hni hnn
   cases hz:Xfz S.P t with
   | none=>simp[hz] at ht
   | some z =>
    simp[hz] at ht;subst ht;obtain⟨rfl,hv⟩:=hv
    cases hd:S.P.underlying t with
    | none=>exact absurd hd hnn
    | some d=>exact Yon h ho hd (fun m e=>hni m (by rw[hd,e])) hz hv
 case h_32 args tys _ =>
  split at ht
  ·rename_i x y t t' hx hts
   have e1:=Xdx hx
   have e2:=Xdx hts
   subst e1 e2
   split at ht
   ·rename_i e he
    cases hn:szOf S.P e with
    | none=>simp[hn] at ht
    | some n=>simp[hn] at ht;subst ht;exact X36 h ho he hn hv
   ·cases ht
  ·cases ht
 case h_33 x=>cases ht;obtain⟨rfl,hv⟩:=hv;exact Yn8 h ho hv
 case h_34 t x =>
  split at ht
  ·cases ht;obtain⟨rfl,hv⟩:=hv;exact Yoa h ho hv
  ·cases ht
 case h_35=>cases ht
end
end Go.Fw
