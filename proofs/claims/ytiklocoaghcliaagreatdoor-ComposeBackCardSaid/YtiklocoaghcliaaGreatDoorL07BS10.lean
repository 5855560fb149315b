/- Chapter 10,part 14: two graphs as one; which say the same. -/
import Derived.Test.YtiklocoaghcliaaGreatDoorJc
import Derived.Test.YtiklocoaghcliaaGreatDoorJd
set_option linter.all false
namespace Go.Fw.L07
open Go Go.Fw
open Go.Fw.Sh renaming intro->Kg
open Go.Fw renaming Xec->Ka,Xbg->Ka,Xhs->Ka,Xb3->Kb,Xh9->Kv,Xbv->Ke,Xel->Kf,Xdn->Kt,Xh8->Ku,Xdl->Kl,Xfl->Km,Gx->Kn,Gw->Ko
open Go.Fw renaming Xbg->Ka, Xbk->Ka, Xbv->Ka, Xb3->Ka
open Go.Fw renaming Xec->Kw, Xbg->Kw, Xbk->Kw, Xbv->Kw, Xb3->Kw, Xh6->Kw, Xem->Kw
open Go.Fw.Sh renaming intro->Kf
open Int renaming natCast_nonneg->Kq
open And renaming intro->Kp
open Go.Proofs.Tryz renaming prog->QP
open Nat renaming reduceAdd->Qa,reduceSub->Qb,reduceMul->Qc,reduceLeDiff->Qd,reduceLT->Qe,reduceEqDiff->Qf
open Int renaming reduceToNat->Qg,reduceLT->Qh,reduceLE->Qi,reduceGT->Qj,reduceGE->Qk,reduceEq->Ql,reduceNe->Qm,reduceBEq->Qn,reduceBNe->Qo,reduceAdd->Qp,reduceSub->Qq,reduceNeg->Qr
set_option maxRecDepth 4000
variable {gp:Xaj}
theorem Yig (l:List Nd) (hl:l.length < 1000):Tri QP gp 70 [.one (.d (.sl (nds l)))] [] fun r post=>r=.one (.own 0 1)/\post=[.row 6 1 (nds l)]:=by
 refine Wej ?_
 simp only[go_sem]
 cases l with
 | nil =>
  refine Yj7 0 rfl fun q c=>?_
  cases q with
  | none =>
   simp only[go_sem]
   repeat' first|refine Kn rfl ?_|((first|refine Kw ?_|refine Kv ?_);simp only[Xkl,Xkm,go_sem])|refine Kf ?_|apply Kp<;>intro _
   repeat' first|refine Kn rfl ?_|((first|refine Ka ?_|refine Kb ?_|refine Kv ?_);simp only[Xm3,go_sem])|refine Kf ?_|refine Kg ?_
   refine Yh7 2 6 1 (by decide) rfl ?_
   simp only[go_sem]
   repeat' first|refine Kn rfl ?_|((first|refine Kw ?_|refine Kv ?_);simp only[Xkl,Xkm,Xm3,Xon,go_sem])|refine Kf ?_|apply Kp<;>intro _
  | some q =>
   simp only[go_sem]
   refine Xni ?_
   repeat' first|refine Kn rfl ?_|((first|refine Kw ?_|refine Kv ?_);simp only[Xkl,Xkm,go_sem])|refine Kf ?_|apply Kp<;>intro _
   refine Xpj 0 rfl ?_
   simp only[go_sem]
   repeat' first|refine Kn rfl ?_|((first|refine Kw ?_|refine Kv ?_);simp only[Xkl,Xkm,Xm3,Xon,go_sem])|refine Kf ?_|apply Kp<;>intro _
   refine⟨by simp,by simp[Xad],?_⟩
   repeat' first|refine Kn rfl ?_|((first|refine Kw ?_|refine Kv ?_);simp only[Xkl,Xkm,Xm3,Xon,go_sem])|refine Kf ?_|apply Kp<;>intro _
 | cons x l =>
  simp only[go_sem]
  repeat' first|refine Kn rfl ?_|((first|refine Kw ?_|refine Kv ?_);simp only[Xkl,Xkm,Xm3,Xon,go_sem])|refine Kf ?_|apply Kp<;>intro _
  refine⟨fun p hp=>by
   rcases List.mem_cons.1 hp with rfl|hp
   ·rfl
   ·obtain⟨_,_,rfl⟩:=List.mem_map.1 hp;rfl,by simp at hl ⊢;omega,by simp[Xad] at hl ⊢;omega,?_⟩
  repeat' first|refine Kn rfl ?_|((first|refine Kw ?_|refine Kv ?_);simp only[Xkl,Xkm,Xm3,Xon,go_sem])|refine Kf ?_|apply Kp<;>intro _
def shK (n:Int) (l:List Int) (j:Nat):List Int:=(l.take j).map (fun i=>i+n)++l.drop j
theorem Whz (n:Int) (l:List Int) (j:Nat) (h:j<=l.length):(shK n l j).length=l.length:=by simp[shK];omega
theorem Wxq {n:Int} {l:List Int} {j:Nat} {x:Int} (h:l[j]?=some x):(shK n l j)[j]?=some x:=by
 have:=(List.getElem?_eq_some_iff.1 h).1
 unfold shK
 rw[List.getElem?_append_right (by rw[List.length_map,List.length_take];omega)]
 simp only[List.getElem?_drop,List.length_map,List.length_take]
 rw[show j+(j - min j l.length)=j by omega,h]
theorem Wh0 {n:Int} {l:List Int} {j:Nat} {x:Int} (h:l[j]?=some x):(Xai (shK n l j)).set j [.int .i64 (x+n)]=Xai (shK n l (j+1)):=by
 have hi:=(List.getElem?_eq_some_iff.1 h).1
 have:Xai (shK n l j)=(Xai ((l.take j).map (fun i=>i+n)))++([.int .i64 x]::Xai (l.drop (j+1))):=by
  unfold shK
  rw[List.drop_eq_getElem_cons hi]
  have:l[j]=x:=by rw[List.getElem?_eq_getElem hi] at h;exact Option.some.inj h
  simp[Xai,this]
 rw[this,List.set_append_right _ _ (by simp[Xai];omega)]
 have hz:j - (Xai ((l.take j).map (fun i=>i+n))).length=0:=by simp[Xai];omega
 rw[hz,List.set_cons_zero]
 unfold shK
 rw[List.take_succ,h]
 simp[Xai]
def Xno (g h:Gr):Gr:=⟨g.root,Xc1 g.l h.l⟩
set_option maxHeartbeats 1000000 in
theorem Ypy {g h:Gr} (hg:Good g) (hh:Good h):Xao QP gp 46 [g.v,h.v] (Xno g h).v:=by
 have hgl:=hg.len
 have hhl:=hh.len
 have hkin:∀ x∈h.l,∀ k∈x.kids,0<=k/\k < 200:=fun x hx k hk=>by
  obtain⟨n,hn⟩:=List.getElem?_of_mem hx
  obtain⟨h1,h2⟩:=Xg6 hn
  have:=(Xms (hh.node h1) k).2 (by rw[h2];exact hk)
  have:=hh.kid n k this
  omega
 have hJl:(Xc1 g.l h.l).length=g.l.length+h.l.length:=Xqb
 have hJa:∀ (i:Nat) (x:Nd),h.l[i]?=some x->(Xc1 g.l h.l)[g.l.length+i]?=some (Xcp g.l.length x):=fun i x hx=>by
  unfold Xc1
  rw[List.getElem?_append_right (by omega),Nat.add_sub_cancel_left,List.getElem?_map,hx];rfl
 have hJ0:(Xc1 g.l h.l).take (g.l.length+0)=g.l:=by unfold Xc1;simp
 refine Wus ?_
 simp only[go_sem]
 repeat' first|refine Kn rfl ?_|((first|refine Kw ?_|refine Kv ?_);simp only[Xhv,Xhw,Xhx,Xg8,Xhy,Xhz,Xh0,Xe5,Xe6,Xe7,Xe8,Xe9,Xfa,Xfb,go_sem])|refine Kf ?_|apply Kp<;>intro _
 refine⟨.one (.own 0 1),[.row 6 1 (nds g.l)],(by simp only[Xa1,Xds,rnV,rnA,Xdy,rn0,Xdx,Xb1,Xdt,rnC,Xah,List.isEmpty_nil,reduceCtorEq,↓reduceIte,Qa,Qb,Qc,Qd,Qe,Qf,Qg,Qh,Qi,Qj,Qk,Ql,Qm,Qn,Qo,Qp,Qq,Qr];simp only[go_sem];exact⟨Wu3,Yig g.l (by omega)⟩),Kg ?_⟩
 simp only[go_sem]
 repeat' first|refine Kn rfl ?_|((first|refine Kw ?_|refine Kv ?_);simp only[Xhv,Xhw,Xhx,Xg8,Xhy,Xhz,Xh0,Xe5,Xe6,Xe7,Xe8,Xe9,Xfa,Xfb,go_sem])|refine Kf ?_|apply Kp<;>intro _
 refine Kt (fr 51 [(2,.one (.d (.bx [.int .i64 g.root,.sl (nds g.l)]))),(4,.one (.ptr 0 0)),(5,.one (.ptr 3 0)),(16,.one (.d (.sl (nds h.l)))),(17,vi h.l.length),(18,vi ((0:Nat):Int))]) ?_
 rw[show Ch.row 6 1 (nds g.l)=Ch.row 6 (1+0) (nds ((Xc1 g.l h.l).take (g.l.length+0))) from by rw[hJ0]]
 refine Kt (fr 51 [(2,.one (.d (.bx [.int .i64 g.root,.sl (nds g.l)]))),(4,.one (.ptr 0 0)),(5,.one (.ptr 3 0)),(16,.one (.d (.sl (nds h.l)))),(17,vi h.l.length),(18,vi (0:Nat))]) ?_
 refine Km (fun mz sz=>∃ i:Nat,i<=h.l.length/\mz=h.l.length - i/\(0<=i)/\sz=⟨fr 51 [(2,.one (.d (.bx [.int .i64 g.root,.sl (nds g.l)]))),(4,.one (.ptr 0 0)),(5,.one (.ptr 3 0)),(16,.one (.d (.sl (nds h.l)))),(17,vi h.l.length),(18,vi i)],[.cells [.d (.int .i64 0),.nil],.row 6 (1+i) (nds ((Xc1 g.l h.l).take (g.l.length+i))),.dead,.cells [.d (.int .i64 g.root),.own 1 (1+i)]]⟩) (h.l.length) ⟨0,Nat.zero_le _,(Nat.sub_zero _).symm,?_,rfl⟩ ?_
 ·exact Nat.zero_le _
 rintro _ _ ⟨i,hi,rfl,-,rfl⟩
 simp only[go_sem]
 by_cases hil:i < h.l.length
 ·obtain⟨x,hx⟩:=Xaq hil
  have hxm:=List.mem_of_getElem? hx
  have e1:decide ((i:Int) < (h.l.length:Int))=true:=decide_eq_true (by omega)
  have hkl:=(hh.s x hxm).2
  have hsn:nds ((Xc1 g.l h.l).take (g.l.length+i))++[[.int .i64 x.k,.int .i64 x.x.k,.int .i64 x.x.n,.str x.x.s,.sl (scs x.keys),.sl (Xai (x.kids.map fun i=>i+(g.l.length:Int)))]]=nds ((Xc1 g.l h.l).take (g.l.length+(i+1))):=Xpp (hJa i x hx)
  refine Xgb 24 ?_
  simp only[go_sem]
  repeat' first|refine Kn rfl ?_|((first|refine Kw ?_|refine Kv ?_);simp only[Xhv,Xhw,Xhx,Xg8,Xhy,Xhz,Xh0,Xe5,Xe6,Xe7,Xe8,Xe9,Xfa,Xfb,e1,go_sem])|refine Kf ?_|refine⟨_,⟨Kq _,Yib hx,rfl⟩,Kg ?_⟩|apply Kp<;>intro _
  refine Or.inr ⟨[],.one (.own 0 1),[.row 1 1 (Xai x.kids)],(by simp only[Xa1,Xds,rnV,rnA,Xdy,rn0,Xdx,Xb1,Xdt,rnC,Xah,List.isEmpty_nil,reduceCtorEq,↓reduceIte,Qa,Qb,Qc,Qd,Qe,Qf,Qg,Qh,Qi,Qj,Qk,Ql,Qm,Qn,Qo,Qp,Qq,Qr];simp only[go_sem];exact⟨X6m,Xs5 x.kids (by omega)⟩),Kg ?_⟩
  simp only[go_sem]
  repeat' first|refine Kn rfl ?_|((first|refine Kw ?_|refine Kv ?_);simp only[Xhv,Xhw,Xhx,Xg8,Xhy,Xhz,Xh0,Xe5,Xe6,Xe7,Xe8,Xe9,Xfa,Xfb,go_sem])|refine Kf ?_|apply Kp<;>intro _
  refine Kt (fr 51 [(2,.one (.d (.bx [.int .i64 g.root,.sl (nds g.l)]))),(4,.one (.ptr 0 0)),(5,.one (.ptr 3 0)),(7,.one (.ptr 4 0)),(16,.one (.d (.sl (nds h.l)))),(17,vi h.l.length),(18,vi i),(28,vi x.kids.length),(29,vi ((0:Nat):Int))]) ?_
  refine Ku 6 ?_
  simp only[go_sem]
  refine Km (fun mz sz=>∃ j:Nat,j<=x.kids.length/\mz=x.kids.length - j/\sz=⟨fr 51 [(2,.one (.d (.bx [.int .i64 g.root,.sl (nds g.l)]))),(4,.one (.ptr 0 0)),(5,.one (.ptr 3 0)),(7,.one (.ptr 4 0)),(16,.one (.d (.sl (nds h.l)))),(17,vi h.l.length),(18,vi i),(28,vi x.kids.length),(29,vi (j:Int))],[.cells [.d (.int .i64 0),.nil],.row 6 (1+i) (nds ((Xc1 g.l h.l).take (g.l.length+i))),.dead,.cells [.d (.int .i64 g.root),.own 1 (1+i)],.cells [.d (.int .i64 x.k),.d (.int .i64 x.x.k),.d (.int .i64 x.x.n),.d (.str x.x.s),.d (.sl (scs x.keys)),.own 5 1],.row 1 1 (Xai (shK (g.l.length:Int) x.kids j))]⟩) x.kids.length ⟨0,Nat.zero_le _,rfl,rfl⟩ ?_
  rintro _ _ ⟨j,hj,rfl,rfl⟩
  simp only[go_sem]
  by_cases hjl:j < x.kids.length
  ·obtain⟨y,hy⟩:=Xaq hjl
   have e2:decide ((j:Int) < (x.kids.length:Int))=true:=decide_eq_true (by omega)
   have hyk:=hkin x hxm y (List.mem_of_getElem? hy)
   have hsa:=Wxq (n:=(g.l.length:Int)) hy
   have hsl:=Whz (g.l.length:Int) x.kids j (by omega)
   have hss:=Wh0 (n:=(g.l.length:Int)) hy
   repeat' first|refine Kn rfl ?_|((first|refine Kw ?_|refine Kv ?_);simp only[Xhv,Xhw,Xhx,Xg8,Xhy,Xhz,Xh0,Xe5,Xe6,Xe7,Xe8,Xe9,Xfa,Xfb,e2,go_sem])|refine Kf ?_|refine⟨Kq _,by omega,_,⟨Xf9 hsa,Nat.le_refl _⟩,Kg ?_⟩|apply Kp<;>intro _
   refine⟨by unfold inK;simp[IntKind.min,IntKind.max,IntKind.signed,IntKind.bits];omega,Kq _,by omega,_,⟨Xf9 hsa,Nat.le_refl _⟩,Kg ?_⟩
   simp only[go_sem]
   rw[hss]
   repeat' first|refine Kn rfl ?_|((first|refine Kw ?_|refine Kv ?_);simp only[Xhv,Xhw,Xhx,Xg8,Xhy,Xhz,Xh0,Xe5,Xe6,Xe7,Xe8,Xe9,Xfa,Xfb,go_sem])|refine Kf ?_|apply Kp<;>intro _
   refine⟨Xat hjl (by unfold Xad;omega),?_⟩
   refine Kt (fr 51 [(2,.one (.d (.bx [.int .i64 g.root,.sl (nds g.l)]))),(4,.one (.ptr 0 0)),(5,.one (.ptr 3 0)),(7,.one (.ptr 4 0)),(16,.one (.d (.sl (nds h.l)))),(17,vi h.l.length),(18,vi i),(28,vi x.kids.length),(29,vi (j+1))]) ?_
   exact Kl ⟨x.kids.length - (j+1),by omega,j+1,by omega,rfl,rfl⟩
  ·obtain rfl:j=x.kids.length:=by omega
   have e2:decide ((x.kids.length:Int) < (x.kids.length:Int))=false:=decide_eq_false (by omega)
   have hsf:shK (g.l.length:Int) x.kids x.kids.length=x.kids.map fun i=>i+(g.l.length:Int):=by simp[shK]
   rw[hsf]
   refine Xa0 5 ?_
   simp only[go_sem]
   repeat' first|refine Kn rfl ?_|((first|refine Kw ?_|refine Kv ?_);simp only[Xhv,Xhw,Xhx,Xg8,Xhy,Xhz,Xh0,Xe5,Xe6,Xe7,Xe8,Xe9,Xfa,Xfb,e2,go_sem])|refine Kf ?_|apply Kp<;>intro _
   refine⟨by simp,by simp only[List.length_take,List.length_map];omega,by simp only[List.length_take,List.length_map];unfold Xad;omega,?_⟩
   rw[hsn]
   repeat' first|refine Kn rfl ?_|((first|refine Kw ?_|refine Kv ?_);simp only[Xhv,Xhw,Xhx,Xg8,Xhy,Xhz,Xh0,Xe5,Xe6,Xe7,Xe8,Xe9,Xfa,Xfb,go_sem])|refine Kf ?_|apply Kp<;>intro _
   refine⟨Xat hil (by unfold Xad;omega),?_⟩
   refine Kt (fr 51 [(2,.one (.d (.bx [.int .i64 g.root,.sl (nds g.l)]))),(4,.one (.ptr 0 0)),(5,.one (.ptr 3 0)),(16,.one (.d (.sl (nds h.l)))),(17,vi h.l.length),(18,vi (i+1))]) ?_
   refine Ku 4 ?_
   simp only[go_sem]
   refine Kl ⟨h.l.length - (i+1),by omega,i+1,by omega,rfl,?_,rfl⟩
   exact Nat.zero_le _
 ·repeat refine Ko rfl ?_
  refine Ka ?_
  simp only[Xg8,go_sem]
  repeat refine Ko rfl ?_
  refine Ke ?_
  simp only[go_sem]
  refine⟨fun h=>by exfalso;omega,fun _=>Xhr rfl ?_⟩
  obtain rfl:i=h.l.length:=by omega
  rw[List.take_of_length_le (by omega)]
  refine Xa0 1 ?_
  simp only[go_sem]
  repeat' first|refine Kn rfl ?_|((first|refine Kw ?_|refine Kv ?_);simp only[Xhv,Xhw,Xhx,Xg8,Xhy,Xhz,Xh0,Xe5,Xe6,Xe7,Xe8,Xe9,Xfa,Xfb,go_sem])|refine Kf ?_|apply Kp<;>intro _
  exact⟨rfl,rfl⟩
noncomputable def Ypz (g h:Gr):Bool:=if chk g=none/\chk h=none then Wdx g h else false
noncomputable def Yp0 (g h:Gr):Int:=if Xmv g=0 then Xmv h else Xmv g
theorem Wxr {g:Gr}:Xmv g=0↔chk g=none:=⟨fun e=>Classical.byContradiction fun h=>Xky h e,Xe4⟩
theorem Xs9 {x:Nd} {n:Int} (h:x.short):(Xcp n x).short:=⟨h.1,by simp only[Xcp,List.length_map];exact h.2.1,h.2.2⟩
abbrev Wxs (g h:Gr):List (List D):=[[.int .i64 g.root,.sl (nds g.l)],[.int .i64 h.root,.sl (nds h.l)]]
set_option maxHeartbeats 1000000 in
theorem Wh1 (h:Env10 gp) (g k:Gr) (hs:Xe3 g) (hs':Xe3 k) (hst:∀ x∈g.l,x.short) (hst':∀ x∈k.l,x.short):Xao QP gp 22 [g.v,k.v] (.tup [vb (Ypz g k),vi (Yp0 g k)]):=by
 have c1:Xao QP gp 19 [g.v] (.tup [vi ((chk g).getD (0,0)).1,vi (Xmv g)]):=Ya1 h.e g
 have c2:Xao QP gp 19 [k.v] (.tup [vi ((chk k).getD (0,0)).1,vi (Xmv k)]):=Ya1 h.e k
 refine Wug ?_
 simp only[go_sem]
 refine Xgb 31 ?_
 simp only[go_sem]
 repeat' first|refine Kn rfl ?_|((first|refine Kw ?_|refine Kv ?_);simp only[go_sem])|refine Kf ?_|apply Kp<;>intro _
 refine Kt (fr 48 [(2,.one (.d (.bx [.int .i64 g.root,.sl (nds g.l)]))),(3,.one (.d (.bx [.int .i64 k.root,.sl (nds k.l)]))),(13,.one (.d (.sl (Wxs g k)))),(14,vi 2),(15,vi ((0:Nat):Int)),(31,.one .un)]) ?_
 refine Kt (fr 48 [(2,.one (.d (.bx [.int .i64 g.root,.sl (nds g.l)]))),(3,.one (.d (.bx [.int .i64 k.root,.sl (nds k.l)]))),(13,.one (.d (.sl (Wxs g k)))),(14,vi 2),(15,vi (0:Nat)),(31,.one .un)]) ?_
 refine Km (fun mz sz=>∃ i:Nat,i<=2/\mz=2 - i/\((1<=i->Xmv g=0)/\(2<=i->Xmv k=0))/\sz=⟨fr 48 [(2,.one (.d (.bx [.int .i64 g.root,.sl (nds g.l)]))),(3,.one (.d (.bx [.int .i64 k.root,.sl (nds k.l)]))),(13,.one (.d (.sl (Wxs g k)))),(14,vi 2),(15,vi i),(31,.one .un)],[]⟩) (2) ⟨0,Nat.zero_le _,(Nat.sub_zero _).symm,?_,rfl⟩ ?_
 ·exact⟨fun h=>by omega,fun h=>by omega⟩
 rintro _ _ ⟨i,hi,rfl,⟨hi1,hi2⟩,rfl⟩
 simp only[go_sem]
 by_cases hil:i < 2
 ·have e1:decide ((i:Int) < 2)=true:=decide_eq_true (by omega)
  by_cases h0:i=0
  ·subst h0
   by_cases e:Xmv g=0
   ·rw[e] at c1
    repeat' first|refine Kn rfl ?_|((first|refine Kw ?_|refine Kv ?_);simp only[e1,go_sem])|refine Kf ?_|refine⟨_,c1,Kg ?_⟩|refine⟨_,⟨c1,rfl⟩,Kg ?_⟩|refine⟨_,⟨rfl,rfl⟩,Kg ?_⟩|(apply Kp<;>intro _<;>try (exfalso;omega))
    refine⟨Xat (n:=2) (by omega) (by unfold Xad;omega),?_⟩
    refine Kt (fr 48 [(2,.one (.d (.bx [.int .i64 g.root,.sl (nds g.l)]))),(3,.one (.d (.bx [.int .i64 k.root,.sl (nds k.l)]))),(13,.one (.d (.sl (Wxs g k)))),(14,vi 2),(15,vi ((0:Nat)+1:Int)),(31,.one .un)]) ?_
    refine Ku 0 ?_
    simp only[go_sem]
    exact Kl ⟨1,by omega,1,by omega,rfl,⟨fun _=>e,fun h=>by omega⟩,rfl⟩
   ·have hb:Ypz g k=false:=by unfold Ypz;rw[if_neg (fun h=>e (Xe4 h.1))]
    have he:Yp0 g k=Xmv g:=by unfold Yp0;rw[if_neg e]
    rw[hb,he]
    have e2:(Xmv g != 0)=true:=by simpa using e
    repeat' first|refine Kn rfl ?_|((first|refine Kw ?_|refine Kv ?_);simp only[e1,e2,go_sem])|refine Kf ?_|refine⟨_,c1,Kg ?_⟩|refine⟨_,⟨c1,rfl⟩,Kg ?_⟩|refine⟨_,⟨rfl,rfl⟩,Kg ?_⟩|(apply Kp<;>intro _<;>try (exfalso;omega))
  ·obtain rfl:i=1:=by omega
   have e0:=hi1 (by omega)
   by_cases e:Xmv k=0
   ·rw[e] at c2
    repeat' first|refine Kn rfl ?_|((first|refine Kw ?_|refine Kv ?_);simp only[e1,go_sem])|refine Kf ?_|refine⟨_,c2,Kg ?_⟩|refine⟨_,⟨c2,rfl⟩,Kg ?_⟩|refine⟨_,⟨rfl,rfl⟩,Kg ?_⟩|(apply Kp<;>intro _<;>try (exfalso;omega))
    refine⟨Xat (n:=2) (by omega) (by unfold Xad;omega),?_⟩
    refine Kt (fr 48 [(2,.one (.d (.bx [.int .i64 g.root,.sl (nds g.l)]))),(3,.one (.d (.bx [.int .i64 k.root,.sl (nds k.l)]))),(13,.one (.d (.sl (Wxs g k)))),(14,vi 2),(15,vi ((1:Nat)+1:Int)),(31,.one .un)]) ?_
    refine Ku 0 ?_
    simp only[go_sem]
    exact Kl ⟨0,by omega,2,by omega,rfl,⟨fun _=>e0,fun _=>e⟩,rfl⟩
   ·have hb:Ypz g k=false:=by unfold Ypz;rw[if_neg (fun h=>e (Xe4 h.2))]
    have he:Yp0 g k=Xmv k:=by unfold Yp0;rw[if_pos e0]
    rw[hb,he]
    have e2:(Xmv k != 0)=true:=by simpa using e
    repeat' first|refine Kn rfl ?_|((first|refine Kw ?_|refine Kv ?_);simp only[e1,e2,go_sem])|refine Kf ?_|refine⟨_,c2,Kg ?_⟩|refine⟨_,⟨c2,rfl⟩,Kg ?_⟩|refine⟨_,⟨rfl,rfl⟩,Kg ?_⟩|(apply Kp<;>intro _<;>try (exfalso;omega))
 ·obtain rfl:i=2:=by omega
  have hg:Good g:=⟨Wxr.1 (hi1 (by omega)),hs⟩
  have hk:Good k:=⟨Wxr.1 (hi2 (by omega)),hs'⟩
  have hgl:=hg.len
  have hkl:=hk.len
  have hJf:Fine (Xc1 g.l k.l):=hg.fine.join hk.fine
  have hJl:(Xc1 g.l k.l).length=g.l.length+k.l.length:=Xqb
  have hn:Neat (Xno g k):=⟨hJf,fun x hx=>by
   rcases List.mem_append.1 hx with hx|hx
   ·exact hst x hx
   ·obtain⟨y,hy,rfl⟩:=List.mem_map.1 hx
    exact Xs9 (hst' y hy),by show (Xc1 g.l k.l).length<=1000;omega⟩
  have hb:Ypz g k=Wdx g k:=by unfold Ypz;rw[if_pos ⟨hg.c,hk.c⟩]
  have he:Yp0 g k=0:=by unfold Yp0;rw[if_pos (Xe4 hg.c),Xe4 hk.c]
  rw[hb,he]
  have c3:=Ypy (gp:=gp) hg hk
  obtain⟨u,hu⟩:=Yeu hJf (Xep hg.root).1
  obtain⟨v,hv⟩:=Yeu hJf (Xef (l:=g.l) hk.root).1
  have hsim:Wdx g k=(u==v):=by
   unfold Wdx
   rw[hu,hv,Bool.eq_iff_iff,decide_eq_true_iff,beq_iff_eq,Option.some.injEq]
  rw[hsim]
  have hr1:=hg.root
  have hr2:=hk.root
  repeat' first|refine Kn rfl ?_|((first|refine Kw ?_|refine Kv ?_);simp only[go_sem])|refine Kf ?_|refine⟨_,c3,Kg ?_⟩|refine⟨_,⟨c3,rfl⟩,Kg ?_⟩|(apply Kp<;>intro _<;>try (exfalso;omega))
  refine Or.inr ⟨[],.one (.ptr 1 0),[.row 1 0 (Xai (Xes (Xno g k).l.length)),.cells [.d (.int .i64 (Xno g k).root),.d (.sl (nds (Xno g k).l)),.own 0 0]],(by simp only[Xa1,Xds,rnV,rnA,Xdy,rn0,Xdx,Xb1,Xdt,rnC,Xah,List.isEmpty_nil,reduceCtorEq,↓reduceIte,Qa,Qb,Qc,Qd,Qe,Qf,Qg,Qh,Qi,Qj,Qk,Ql,Qm,Qn,Qo,Qp,Qq,Qr];simp only[go_sem];exact⟨Wuj,W2l (Xno g k) hn.len⟩),Kg ?_⟩
  simp only[go_sem]
  repeat' first|refine Kn rfl ?_|((first|refine Kw ?_|refine Kv ?_);simp only[go_sem])|refine Kf ?_|apply Kp<;>intro _
  refine Or.inr (Or.inr ⟨[1,0],.one (.own 1 0),[pC (Xno g k) 0,.row 1 0 (Xai (Xgg (Xno g k).l))],(by simp only[Xa1,Xds,rnV,rnA,Xdy,rn0,Xdx,Xb1,Xdt,rnC,Xah,List.isEmpty_nil,reduceCtorEq,↓reduceIte,Qa,Qb,Qc,Qd,Qe,Qf,Qg,Qh,Qi,Qj,Qk,Ql,Qm,Qn,Qo,Qp,Qq,Qr];simp only[go_sem];exact⟨Wuy,Ypx h hn 0⟩),Kg ?_⟩)
  simp only[go_sem]
  repeat' first|((first|refine Kb ?_|refine Kv ?_);simp only[go_sem])|refine Kf ?_|refine Kg ?_
  refine Xa0 0 ?_
  simp only[go_sem]
  have hu':(Xai (Xgg (Xno g k).l))[g.root.toNat]?=some [.int .i64 u]:=Xf9 hu
  have hv':(Xai (Xgg (Xno g k).l))[(k.root+(g.l.length:Int)).toNat]?=some [.int .i64 v]:=Xf9 hv
  have hk0:0<=k.root+(g.l.length:Int):=by omega
  repeat' first|refine Kn rfl ?_|((first|refine Kw ?_|refine Kv ?_);simp only[go_sem])|refine Kf ?_|refine⟨_,⟨hr1.1,hu',rfl⟩,Kg ?_⟩|refine⟨_,⟨hk0,hv',rfl⟩,Kg ?_⟩|apply Kp<;>intro _
  refine⟨by unfold inK;simp[IntKind.min,IntKind.max,IntKind.signed,IntKind.bits];omega,_,⟨hk0,hv',rfl⟩,Kg ?_⟩
  repeat' first|refine Kn rfl ?_|((first|refine Kw ?_|refine Kv ?_);simp only[go_sem])|refine Kf ?_|apply Kp<;>intro _
end Go.Fw.L07
