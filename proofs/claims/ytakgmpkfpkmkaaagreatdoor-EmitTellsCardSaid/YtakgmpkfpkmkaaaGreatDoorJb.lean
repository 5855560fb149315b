/- Chapter 10,part 1: the library's builders of texts: what their first look does,what they hand over. (Turned from the kit's contracts.) -/
import Derived.Shelf.Strings.Builder1
import Derived.Test.YtakgmpkfpkmkaaaGreatDoorLc
import Derived.Test.YtakgmpkfpkmkaaaGreatDoorL07L04Mini
import Derived.Test.YtakgmpkfpkmkaaaGreatDoorJa
import Derived.Shelf.Strconv.Itoa3
import Derived.Test.YtakgmpkfpkmkaaaGreatDoorLa
import Derived.Test.YtakgmpkfpkmkaaaGreatDoorVa
import Derived.Test.YtakgmpkfpkmkaaaGreatDoorL07L10Mini
set_option linter.all false
namespace Go.Fw.L07
open Go Go.Shelf Go.RowKit Go.Proofs
variable {P:Program} {ρ:Ren}
set_option maxHeartbeats 2000000 in
set_option maxRecDepth 100000 in
theorem X2s (L:Lays.n169 P ρ) (X:Builder.Extra P ρ) (b:Nat) (p:Value) (T:TypeId) (w:World) (hbk:w.heap[b]?=some (.cells #[p,.slice none 0 0] T (0,0))) :
  Calls P (ρ.f 169) #[.pointer (some ⟨b,0,none⟩)] w fun e w'=>e=.returned (.string ⟨#[]⟩)/\w'=w.drew:=by
 have hUS:∀ (W:World) (q:Option Addr),(Builtin.unsafeString_ #[(ρ.t 127),(ρ.t 3)] (ρ.t 9) #[.pointer q,.int .i64 0]).run P W=.ok (.string .empty) W:=fun W q=>Lib.run_unsafeString_none W _ _ _ q
 have c1:w.drew.cell? ⟨b,1,none⟩=some (.slice none 0 0):=by
  have:w.drew.heap[b]?=some (.cells #[p,.slice none 0 0] T (0,0)):=hbk
  rw[Lib.cell_of_heap this];rfl
 have hSD:(Builtin.unsafeSliceData_ #[(ρ.t 37)] (ρ.t 127) #[.slice none 0 0]).run P w.drew=.ok (.pointer none) w.drew:=rfl
 have mixed:=L.mixed
 have t72:=L.t72;have a72:=L.a72;have z72:=L.z72;have v72:=L.v72;have u72:=run_underlying L.t72
 have t70:=L.t70;have a70:=L.a70;have z70:=L.z70;have v70:=L.v70;have u70:=run_underlying L.t70
 have t37:=L.t37;have a37:=L.a37;have z37:=L.z37;have v37:=L.v37;have u37:=run_underlying L.t37
 have t127:=L.t127;have a127:=L.a127;have z127:=L.z127;have v127:=L.v127;have u127:=run_underlying L.t127
 have t3:=L.t3;have a3:=L.a3;have z3:=L.z3;have v3:=L.v3;have u3:=run_underlying L.t3
 have t9:=L.t9;have a9:=L.a9;have z9:=L.z9;have v9:=L.v9;have u9:=run_underlying L.t9
 have t5:=X.t5;have a5:=X.a5;have z5:=X.z5;have v5:=X.v5;have u5:=run_underlying X.t5
 go_enter L.f169,Body.n169_ntmps ρ
 go_wp2
 go_region_o
 all_goals (go_wp2;go_ret;exact⟨rfl,rfl⟩)
set_option maxHeartbeats 2000000 in
set_option maxRecDepth 100000 in
theorem X2t (L:Lays.n169 P ρ) (X:Builder.Extra P ρ) (b g cap:Nat) (p:Value) (T:TypeId) (cur:Array Value) (l:List UInt8) (w:World) (hbk:w.heap[b]?=some (.cells #[p,.slice (some ⟨g,0,none⟩) l.length cap] T (0,0)))
  (hg:w.heap[g]?=some (.cells cur (ρ.t 5) (0,0))) (h0:l≠[]) (hnc:l.length<=cap) (hcm:cap<=maxLen) (hcs:cur.size=cap) (htake:cur.toList.take l.length=Lib.byteCells l) :
  Calls P (ρ.f 169) #[.pointer (some ⟨b,0,none⟩)] w fun e w'=>e=.returned (.string ⟨l.toArray⟩)/\w'=w.drew.freeze ⟨g,0,none⟩ l.length:=by
 have hl0:l.length≠0:=by simpa using h0
 have c1:w.drew.cell? ⟨b,1,none⟩=some (.slice (some ⟨g,0,none⟩) l.length cap):=by
  have:w.drew.heap[b]?=some (.cells #[p,.slice (some ⟨g,0,none⟩) l.length cap] T (0,0)):=hbk
  rw[Lib.cell_of_heap this];rfl
 have hSD:(Builtin.unsafeSliceData_ #[(ρ.t 37)] (ρ.t 127) #[.slice (some ⟨g,0,none⟩) l.length cap]).run P w.drew=.ok (.pointer (some ⟨g,0,none⟩)) w.drew :=
  Lib.run_unsafeSliceData_row _ _ _ _ _ _ (by omega)
 have hgd:w.drew.heap[g]?=some (.cells cur (ρ.t 5) (0,0)):=hg
 have hUS:(Builtin.unsafeString_ #[(ρ.t 127),(ρ.t 3)] (ρ.t 9) #[.pointer (some ⟨g,0,none⟩),.int .i64 l.length]).run P w.drew=.ok (.string ⟨l.toArray⟩) (w.drew.freeze ⟨g,0,none⟩ l.length):=by
  refine Lib.run_unsafeString_row w.drew (ρ.t 127) (ρ.t 3) (ρ.t 9) (ρ.t 5) L.t127 X.cellsByte g cur.size (by simp[World.shape?,hgd]) l h0 (by omega) (by unfold maxLen at hcm;omega) ?_
  intro j x hx
  have hadd:(⟨g,0,none⟩:Addr).add j=⟨g,j,none⟩:=by unfold Addr.add;split <;> simp_all
  rw[hadd,Lib.cell_of_heap hgd]
  have:(Lib.byteCells l)[j]?=some (.int .u8 x.toNat):=by simp[Lib.byteCells,hx]
  rw[<- htake,List.getElem?_take] at this
  split at this
  ·simpa using this
  ·cases this
 have mixed:=L.mixed
 have t72:=L.t72;have a72:=L.a72;have z72:=L.z72;have v72:=L.v72;have u72:=run_underlying L.t72
 have t70:=L.t70;have a70:=L.a70;have z70:=L.z70;have v70:=L.v70;have u70:=run_underlying L.t70
 have t37:=L.t37;have a37:=L.a37;have z37:=L.z37;have v37:=L.v37;have u37:=run_underlying L.t37
 have t127:=L.t127;have a127:=L.a127;have z127:=L.z127;have v127:=L.v127;have u127:=run_underlying L.t127
 have t3:=L.t3;have a3:=L.a3;have z3:=L.z3;have v3:=L.v3;have u3:=run_underlying L.t3
 have t9:=L.t9;have a9:=L.a9;have z9:=L.z9;have v9:=L.v9;have u9:=run_underlying L.t9
 have t5:=X.t5;have a5:=X.a5;have z5:=X.z5;have v5:=X.v5;have u5:=run_underlying X.t5
 go_enter L.f169,Body.n169_ntmps ρ
 go_wp2
 go_region_o
 all_goals (go_wp2;go_ret;exact⟨rfl,rfl⟩)
end Go.Fw.L07
namespace Go.Fw.L07
open Go Go.Fw Go.Shelf
open Nat renaming reduceAdd->Qa,reduceSub->Qb,reduceMul->Qc,reduceLeDiff->Qd,reduceLT->Qe,reduceEqDiff->Qf
open Int renaming reduceToNat->Qg,reduceLT->Qh,reduceLE->Qi,reduceGT->Qj,reduceGE->Qk,reduceEq->Ql,reduceNe->Qm,reduceBEq->Qn,reduceBNe->Qo,reduceAdd->Qp,reduceSub->Qq,reduceNeg->Qr
set_option maxRecDepth 4000
variable {gp:Heap}
def Ykn:Ren:=⟨fun|169=>28|240=>58|276=>86|n=>n,
 fun|20=>20|37=>54|70=>53|72=>56|127=>101|164=>147|n=>n,
 fun n=>n⟩
theorem Jei:Go.Proofs.Builder.Extra Go.Proofs.Tryz.prog Ykn:={
 sizeBuilder:=by kernel_rfl
 liesBuilder:=by kernel_rfl
 t5:=by kernel_rfl
 a5:=fun w=>by kernel_rfl
 z5:=fun w=>by kernel_rfl
 v5:=fun w=>by kernel_rfl
 infoByte:=by kernel_rfl
 cellsByte:=by kernel_rfl
 sizeByte:=by kernel_rfl
 neB5:=by decide }
theorem Yko:Go.Proofs.Lays.n169 Go.Proofs.Tryz.prog Ykn:={
 mixed:=by kernel_rfl
 f169:=by kernel_rfl
 t0:=by kernel_rfl
 a0:=fun w=>by kernel_rfl
 z0:=fun w=>by kernel_rfl
 v0:=fun w=>by kernel_rfl
 t3:=by kernel_rfl
 a3:=fun w=>by kernel_rfl
 z3:=fun w=>by kernel_rfl
 v3:=fun w=>by kernel_rfl
 t9:=by kernel_rfl
 a9:=fun w=>by kernel_rfl
 z9:=fun w=>by kernel_rfl
 v9:=fun w=>by kernel_rfl
 t37:=by kernel_rfl
 a37:=fun w=>by kernel_rfl
 z37:=fun w=>by kernel_rfl
 v37:=fun w=>by kernel_rfl
 t70:=by kernel_rfl
 a70:=fun w=>by kernel_rfl
 z70:=fun w=>by kernel_rfl
 v70:=fun w=>by kernel_rfl
 t72:=by kernel_rfl
 a72:=fun w=>by kernel_rfl
 z72:=fun w=>by kernel_rfl
 v72:=fun w=>by kernel_rfl
 t127:=by kernel_rfl
 a127:=fun w=>by kernel_rfl
 z127:=fun w=>by kernel_rfl
 v127:=fun w=>by kernel_rfl }
theorem Ykp:Go.Proofs.Lays.n240 Go.Proofs.Tryz.prog Ykn:={
 mixed:=by kernel_rfl
 f240:=by kernel_rfl
 f276:=by kernel_rfl
 t0:=by kernel_rfl
 a0:=fun w=>by kernel_rfl
 z0:=fun w=>by kernel_rfl
 v0:=fun w=>by kernel_rfl
 t4:=by kernel_rfl
 a4:=fun w=>by kernel_rfl
 z4:=fun w=>by kernel_rfl
 v4:=fun w=>by kernel_rfl
 t9:=by kernel_rfl
 a9:=fun w=>by kernel_rfl
 z9:=fun w=>by kernel_rfl
 v9:=fun w=>by kernel_rfl
 t20:=by kernel_rfl
 a20:=fun w=>by kernel_rfl
 z20:=fun w=>by kernel_rfl
 v20:=fun w=>by kernel_rfl
 t70:=by kernel_rfl
 a70:=fun w=>by kernel_rfl
 z70:=fun w=>by kernel_rfl
 v70:=fun w=>by kernel_rfl
 t72:=by kernel_rfl
 a72:=fun w=>by kernel_rfl
 z72:=fun w=>by kernel_rfl
 v72:=fun w=>by kernel_rfl
 t164:=by kernel_rfl
 a164:=fun w=>by kernel_rfl
 z164:=fun w=>by kernel_rfl
 v164:=fun w=>by kernel_rfl }
abbrev TB:TypeId:=56
abbrev TU:TypeId:=5
theorem Xrq (y:A) (c:Ch):Tri Go.Proofs.Tryz.prog gp 58 [.one (.ptr 0 0)] [.bld TB y,c] fun r post=>r=.tup []/\post=[.cells [.ptr 0 0,y],c]:=by
 intro H w an F us hgp hmod hanc hown hF hdj hargs
 obtain⟨u,rfl,hu⟩:∃ u,us=[u]/\Xax H an (.one (.ptr 0 0)) u:=by
  match us,hargs with
  | [u],h=>exact⟨u,rfl,h.1⟩
 obtain⟨b,rfl,p,hp,hpb⟩:=hu
 obtain⟨q,hq,h0,b',p0,v,T',hqv,hFb,hheap,hk,hy⟩:=hown 0 _ rfl
 rw[hp] at hq;cases hq
 obtain rfl:b=b':=hpb b' hqv
 obtain⟨q1,hq1,hs1⟩:=hown 1 _ rfl
 have hcell:w.cell? ⟨b,0,none⟩=some p0:=by rw[Go.Fw.cell_of_heap hheap];rfl
 have fin:∀ w':World,WKeep w w' (fun x=>x=b)->w'.heap[b]?=some (.cells #[.pointer (some ⟨b,0,none⟩),v] T' (0,0)) ->
   ∃ (v0:Value) (res:V) (post:List Ch) (H':Heap) (an':Anc) (F':Nat->Nat->Prop),(Ending.returned (.tuple #[]))=.returned v0/\(res=.tup []/\post=[.cells [.ptr 0 0,y],c]) /\
   WKeep w w' (fun b=>∃ i,F i b)/\Heap.Le H H'/\Xci w' H'/\(∀ b o,H' b=some o->H b=some o\/w.heap.size<=b\/∃ i,F i b) /\
   Anc.Le an an'/\(∀ i,(∃ p,an' i=some p)↔i < post.length)/\(∀ i c,post[i]?=some c->∃ p,an' i=some p/\Xb7 H' an' w' c p (F' i)) /\
   (∀ i b,F' i b->i < post.length/\b < w'.heap.size/\H' b=none/\(w.heap.size<=b\/∃ j,F j b))/\(∀ i j b,F' i b->F' j b->i=j)/\Xax H' an' res v0:=by
  intro w' hw hb
  refine⟨_,.tup [],_,H,an,F,rfl,⟨rfl,rfl⟩,hw.mono fun x hx=>⟨0,(hFb x).2 hx⟩,Heap.Le.refl _,fun z o hz=>?_,fun b o hb=>.inl hb,Anc.Le.refl _,hanc,fun i c' hc=>?_,fun i z hz=>?_,hdj,[],rfl,trivial⟩
  ·have h3:=hmod z o hz
   refine (hw.block z (Array.getElem?_eq_some_iff.1 h3).1 fun e=>?_).trans h3
   subst e
   have:=(hF 0 z ((hFb z).2 rfl)).2.2
   rw[this] at hz;cases hz
  ·match i,hc with
   | 0,hc =>
    cases hc
    exact⟨p,hp,h0,b,T',[.pointer (some ⟨b,0,none⟩),v],hqv,hFb,hb,⟨b,rfl,p,hp,hpb⟩,hy,trivial⟩
   | 1,hc =>
    cases hc
    refine⟨q1,hq1,hs1.keep (Heap.Le.refl _) (Anc.Le.refl _) fun x hx=>?_⟩
    have h1:=hF 1 x hx
    exact hw.block x h1.2.1 fun e=>by
     have:=hdj 0 1 x ((hFb x).2 e) hx
     omega
  ·obtain⟨k1,k2,k3⟩:=hF i z hz
   exact⟨k1,Nat.lt_of_lt_of_le k2 hw.size,k3,.inr ⟨i,hz⟩⟩
 rcases hk with ⟨rfl,rfl⟩|rfl
 ·intro cs
  obtain⟨e,w',fr,⟨rfl,rfl⟩,g2,g3,g4⟩:=Go.Proofs.Any.Builder_copyCheck_fresh Ykp Jei.toX72 b w hcell (by simp[World.shape?,hheap];rfl) (by simp[World.frozen?,hheap]) cs
  refine⟨_,_,fr,fin (w.setCell ⟨b,0,none⟩ (.pointer (some ⟨b,0,none⟩))) ⟨rfl,rfl,rfl,by simp[World.setCell],fun k hk hn=>Go.RowKit.Below.heap_setCell _ _ _ _ hn⟩ ?_,g2,g3,g4⟩
  simp[World.setCell,Array.getElem?_modify,hheap]
 ·intro cs
  obtain⟨e,w',fr,⟨rfl,rfl⟩,g2,g3,g4⟩:=Go.Proofs.Any.Builder_copyCheck_used Ykp Jei.toX72 b w hcell cs
  exact⟨_,_,fr,fin _ (WKeep.refl _ _) hheap,g2,g3,g4⟩
theorem Xnq {T:TypeId} {ver:Nat} {bs:List UInt8}:Tri Go.Proofs.Tryz.prog gp 28 [.one (.ptr 0 0)] [.bld T (.own 1 ver),.brow TU ver bs] fun r post=>r=vs ⟨bs.toArray⟩/\post=[.dead,.dead]:=by
 intro H w an F us hgp hmod hanc hown hF hdj hargs
 obtain⟨u,rfl,hu⟩:∃ u,us=[u]/\Xax H an (.one (.ptr 0 0)) u:=by
  match us,hargs with
  | [u],h=>exact⟨u,rfl,h.1⟩
 obtain⟨b,rfl,p,hp,hpb⟩:=hu
 obtain⟨q,hq,h0,b',p0,v,T',hqv,hFb,hheap,hk,hy⟩:=hown 0 _ rfl
 rw[hp] at hq;cases hq
 obtain rfl:b=b':=hpb b' hqv
 obtain⟨q1,hq1,hv1,hlm,hem,⟨_,hrow⟩,hF1⟩:=hown 1 _ rfl
 obtain⟨_,q2,hq2,_,hvq⟩:=hy
 rw[hq1] at hq2;cases hq2
 have hv:=hvq hv1
 have fin:∀ w':World,WKeep w w' (fun x=>F 1 x) ->
   ∃ (v0:Value) (res:V) (post:List Ch) (H':Heap) (an':Anc) (F':Nat->Nat->Prop),(Ending.returned (.string ⟨bs.toArray⟩))=.returned v0/\(res=vs ⟨bs.toArray⟩/\post=[.dead,.dead]) /\
   WKeep w w' (fun b=>∃ i,F i b)/\Heap.Le H H'/\Xci w' H'/\(∀ b o,H' b=some o->H b=some o\/w.heap.size<=b\/∃ i,F i b) /\
   Anc.Le an an'/\(∀ i,(∃ p,an' i=some p)↔i < post.length)/\(∀ i c,post[i]?=some c->∃ p,an' i=some p/\Xb7 H' an' w' c p (F' i)) /\
   (∀ i b,F' i b->i < post.length/\b < w'.heap.size/\H' b=none/\(w.heap.size<=b\/∃ j,F j b))/\(∀ i j b,F' i b->F' j b->i=j)/\Xax H' an' res v0:=by
  intro w' hw
  refine⟨_,vs ⟨bs.toArray⟩,_,H,an,fun _ _=>False,rfl,⟨rfl,rfl⟩,hw.mono fun x hx=>⟨1,hx⟩,Heap.Le.refl _,fun z o hz=>?_,fun b o hb=>.inl hb,Anc.Le.refl _,hanc,fun i c' hc=>?_,fun i z hz=>hz.elim,fun _ _ _ h=>h.elim,Den.str _⟩
  ·have h3:=hmod z o hz
   refine (hw.block z (Array.getElem?_eq_some_iff.1 h3).1 fun e=>?_).trans h3
   have:=(hF 1 z e).2.2
   rw[this] at hz;cases hz
  ·match i,hc with
   | 0,hc=>cases hc;exact⟨p,hp,fun _ h=>h⟩
   | 1,hc=>cases hc;exact⟨q1,hq1,fun _ h=>h⟩
 rcases hrow with ⟨hn,hl0⟩|⟨g,cap,cur,hn,_,hg,hnc,hcm,hcs,htake⟩
 ·obtain rfl:bs=[]:=List.eq_nil_of_length_eq_zero hl0
  rw[hv,hn] at hheap
  intro cs
  obtain⟨e,w',fr,⟨rfl,rfl⟩,g2,g3,g4⟩:=X2s Yko Jei b p0 T' w hheap cs
  exact⟨_,_,fr,fin w.drew ⟨rfl,rfl,rfl,Nat.le_refl _,fun _ _ _=>rfl⟩,g2,g3,g4⟩
 ·rw[hv,hn] at hheap
  by_cases hb0:bs=[]
  ·have:=hem hb0
   rw[hn] at this;cases this
  ·intro cs
   obtain⟨e,w',fr,⟨rfl,rfl⟩,g2,g3,g4⟩:=X2t Yko Jei b g cap p0 T' cur bs w hheap hg hb0 hnc hcm (by simpa using hcs) (by simpa using htake) cs
   refine⟨_,_,fr,fin (w.drew.freeze ⟨g,0,none⟩ bs.length) ?_,g2,g3,g4⟩
   have hF1g:F 1 g:=(hF1 g).2 (by rw[hn];rfl)
   refine⟨by unfold World.freeze;split <;> rfl,by unfold World.freeze;split <;> rfl,by unfold World.freeze;split <;> rfl,?_,fun k hk hn'=>?_⟩
   ·unfold World.freeze;split <;> simp
   ·unfold World.freeze
    split
    ·rfl
    ·simp only[Array.getElem?_modify]
     rw[if_neg (fun e=>hn' (by rw[<- e];exact hF1g))]
     rfl
end Go.Fw.L07
namespace Go.Fw.L07
open Go Go.Fw
open Go.Fw.Sh renaming intro->Kg
open Go.Fw renaming Xd2->Kf,Xcp->Kt,Xfl->Ku,Xco->Kl,Xeg->Km,Gx->Kn
open Go.Fw renaming Xdt->Kw, Xbs->Kw, Xbw->Kw, Xby->Kw, Xbz->Kw, Xhh->Kw, Xd3->Kw
open Go.Fw.Sh renaming intro->Kf
open Int renaming natCast_nonneg->Kq
open And renaming intro->Kp
open Go.Proofs.Tryz renaming prog->QP
open Nat renaming reduceAdd->Qa,reduceSub->Qb,reduceMul->Qc,reduceLeDiff->Qd,reduceLT->Qe,reduceEqDiff->Qf
open Int renaming reduceToNat->Qg,reduceLT->Qh,reduceLE->Qi,reduceGT->Qj,reduceGE->Qk,reduceEq->Ql,reduceNe->Qm,reduceBEq->Qn,reduceBNe->Qo,reduceAdd->Qp,reduceSub->Qq,reduceNeg->Qr
set_option maxRecDepth 4000
variable {gp:Heap}
theorem Ykq:Xaa QP 58=true:=by kernel_rfl
theorem Ykr {ver:Nat} {bs:List UInt8} {s:ByteArray} (hl:bs.length+s.size<=100000000):Tri QP gp 27 [.one (.ptr 0 0),vs s] [.bld TB (.own 1 ver),.brow TU ver bs] fun r post =>
  r=.tup [vi s.size,.one (.d .nilI)]/\post=[.bld TB (.own 1 (ver+1)),.brow TU (ver+1) (bs++s.data.toList)]:=by
 refine Wog ?_
 simp only[go_sem]
 repeat' first|refine Kn rfl ?_|(refine Kw ?_;simp only[go_sem])|refine Kf ?_|apply Kp<;>intro _
 refine Or.inr (Or.inr ⟨[0,1],.tup [],[.cells [.ptr 0 0,.own 1 ver],.brow TU ver bs],(by simp only[Xay,Xcl,rnV,rnA,Xcx,rn0,Xcw,Xbo,Xcm,rnC,Xak,List.isEmpty_nil,reduceCtorEq,↓reduceIte,Qa,Qb,Qc,Qd,Qe,Qf,Qg,Qh,Qi,Qj,Qk,Ql,Qm,Qn,Qo,Qp,Qq,Qr];simp only[go_sem];exact⟨Ykq,Xrq _ _⟩),Kg ?_⟩)
 simp only[go_sem]
 repeat' first|refine Kn rfl ?_|(refine Kw ?_;simp only[go_sem])|refine Kf ?_|apply Kp<;>intro _
 refine⟨by omega,?_⟩
 refine Ku 2 ?_
 simp only[go_sem]
 refine Wxm 0 TB (y:=.own 1 (ver+1)) (by simp only[go_sem]) ?_
 simp only[go_sem]
 repeat' first|refine Kn rfl ?_|(refine Kw ?_;simp only[go_sem])|refine Kf ?_|apply Kp<;>intro _
abbrev vr (r:Int):V:=.one (.d (.int .i32 r))
theorem Wts (r:Int):Does QP gp 100 [vr r] (vb (decide (32<=r) && (r != 127))):=by
 refine Wpq ?_
 simp only[go_sem]
 by_cases h1:32<=r
 ·have e1:decide (32<=r)=true:=decide_eq_true h1
  have e2:decide (r >= 32)=true:=decide_eq_true h1
  rw[e1,Bool.true_and]
  repeat' first|refine Kn rfl ?_|(refine Kw ?_;simp only[e2,go_sem])|refine Kf ?_|(apply Kp<;>intro _<;>try (exfalso;omega))
 ·have e1:decide (32<=r)=false:=decide_eq_false h1
  have e2:decide (r >= 32)=false:=decide_eq_false h1
  rw[e1,Bool.false_and]
  repeat' first|refine Kn rfl ?_|(refine Kw ?_;simp only[e2,go_sem])|refine Kf ?_|(apply Kp<;>intro _<;>try (exfalso;omega))
def Xnr (l:List Int):List (List D):=l.map fun r=>[.int .i32 r]
theorem Jhx (r:Int) (l:List Int) (hl:l.length<=1000):Does QP gp 99 [vr r,.one (.d (.sl (Xnr l)))] (vb (decide (r∈l))):=by
 refine W9r ?_
 simp only[go_sem]
 have hls:(Xnr l).length=l.length:=by simp[Xnr]
 repeat' first|refine Kn rfl ?_|(refine Kw ?_;simp only[go_sem])|refine Kf ?_|apply Kp<;>intro _
 rw[hls]
 refine Kt (fr 17 [(0,vr r),(7,.one (.d (.sl (Xnr l)))),(8,vi l.length),(9,vi ((0:Nat):Int))]) ?_
 refine Km (fun mz sz=>∃ i:Nat,i<=l.length/\mz=l.length - i/\r ∉ l.take i/\sz=⟨fr 17 [(0,vr r),(7,.one (.d (.sl (Xnr l)))),(8,vi l.length),(9,vi (i:Int))],[]⟩) l.length ⟨0,Nat.zero_le _,rfl,by simp,rfl⟩ ?_
 rintro _ _ ⟨i,hi,rfl,hz,rfl⟩
 simp only[go_sem]
 by_cases hil:i < l.length
 ·obtain⟨x,hx⟩:=Xaf hil
  have hx':(Xnr l)[i]?=some [.int .i32 x]:=by unfold Xnr;rw[List.getElem?_map,hx];rfl
  have e1:decide ((i:Int) < (l.length:Int))=true:=decide_eq_true (by omega)
  by_cases hxr:r=x
  ·have e2:(r==x)=true:=beq_iff_eq.2 hxr
   have hm:decide (r∈l)=true:=decide_eq_true (by rw[hxr];exact List.mem_of_getElem? hx)
   rw[hm]
   repeat' first|refine Kn rfl ?_|(refine Kw ?_;simp only[e1,e2,go_sem])|refine Kf ?_|refine⟨_,⟨Kq _,hx',rfl⟩,Kg ?_⟩|apply Kp<;>intro _
  ·have e2:(r==x)=false:=beq_eq_false_iff_ne.2 hxr
   repeat' first|refine Kn rfl ?_|(refine Kw ?_;simp only[e1,e2,go_sem])|refine Kf ?_|refine⟨_,⟨Kq _,hx',rfl⟩,Kg ?_⟩|apply Kp<;>intro _
   refine⟨Xai hil (by unfold lenMax;omega),?_⟩
   refine Kt (fr 17 [(0,vr r),(7,.one (.d (.sl (Xnr l)))),(8,vi l.length),(9,vi (i+1))]) ?_
   exact Kl ⟨l.length - (i+1),by omega,i+1,by omega,rfl,by
    rw[List.take_succ,hx]
    simp only[List.mem_append,not_or]
    exact⟨hz,by simp;exact hxr⟩,rfl⟩
 ·obtain rfl:i=l.length:=by omega
  have e1:decide ((l.length:Int) < (l.length:Int))=false:=decide_eq_false (by omega)
  rw[List.take_of_length_le (Nat.le_refl _)] at hz
  rw[decide_eq_false hz]
  repeat' first|refine Kn rfl ?_|(refine Kw ?_;simp only[e1,go_sem])|refine Kf ?_|apply Kp<;>intro _
def Xie:Ch:=.map [(vr 10,vr 110),(vr 9,vr 116),(vr 13,vr 114)]
theorem Xpj:Tri QP gp 98 [] [] fun r post=>r=.one (.own 0 0)/\post=[Xie]:=by
 refine Wpi ?_
 simp only[go_sem]
 repeat' first|refine Kn rfl ?_|(refine Kw ?_;simp only[go_sem])|refine Kf ?_|refine⟨_,rfl,Kg ?_⟩|apply Kp<;>intro _
 rfl
def Yw6 (b:Bool):ByteArray:=if b then ⟨#[116,114,117,101]⟩ else ⟨#[102,97,108,115,101]⟩
theorem Jjx (b:Bool):Does QP gp 94 [vb b] (vs (Yw6 b)):=by
 refine W85 ?_
 simp only[go_sem]
 cases b <;> (repeat' (first|refine Kn rfl ?_|(refine Kw ?_;simp only[go_sem])|refine Kf ?_|apply Kp<;>intro _))
 all_goals first|rfl|trace_state
theorem Jjy (b:Bool):Does QP gp 64 [vb b] (vs (Yw6 b)):=by
 refine W8d ?_
 simp only[go_sem]
 have c1:=Jjx (gp:=gp) b
 repeat' first|refine Kn rfl ?_|(refine Kw ?_;simp only[go_sem])|refine Kf ?_|refine⟨_,c1,Kg ?_⟩|refine⟨_,⟨c1,rfl⟩,Kg ?_⟩|apply Kp<;>intro _
theorem X0z (r:Int):Yyf (Lib.encodeRune r)=(Lib.encodeRuneZ r).map fun x=>[.int .u8 x]:=by
 unfold Yyf Lib.encodeRune
 rw[List.map_map]
 refine List.map_congr_left fun x hx=>?_
 have:=Lib.encodeRuneZ_byte r x hx
 simp only[Function.comp]
 congr 2
 simp only[Nat.toUInt8_eq,UInt8.toNat_ofNat']
 omega
theorem Yw7 (a m:Nat) (h:∀ n:Fin m,Xpw .or .u8 (a:Int) ((n:Nat):Int)=(a:Int)+((n:Nat):Int)) (x:Int) (h0:0<=x) (h1:x < m):Xpw .or .u8 (a:Int) x=(a:Int)+x:=by
 obtain⟨n,rfl⟩:=Int.eq_ofNat_of_zero_le h0
 exact h ⟨n,by omega⟩
theorem Jhy {x:Int} (h0:0<=x) (h1:x < 32):Xpw .or .u8 192 x=192+x:=Yw7 192 32 (by decide) x h0 h1
theorem Jhz {x:Int} (h0:0<=x) (h1:x < 16):Xpw .or .u8 224 x=224+x:=Yw7 224 16 (by decide) x h0 h1
theorem Jh0 {x:Int} (h0:0<=x) (h1:x < 8):Xpw .or .u8 240 x=240+x:=Yw7 240 8 (by decide) x h0 h1
theorem Wtt {x:Int} (h0:0<=x) (h1:x < 64):Xpw .or .u8 128 x=128+x:=Yw7 128 64 (by decide) x h0 h1
set_option maxRecDepth 10000 in
theorem Yks:∀ n:Fin 256,Xpw .and .u8 ((n:Nat):Int) 63=((n:Nat):Int) % 64:=by decide
theorem Wtu (n:Int):Xpw .and .u8 (IntKind.u8.wrap n) 63=n % 64:=by
 rw[IntKind.wrap_u8]
 obtain⟨m,hm⟩:=Int.eq_ofNat_of_zero_le (Int.emod_nonneg n (show (256:Int)≠0 by decide))
 rw[hm]
 have hl:=Int.emod_lt_of_pos n (show (0:Int) < 256 by decide)
 have:=Yks ⟨m,by omega⟩
 dsimp only at this
 rw[this]
 omega
theorem Jh1 (r:Int):r.fdiv (2 ^ min 6 32)=r / 64:=by rw[Int.fdiv_eq_ediv_of_nonneg _ (by decide)];rfl
theorem Jbw (r:Int):r.fdiv (2 ^ min 12 32)=r / 4096:=by rw[Int.fdiv_eq_ediv_of_nonneg _ (by decide)];rfl
theorem Jh2 (r:Int):r.fdiv (2 ^ min 18 32)=r / 262144:=by rw[Int.fdiv_eq_ediv_of_nonneg _ (by decide)];rfl
theorem wr8 {n:Int} (h:0<=n/\n < 256):IntKind.u8.wrap n=n:=by rw[IntKind.wrap_u8];omega
theorem Ji2 {n:Int} (h:0<=n/\n < 4294967296):IntKind.u32.wrap n=n:=by rw[IntKind.wrap_u32];omega
theorem Xrr (r:Int) (hr:okR r) (h1:128<=r) (ver:Nat) (bs:List UInt8) (hl:bs.length<=100000000) :
  Tri QP gp 164 [.one (.own 0 ver),vr r] [.brow TU ver bs] fun v post=>v=.one (.own 0 (ver+1))/\post=[.brow TU (ver+1) (bs++Lib.encodeRune r)]:=by
 unfold okR at hr
 refine Yv8 ?_
 simp only[go_sem]
 have w32:IntKind.u32.wrap r=r:=Ji2 (by omega)
 have hb:=X0z r
 have f0:=Wtt (x:=r % 64) (by omega) (by omega)
 have f1:=Wtt (x:=r / 64 % 64) (by omega) (by omega)
 have f2:=Wtt (x:=r / 4096 % 64) (by omega) (by omega)
 by_cases c2:r<=2047
 ·have e2:decide (r<=2047)=true:=decide_eq_true c2
  have f3:Xpw .or .u8 192 (IntKind.u8.wrap (r / 64))=192+r / 64:=by rw[wr8 (by omega)];exact Jhy (by omega) (by omega)
  rw[Lib.encodeRuneZ_two (by omega) c2] at hb
  repeat' first|refine Kn rfl ?_|(refine Kw ?_;simp only[w32,e2,Jh1,Wtu,f0,f3,go_sem])|refine Kf ?_|(apply Kp<;>intro _<;>try (exfalso;omega))
  refine⟨by simp,by omega,_,hb.symm,Kg ?_⟩
  simp only[go_sem]
  repeat' first|refine Kn rfl ?_|(refine Kw ?_;simp only[go_sem])|refine Kf ?_|(apply Kp<;>intro _<;>try (exfalso;omega))
 ·have e2:decide (r<=2047)=false:=decide_eq_false c2
  by_cases c3:r<=65535
  ·have f3:Xpw .or .u8 224 (IntKind.u8.wrap (r / 4096))=224+r / 4096:=by rw[wr8 (by omega)];exact Jhz (by omega) (by omega)
   have e3:decide (r<=65535)=true:=decide_eq_true c3
   rw[Lib.encodeRuneZ_three (by omega)] at hb
   repeat' first|refine Kn rfl ?_|(refine Kw ?_;simp only[w32,e2,e3,Jh1,Jbw,Wtu,f0,f1,f3,go_sem])|refine Kf ?_|(apply Kp<;>intro _<;>try (exfalso;omega))
   all_goals first|(exfalso;omega)|skip
   all_goals
    refine⟨by simp,by omega,_,hb.symm,Kg ?_⟩
    simp only[go_sem]
    repeat' first|refine Kn rfl ?_|(refine Kw ?_;simp only[go_sem])|refine Kf ?_|(apply Kp<;>intro _<;>try (exfalso;omega))
  ·have f3:Xpw .or .u8 240 (IntKind.u8.wrap (r / 262144))=240+r / 262144:=by rw[wr8 (by omega)];exact Jh0 (by omega) (by omega)
   have e3:decide (r<=65535)=false:=decide_eq_false c3
   have e4:decide (r < 55296)=false:=decide_eq_false (by omega)
   have e5:decide (57343 < r)=true:=decide_eq_true (by omega)
   have e6:decide (r > 65535)=true:=decide_eq_true (by omega)
   have e7:decide (r<=1114111)=true:=decide_eq_true (by omega)
   rw[Lib.encodeRuneZ_four (by omega) (by omega)] at hb
   repeat' first|refine Kn rfl ?_|(refine Kw ?_;simp only[w32,e2,e3,e4,e5,e6,e7,Jh1,Jbw,Jh2,Wtu,f0,f1,f2,f3,go_sem])|refine Kf ?_|(apply Kp<;>intro _<;>try (exfalso;omega))
   all_goals
    refine⟨by simp,by omega,_,hb.symm,Kg ?_⟩
    simp only[go_sem]
    repeat' first|refine Kn rfl ?_|(refine Kw ?_;simp only[go_sem])|refine Kf ?_|(apply Kp<;>intro _<;>try (exfalso;omega))
theorem Xtv (r:Int) (hr:okR r) (ver:Nat) (bs:List UInt8) (hl:bs.length<=100000000) :
  Tri QP gp 136 [.one (.own 0 ver),vr r] [.brow TU ver bs] fun v post=>v=.one (.own 0 (ver+1))/\post=[.brow TU (ver+1) (bs++Lib.encodeRune r)]:=by
 have ho:=hr
 unfold okR at ho
 refine Yvg ?_
 simp only[go_sem]
 have w32:IntKind.u32.wrap r=r:=Ji2 (by omega)
 by_cases c:r<=127
 ·have hb:=X0z r
  have e2:decide (r<=127)=true:=decide_eq_true c
  have w8:IntKind.u8.wrap r=r:=wr8 (by omega)
  rw[Lib.encodeRuneZ_one (by omega) c] at hb
  repeat' first|refine Kn rfl ?_|(refine Kw ?_;simp only[w32,w8,e2,go_sem])|refine Kf ?_|(apply Kp<;>intro _<;>try (exfalso;omega))
  refine⟨by simp,by omega,_,hb.symm,Kg ?_⟩
  simp only[go_sem]
  repeat' first|refine Kn rfl ?_|(refine Kw ?_;simp only[go_sem])|refine Kf ?_|(apply Kp<;>intro _<;>try (exfalso;omega))
 ·have e2:decide (r<=127)=false:=decide_eq_false c
  repeat' first|refine Kn rfl ?_|(refine Kw ?_;simp only[w32,e2,go_sem])|refine Kf ?_|(apply Kp<;>intro _<;>try (exfalso;omega))
  refine Or.inr (Or.inr ⟨[0],.one (.own 0 (ver+1)),[.brow TU (ver+1) (bs++Lib.encodeRune r)],(by simp only[Xay,Xcl,rnV,rnA,Xcx,rn0,Xcw,Xbo,Xcm,rnC,Xak,List.isEmpty_nil,reduceCtorEq,↓reduceIte,Qa,Qb,Qc,Qd,Qe,Qf,Qg,Qh,Qi,Qj,Qk,Ql,Qm,Qn,Qo,Qp,Qq,Qr];simp only[go_sem];exact⟨Wq9,Xrr r hr (by omega) ver bs hl⟩),Kg ?_⟩)
  simp only[go_sem]
  refine Ku 1 ?_
  simp only[go_sem]
  repeat' first|refine Kn rfl ?_|(refine Kw ?_;simp only[go_sem])|refine Kf ?_|(apply Kp<;>intro _<;>try (exfalso;omega))
theorem Ykt:Xaa QP 136=true:=by kernel_rfl
theorem Yw8 {ver:Nat} {bs:List UInt8} {r:Int} (hr:okR r) (hl:bs.length<=100000000):Tri QP gp 97 [.one (.ptr 0 0),vr r] [.bld TB (.own 1 ver),.brow TU ver bs] fun v post =>
  v=.tup [vi (Lib.encodeRune r).length,.one (.d .nilI)]/\post=[.bld TB (.own 1 (ver+1)),.brow TU (ver+1) (bs++Lib.encodeRune r)]:=by
 have hlen:=Lib.encodeRuneZ_length r
 have hle:(Lib.encodeRune r).length=(Lib.encodeRuneZ r).length:=by unfold Lib.encodeRune;simp
 refine Wph ?_
 simp only[go_sem]
 repeat' first|refine Kn rfl ?_|(refine Kw ?_;simp only[go_sem])|refine Kf ?_|apply Kp<;>intro _
 refine Or.inr (Or.inr ⟨[0,1],.tup [],[.cells [.ptr 0 0,.own 1 ver],.brow TU ver bs],(by simp only[Xay,Xcl,rnV,rnA,Xcx,rn0,Xcw,Xbo,Xcm,rnC,Xak,List.isEmpty_nil,reduceCtorEq,↓reduceIte,Qa,Qb,Qc,Qd,Qe,Qf,Qg,Qh,Qi,Qj,Qk,Ql,Qm,Qn,Qo,Qp,Qq,Qr];simp only[go_sem];exact⟨Ykq,Xrq _ _⟩),Kg ?_⟩)
 simp only[go_sem]
 refine Ku 2 ?_
 simp only[go_sem]
 repeat' first|refine Kn rfl ?_|(refine Kw ?_;simp only[go_sem])|refine Kf ?_|apply Kp<;>intro _
 refine Or.inr (Or.inr ⟨[1],.one (.own 0 (ver+1)),[.brow TU (ver+1) (bs++Lib.encodeRune r)],(by simp only[Xay,Xcl,rnV,rnA,Xcx,rn0,Xcw,Xbo,Xcm,rnC,Xak,List.isEmpty_nil,reduceCtorEq,↓reduceIte,Qa,Qb,Qc,Qd,Qe,Qf,Qg,Qh,Qi,Qj,Qk,Ql,Qm,Qn,Qo,Qp,Qq,Qr];simp only[go_sem];exact⟨Ykt,Xtv r hr ver bs hl⟩),Kg ?_⟩)
 simp only[go_sem]
 repeat' first|refine Kn rfl ?_|(refine Kw ?_;simp only[go_sem])|refine Kf ?_|apply Kp<;>intro _
 rw[show (((bs++Lib.encodeRune r).length:Nat):Int) - (bs.length:Int)=((Lib.encodeRune r).length:Int) from by rw[List.length_append];omega]
 refine⟨by rw[hle];simp only[inK,IntKind.min,IntKind.max,IntKind.signed,IntKind.bits];omega,?_⟩
 refine Ku 2 ?_
 simp only[go_sem]
 refine Wxm 0 TB (y:=.own 1 (ver+1)) (by simp only[go_sem]) ?_
 simp only[go_sem]
 repeat' first|refine Kn rfl ?_|(refine Kw ?_;simp only[go_sem])|refine Kf ?_|apply Kp<;>intro _
theorem Xg0:∀ l:List Int,(Xeb l).length<=4*l.length
 | []=>by simp[Xeb]
 | r::l=>by
  have h1:=Xg0 l
  have h2:=(Lib.encodeRuneZ_length r).2
  have h3:(Lib.encodeRune r).length=(Lib.encodeRuneZ r).length:=by unfold Lib.encodeRune;simp
  simp only[Xeb,List.flatMap_cons,List.length_append,List.length_cons] at h1 ⊢
  omega
theorem Yku {l:List Int} {i:Nat} {r:Int} (h:l[i]?=some r):Xeb (l.take i)++Lib.encodeRune r=Xeb (l.take (i+1)):=by
 rw[List.take_succ,h];simp[Xeb]
theorem Wtv (l:List Int) (hr:∀ r∈l,okR r) (hl:l.length<=100) (ver:Nat) (bs:List UInt8) (hb:bs.length<=10000000) :
  Tri QP gp 96 [.one (.d (.sl (Xnr l))),.one (.ptr 0 0)] [.bld TB (.own 1 ver),.brow TU ver bs] fun v post =>
   v=.tup []/\post=[.bld TB (.own 1 (ver+l.length)),.brow TU (ver+l.length) (bs++Xeb l)]:=by
 refine Wpg ?_
 simp only[go_sem]
 repeat' first|refine Kn rfl ?_|(refine Kw ?_;simp only[go_sem])|refine Kf ?_|apply Kp<;>intro _
 have hls:(Xnr l).length=l.length:=by simp[Xnr]
 rw[hls]
 refine Kt (fr 14 [(0,.one (.d (.sl (Xnr l)))),(1,.one (.ptr 0 0)),(5,.one (.d (.sl (Xnr l)))),(6,vi l.length),(7,vi ((0:Nat):Int))]) ?_
 refine Km (fun mz sz=>∃ i:Nat,i<=l.length/\mz=l.length - i/\sz=⟨fr 14 [(0,.one (.d (.sl (Xnr l)))),(1,.one (.ptr 0 0)),(5,.one (.d (.sl (Xnr l)))),(6,vi l.length),(7,vi (i:Int))],[.bld TB (.own 1 (ver+i)),.brow TU (ver+i) (bs++Xeb (l.take i))]⟩) l.length ⟨0,Nat.zero_le _,rfl,by simp[Xeb]⟩ ?_
 rintro _ _ ⟨i,hi,rfl,rfl⟩
 simp only[go_sem]
 by_cases hil:i < l.length
 ·obtain⟨r,hx⟩:=Xaf hil
  have hx':(Xnr l)[i]?=some [.int .i32 r]:=by unfold Xnr;rw[List.getElem?_map,hx];rfl
  have e1:decide ((i:Int) < (l.length:Int))=true:=decide_eq_true (by omega)
  have hlen:=Xg0 (l.take i)
  have hlt:(l.take i).length<=100:=by simp;omega
  repeat' first|refine Kn rfl ?_|(refine Kw ?_;simp only[e1,go_sem])|refine Kf ?_|refine⟨_,⟨Kq _,hx',rfl⟩,Kg ?_⟩|apply Kp<;>intro _
  refine Or.inr (Or.inr ⟨[0,1],.tup [vi (Lib.encodeRune r).length,.one (.d .nilI)],[.bld TB (.own 1 (ver+i+1)),.brow TU (ver+i+1) ((bs++Xeb (l.take i))++Lib.encodeRune r)],(by simp only[Xay,Xcl,rnV,rnA,Xcx,rn0,Xcw,Xbo,Xcm,rnC,Xak,List.isEmpty_nil,reduceCtorEq,↓reduceIte,Qa,Qb,Qc,Qd,Qe,Qf,Qg,Qh,Qi,Qj,Qk,Ql,Qm,Qn,Qo,Qp,Qq,Qr];simp only[go_sem];exact⟨W9h,Yw8 (hr r (List.mem_of_getElem? hx)) (by simp only[List.length_append];omega)⟩),Kg ?_⟩)
  simp only[go_sem]
  rw[List.append_assoc,Yku hx]
  refine Ku 2 ?_
  simp only[go_sem]
  repeat' first|refine Kn rfl ?_|(refine Kw ?_;simp only[go_sem])|refine Kf ?_|apply Kp<;>intro _
  refine⟨Xai hil (by unfold lenMax;omega),?_⟩
  refine Kt (fr 14 [(0,.one (.d (.sl (Xnr l)))),(1,.one (.ptr 0 0)),(5,.one (.d (.sl (Xnr l)))),(6,vi l.length),(7,vi (i+1))]) ?_
  exact Kl ⟨l.length - (i+1),by omega,i+1,by omega,rfl,rfl⟩
 ·obtain rfl:i=l.length:=by omega
  have e1:decide ((l.length:Int) < (l.length:Int))=false:=decide_eq_false (by omega)
  rw[List.take_of_length_le (Nat.le_refl _)]
  repeat' first|refine Kn rfl ?_|(refine Kw ?_;simp only[e1,go_sem])|refine Kf ?_|apply Kp<;>intro _
def Xrs (r:Int):Option V:=if r=10 then some (vr 110) else if r=9 then some (vr 116) else if r=13 then some (vr 114) else none
theorem X2u (r:Int):Xdz false [.i] [(vr 10,vr 110),(vr 9,vr 116),(vr 13,vr 114)] (vr r)=some (Xrs r):=by
 unfold Xrs
 simp only[Xdz,eqV,Xcz,eqL,if_true,Bool.false_eq_true,if_false,Bool.and_true]
 by_cases h1:r=10
 ·subst h1;rfl
 ·by_cases h2:r=9
  ·subst h2;rfl
  ·by_cases h3:r=13
   ·subst h3;rfl
   ·have a1:(r==10)=false:=beq_eq_false_iff_ne.2 h1
    have a2:(r==9)=false:=beq_eq_false_iff_ne.2 h2
    have a3:(r==13)=false:=beq_eq_false_iff_ne.2 h3
    rw[a1,a2,a3,if_neg h1,if_neg h2,if_neg h3]
abbrev Jej:ByteArray:=ByteArray.mk #[48,49,50,51,52,53,54,55,56,57,97,98,99,100,101,102]
theorem Wtw:∀ m:Fin 16,(Jej[(m:Nat)]?).map (fun b:UInt8=>((b.toNat:Nat):Int))=some (Xpu ((m:Nat):Int)):=by decide
theorem Wtx (m:Fin 16):∃ b:UInt8,Jej[(m:Nat)]?=some b/\((b.toNat:Nat):Int)=Xpu ((m:Nat):Int):=by
 have:=Wtw m
 cases e:Jej[(m:Nat)]? with
 | none=>rw[e] at this;cases this
 | some b=>rw[e] at this;exact⟨b,rfl,Option.some.inj this⟩
theorem Y7e {n:Int} (h0:0<=n) (h1:n < 16):∃ (m:Nat) (b:UInt8),n=m/\Jej[m]?=some b/\((b.toNat:Nat):Int)=Xpu n/\inK .i32 (Xpu n):=by
 obtain⟨m,rfl⟩:=Int.eq_ofNat_of_zero_le h0
 obtain⟨b,h2,h3⟩:=Wtx ⟨m,by omega⟩
 refine⟨m,b,rfl,h2,h3,?_⟩
 unfold Xpu
 simp only[inK,IntKind.min,IntKind.max,IntKind.signed,IntKind.bits]
 split <;> omega
set_option maxRecDepth 10000 in
theorem Ykv:∀ n:Fin 128,Xpw .and .i32 ((n:Nat):Int) 15=((n:Nat):Int) % 16:=by decide
theorem Jh3 {r:Int} (h0:0<=r) (h1:r < 128):Xpw .and .i32 r 15=r % 16:=by
 obtain⟨m,rfl⟩:=Int.eq_ofNat_of_zero_le h0
 exact Ykv ⟨m,by omega⟩
theorem Jjz (r:Int):r.fdiv (2 ^ min 4 32)=r / 16:=by rw[Int.fdiv_eq_ediv_of_nonneg _ (by decide)];rfl
theorem Ykw (r:Int):(pcR r).length<=4:=by unfold pcR;(repeat' split) <;> simp
theorem Wty {s:ByteArray} {f p:Nat} (hp:p < s.size) (hr:Xbh s (f+1) p=true):sgF s (f+1) p=((Utf8.decode s p).1:Int)::sgF s f (p+(Utf8.decode s p).2)/\okR ((Utf8.decode s p).1:Int)/\Xbh s f (p+(Utf8.decode s p).2)=true:=by
 simp only[Xbh,if_pos hp] at hr
 split at hr
 ·cases hr
 ·rename_i hv
  exact⟨by simp only[sgF,if_pos hp],Jbt hp hv,hr⟩
def X00 (s:ByteArray) (p:Nat) (done:List Int):Prop:=∃ f:Nat,s.size - p<=f/\Xbh s f p=true/\done++(sgF s f p).flatMap pcR=(sgS s).flatMap pcR/\done.length<=4*p/\p<=s.size
theorem Ykx {s:ByteArray} {p:Nat} {done:List Int} (h:X00 s p done) (hp:p < s.size) (hw:p+(Utf8.decode s p).2<=s.size):okR ((Utf8.decode s p).1:Int)/\X00 s (p+(Utf8.decode s p).2) (done++pcR ((Utf8.decode s p).1:Int)):=by
 obtain⟨f,h1,h2,h3,h4,h5⟩:=h
 obtain⟨f,rfl⟩:∃ g,f=g+1:=⟨f - 1,by omega⟩
 obtain⟨k1,k2,k3⟩:=Wty hp h2
 have w1:=Lib.decode_width_pos s p hp
 have hl:=Ykw ((Utf8.decode s p).1:Int)
 refine⟨k2,f,by omega,k3,?_,by rw[List.length_append];omega,hw⟩
 rw[k1,List.flatMap_cons,<- List.append_assoc] at h3
 exact h3
theorem Yw9 {s:ByteArray} {p:Nat} {done:List Int} (h:X00 s p done) (hp:¬ p < s.size):done=(sgS s).flatMap pcR:=by
 obtain⟨f,h1,h2,h3,h4,h5⟩:=h
 rw[Jbs hp] at h3
 simpa using h3
theorem Wtz (hU:X2g gp) (s:ByteArray) (hr:Xas s=true) (hs:s.size<=100000):Does QP gp 66 [vs s] (.tup [vs ⟨(X2p s).toArray⟩,vi 0]):=by
 refine W8k ?_
 have cr:=Xlr hU s
 rw[hr] at cr
 have k34:okR 34:=by unfold okR;omega
 have k92:okR 92:=by unfold okR;omega
 simp only[go_sem]
 repeat' first|refine Kn rfl ?_|(refine Kw ?_;simp only[go_sem])|refine Kf ?_|refine⟨_,cr,Kg ?_⟩|refine⟨_,⟨cr,rfl⟩,Kg ?_⟩|(apply Kp<;>intro _<;>try (exfalso;omega))
 refine Or.inr (Or.inr ⟨[0,1],.tup [],[.bld TB (.own 1 1),.brow TU 1 (Xeb [34])],(by simp only[Xay,Xcl,rnV,rnA,Xcx,rn0,Xcw,Xbo,Xcm,rnC,Xak,List.isEmpty_nil,reduceCtorEq,↓reduceIte,Qa,Qb,Qc,Qd,Qe,Qf,Qg,Qh,Qi,Qj,Qk,Ql,Qm,Qn,Qo,Qp,Qq,Qr];simp only[go_sem];exact⟨Xnl,Wtv [34] (by simpa using k34) (by simp) 0 [] (by simp)⟩),Kg ?_⟩)
 simp only[go_sem]
 refine Ku 2 ?_
 simp only[go_sem]
 repeat' first|refine Kn rfl ?_|(refine Kw ?_;simp only[go_sem])|refine Kf ?_|(apply Kp<;>intro _<;>try (exfalso;omega))
 refine Xha 23 ?_
 simp only[go_sem]
 refine Kt (fr 64 [(0,vs s),(4,.one (.ptr 0 0)),(5,.one (.clo (.func 96) [.ptr 0 0])),(18,.one (.own 2 0)),(23,.one .un)]) ?_
 refine Km (fun mz sz=>∃ (p:Nat) (done:List Int),mz=s.size - p/\X00 s p done/\sz=⟨fr 64 [(0,vs s),(4,.one (.ptr 0 0)),(5,.one (.clo (.func 96) [.ptr 0 0])),(18,.one (.own 2 0)),(23,.one .un)],[.bld TB (.own 1 (1+done.length)),.brow TU (1+done.length) (Xeb (34::done)),.siter s p]⟩) s.size ⟨0,[],rfl,⟨s.size,by omega,hr,rfl,by simp,by omega⟩,rfl⟩ ?_
 rintro _ _ ⟨p,done,rfl,hd,rfl⟩
 simp only[go_sem]
 by_cases hp:p < s.size
 ·have w1:=Lib.decode_width_pos s p hp
  have w2:p+(Utf8.decode s p).2<=s.size:=by
   have:=Lib.decodeL_le (s.data.toList.drop p) (Xjp hp)
   rw[Lib.decodeL_drop] at this
   simp at this
   omega
  obtain⟨ok,hd'⟩:=Ykx hd hp w2
  have hdl:done.length<=400000:=by
   obtain⟨_,_,_,_,h4,h5⟩:=hd
   omega
  have hel:=Xg0 (34::done)
  simp only[List.length_cons] at hel
  generalize hrr:((Utf8.decode s p).1:Int)=r at *
  generalize hww:(Utf8.decode s p).2=w at *
  have hsf:=X2u r
  have c1:=Jhx (gp:=gp) r [34,92] (by simp)
  have c2:=Wts (gp:=gp) r
  have hcall:∀ (t:List Int),pcR r=t->Tri QP gp 96 [.one (.d (.sl (Xnr t))),.one (.ptr 0 0)] [.bld TB (.own 1 (1+done.length)),.brow TU (1+done.length) (Xeb (34::done))] fun v post =>
    v=.tup []/\post=[.bld TB (.own 1 (1+(done++pcR r).length)),.brow TU (1+(done++pcR r).length) (Xeb (34::(done++pcR r)))]:=fun t ht=>by
   subst ht
   have:=Wtv (gp:=gp) (pcR r) (Jhu ok) (by have:=Ykw r;omega) (1+done.length) (Xeb (34::done)) (by omega)
   rw[List.length_append,<- Nat.add_assoc]
   have e:Xeb (34::(done++pcR r))=Xeb (34::done)++Xeb (pcR r):=by simp[Xeb]
   rw[e];exact this
  by_cases a1:r=10\/r=9\/r=13
  ·have hs1:∃ x,Xrs r=some (vr x)/\pcR r=[92,x]:=by
    rcases a1 with rfl|rfl|rfl <;> exact⟨_,rfl,rfl⟩
   obtain⟨x,hx1,hx2⟩:=hs1
   rw[hx1] at hsf
   repeat' first|refine Kn rfl ?_|(refine Kw ?_;simp only[hrr,hww,go_sem])|refine Kf ?_|(apply Kp<;>intro _<;>try (exfalso;omega))
   refine Or.inr (⟨[],.one (.own 0 0),[Xie],(by simp only[Xay,Xcl,rnV,rnA,Xcx,rn0,Xcw,Xbo,Xcm,rnC,Xak,List.isEmpty_nil,reduceCtorEq,↓reduceIte,Qa,Qb,Qc,Qd,Qe,Qf,Qg,Qh,Qi,Qj,Qk,Ql,Qm,Qn,Qo,Qp,Qq,Qr];simp only[go_sem];exact⟨Xy8,Xpj⟩),Kg ?_⟩)
   simp only[Xie,go_sem]
   repeat' first|refine Kn rfl ?_|(refine Kw ?_;simp only[go_sem])|refine Kf ?_|refine⟨_,⟨hsf,rfl⟩,Kg ?_⟩|(apply Kp<;>intro _<;>try (exfalso;omega))
   refine Or.inr (Or.inr ⟨[0,1],.tup [],[.bld TB (.own 1 (1+(done++pcR r).length)),.brow TU (1+(done++pcR r).length) (Xeb (34::(done++pcR r)))],(by simp only[Xay,Xcl,rnV,rnA,Xcx,rn0,Xcw,Xbo,Xcm,rnC,Xak,List.isEmpty_nil,reduceCtorEq,↓reduceIte,Qa,Qb,Qc,Qd,Qe,Qf,Qg,Qh,Qi,Qj,Qk,Ql,Qm,Qn,Qo,Qp,Qq,Qr];simp only[go_sem];exact⟨Xnl,hcall [92,x] hx2⟩),Kg ?_⟩)
   simp only[go_sem]
   repeat' first|refine Kn rfl ?_|(refine Kw ?_;simp only[hrr,hww,go_sem])|refine Kf ?_|(apply Kp<;>intro _<;>try (exfalso;omega))
   refine Kt (fr 64 [(0,vs s),(4,.one (.ptr 0 0)),(5,.one (.clo (.func 96) [.ptr 0 0])),(18,.one (.own 2 0))]) ?_
   refine Ku 3 ?_
   simp only[go_sem]
   refine Xha 23 ?_
   simp only[go_sem]
   exact Kl ⟨s.size - (p+w),by omega,p+w,done++pcR r,rfl,hd',rfl⟩
  ·have hs0:Xrs r=none:=by unfold Xrs;rw[if_neg (by omega),if_neg (by omega),if_neg (by omega)]
   have hp0:pcR r=if r=34\/r=92 then [92,r] else if 32<=r/\r≠127 then [r] else [92,120,Xpu (r / 16),Xpu (r % 16)]:=by
    unfold pcR;rw[if_neg (by omega),if_neg (by omega),if_neg (by omega)]
   rw[hs0] at hsf
   by_cases a2:r=34\/r=92
   ·rw[if_pos a2] at hp0
    have m2:decide (r∈([34,92]:List Int))=true:=decide_eq_true (by simpa using a2)
    rw[m2] at c1
    repeat' first|refine Kn rfl ?_|(refine Kw ?_;simp only[hrr,hww,go_sem])|refine Kf ?_|(apply Kp<;>intro _<;>try (exfalso;omega))
    refine Or.inr (⟨[],.one (.own 0 0),[Xie],(by simp only[Xay,Xcl,rnV,rnA,Xcx,rn0,Xcw,Xbo,Xcm,rnC,Xak,List.isEmpty_nil,reduceCtorEq,↓reduceIte,Qa,Qb,Qc,Qd,Qe,Qf,Qg,Qh,Qi,Qj,Qk,Ql,Qm,Qn,Qo,Qp,Qq,Qr];simp only[go_sem];exact⟨Xy8,Xpj⟩),Kg ?_⟩)
    simp only[Xie,go_sem]
    repeat' first|refine Kn rfl ?_|(refine Kw ?_;simp only[go_sem])|refine Kf ?_|refine⟨_,c1,Kg ?_⟩|refine⟨_,⟨c1,rfl⟩,Kg ?_⟩|refine⟨_,⟨hsf,rfl⟩,Kg ?_⟩|(apply Kp<;>intro _<;>try (exfalso;omega))
    refine Or.inr (Or.inr ⟨[0,1],.tup [],[.bld TB (.own 1 (1+(done++pcR r).length)),.brow TU (1+(done++pcR r).length) (Xeb (34::(done++pcR r)))],(by simp only[Xay,Xcl,rnV,rnA,Xcx,rn0,Xcw,Xbo,Xcm,rnC,Xak,List.isEmpty_nil,reduceCtorEq,↓reduceIte,Qa,Qb,Qc,Qd,Qe,Qf,Qg,Qh,Qi,Qj,Qk,Ql,Qm,Qn,Qo,Qp,Qq,Qr];simp only[go_sem];exact⟨Xnl,hcall [92,r] hp0⟩),Kg ?_⟩)
    simp only[go_sem]
    repeat' first|refine Kn rfl ?_|(refine Kw ?_;simp only[hrr,hww,go_sem])|refine Kf ?_|(apply Kp<;>intro _<;>try (exfalso;omega))
    refine Kt (fr 64 [(0,vs s),(4,.one (.ptr 0 0)),(5,.one (.clo (.func 96) [.ptr 0 0])),(18,.one (.own 2 0))]) ?_
    refine Ku 3 ?_
    simp only[go_sem]
    refine Xha 23 ?_
    simp only[go_sem]
    exact Kl ⟨s.size - (p+w),by omega,p+w,done++pcR r,rfl,hd',rfl⟩
   ·rw[if_neg a2] at hp0
    have m2:decide (r∈([34,92]:List Int))=false:=decide_eq_false (by simpa using a2)
    rw[m2] at c1
    by_cases a3:32<=r/\r≠127
    ·rw[if_pos a3] at hp0
     have m3:(decide (32<=r) && (r != 127))=true:=by simp[a3]
     rw[m3] at c2
     repeat' first|refine Kn rfl ?_|(refine Kw ?_;simp only[hrr,hww,go_sem])|refine Kf ?_|(apply Kp<;>intro _<;>try (exfalso;omega))
     refine Or.inr (⟨[],.one (.own 0 0),[Xie],(by simp only[Xay,Xcl,rnV,rnA,Xcx,rn0,Xcw,Xbo,Xcm,rnC,Xak,List.isEmpty_nil,reduceCtorEq,↓reduceIte,Qa,Qb,Qc,Qd,Qe,Qf,Qg,Qh,Qi,Qj,Qk,Ql,Qm,Qn,Qo,Qp,Qq,Qr];simp only[go_sem];exact⟨Xy8,Xpj⟩),Kg ?_⟩)
     simp only[Xie,go_sem]
     repeat' first|refine Kn rfl ?_|(refine Kw ?_;simp only[go_sem])|refine Kf ?_|refine⟨_,c1,Kg ?_⟩|refine⟨_,⟨c1,rfl⟩,Kg ?_⟩|refine⟨_,c2,Kg ?_⟩|refine⟨_,⟨c2,rfl⟩,Kg ?_⟩|refine⟨_,⟨hsf,rfl⟩,Kg ?_⟩|(apply Kp<;>intro _<;>try (exfalso;omega))
     refine Or.inr (Or.inr ⟨[0,1],.tup [],[.bld TB (.own 1 (1+(done++pcR r).length)),.brow TU (1+(done++pcR r).length) (Xeb (34::(done++pcR r)))],(by simp only[Xay,Xcl,rnV,rnA,Xcx,rn0,Xcw,Xbo,Xcm,rnC,Xak,List.isEmpty_nil,reduceCtorEq,↓reduceIte,Qa,Qb,Qc,Qd,Qe,Qf,Qg,Qh,Qi,Qj,Qk,Ql,Qm,Qn,Qo,Qp,Qq,Qr];simp only[go_sem];exact⟨Xnl,hcall [r] hp0⟩),Kg ?_⟩)
     simp only[go_sem]
     repeat' first|refine Kn rfl ?_|(refine Kw ?_;simp only[hrr,hww,go_sem])|refine Kf ?_|(apply Kp<;>intro _<;>try (exfalso;omega))
     refine Kt (fr 64 [(0,vs s),(4,.one (.ptr 0 0)),(5,.one (.clo (.func 96) [.ptr 0 0])),(18,.one (.own 2 0))]) ?_
     refine Ku 3 ?_
     simp only[go_sem]
     refine Xha 23 ?_
     simp only[go_sem]
     exact Kl ⟨s.size - (p+w),by omega,p+w,done++pcR r,rfl,hd',rfl⟩
    ·rw[if_neg a3] at hp0
     have m3:(decide (32<=r) && (r != 127))=false:=by
      by_cases q:32<=r
      ·have:r=127:=Classical.byContradiction fun e=>a3 ⟨q,e⟩
       simp[this]
      ·simp[q]
     rw[m3] at c2
     have hr0:=ok.1
     have hr1:r < 128:=by omega
     have k15:=Jh3 hr0 hr1
     obtain⟨m1,b1,n1,d1,v1,i1⟩:=Y7e (n:=r / 16) (by omega) (by omega)
     obtain⟨m2',b2,n2,d2,v2,i2⟩:=Y7e (n:=r % 16) (by omega) (by omega)
     repeat' first|refine Kn rfl ?_|(refine Kw ?_;simp only[hrr,hww,go_sem])|refine Kf ?_|(apply Kp<;>intro _<;>try (exfalso;omega))
     refine Or.inr (⟨[],.one (.own 0 0),[Xie],(by simp only[Xay,Xcl,rnV,rnA,Xcx,rn0,Xcw,Xbo,Xcm,rnC,Xak,List.isEmpty_nil,reduceCtorEq,↓reduceIte,Qa,Qb,Qc,Qd,Qe,Qf,Qg,Qh,Qi,Qj,Qk,Ql,Qm,Qn,Qo,Qp,Qq,Qr];simp only[go_sem];exact⟨Xy8,Xpj⟩),Kg ?_⟩)
     simp only[Xie,go_sem]
     repeat' first|refine Kn rfl ?_|(refine Kw ?_;simp only[Jjz,k15,v1,v2,go_sem])|refine Kf ?_|refine⟨_,c1,Kg ?_⟩|refine⟨_,⟨c1,rfl⟩,Kg ?_⟩|refine⟨_,c2,Kg ?_⟩|refine⟨_,⟨c2,rfl⟩,Kg ?_⟩|refine⟨_,⟨hsf,rfl⟩,Kg ?_⟩|refine⟨m1,b1,⟨n1,d1⟩,Kg ?_⟩|refine⟨m2',b2,⟨n2,d2⟩,Kg ?_⟩|refine⟨i1,?_⟩|refine⟨i2,?_⟩|(apply Kp<;>intro _<;>try (exfalso;omega))
     refine Or.inr (Or.inr ⟨[0,1],.tup [],[.bld TB (.own 1 (1+(done++pcR r).length)),.brow TU (1+(done++pcR r).length) (Xeb (34::(done++pcR r)))],(by simp only[Xay,Xcl,rnV,rnA,Xcx,rn0,Xcw,Xbo,Xcm,rnC,Xak,List.isEmpty_nil,reduceCtorEq,↓reduceIte,Qa,Qb,Qc,Qd,Qe,Qf,Qg,Qh,Qi,Qj,Qk,Ql,Qm,Qn,Qo,Qp,Qq,Qr];simp only[go_sem];exact⟨Xnl,hcall [92,120,Xpu (r / 16),Xpu (r % 16)] hp0⟩),Kg ?_⟩)
     simp only[go_sem]
     repeat' first|refine Kn rfl ?_|(refine Kw ?_;simp only[hrr,hww,go_sem])|refine Kf ?_|(apply Kp<;>intro _<;>try (exfalso;omega))
     refine Kt (fr 64 [(0,vs s),(4,.one (.ptr 0 0)),(5,.one (.clo (.func 96) [.ptr 0 0])),(18,.one (.own 2 0))]) ?_
     refine Ku 3 ?_
     simp only[go_sem]
     refine Xha 23 ?_
     simp only[go_sem]
     exact Kl ⟨s.size - (p+w),by omega,p+w,done++pcR r,rfl,hd',rfl⟩
 ·have he:=Yw9 hd hp
  have hl:=Xg0 (34::done)
  have hdl:done.length<=400000:=by
   obtain⟨_,_,_,_,h4,h5⟩:=hd
   omega
  simp only[List.length_cons] at hl
  have e9:Xeb (34::done)++Xeb [34]=X2p s:=by
   unfold X2p
   rw[<- he]
   have h34:Lib.encodeRune 34=[34]:=by decide
   simp[Xeb,h34]
  repeat' first|refine Kn rfl ?_|(refine Kw ?_;simp only[go_sem])|refine Kf ?_|(apply Kp<;>intro _<;>try (exfalso;omega))
  refine Or.inr (Or.inr ⟨[0,1],.tup [],[.bld TB (.own 1 (1+done.length+1)),.brow TU (1+done.length+1) (Xeb (34::done)++Xeb [34])],(by simp only[Xay,Xcl,rnV,rnA,Xcx,rn0,Xcw,Xbo,Xcm,rnC,Xak,List.isEmpty_nil,reduceCtorEq,↓reduceIte,Qa,Qb,Qc,Qd,Qe,Qf,Qg,Qh,Qi,Qj,Qk,Ql,Qm,Qn,Qo,Qp,Qq,Qr];simp only[go_sem];exact⟨Xnl,Wtv [34] (by simpa using k34) (by simp) _ _ (by omega)⟩),Kg ?_⟩)
  simp only[go_sem]
  rw[e9]
  refine Kt (fr 64 [(4,.one (.ptr 0 0)),(5,.one (.clo (.func 96) [.ptr 0 0]))]) ?_
  refine Ku 2 ?_
  simp only[go_sem]
  repeat' first|refine Kn rfl ?_|(refine Kw ?_;simp only[go_sem])|refine Kf ?_|(apply Kp<;>intro _<;>try (exfalso;omega))
  refine Or.inr (Or.inr ⟨[0,1],vs ⟨(X2p s).toArray⟩,[.dead,.dead],(by simp only[Xay,Xcl,rnV,rnA,Xcx,rn0,Xcw,Xbo,Xcm,rnC,Xak,List.isEmpty_nil,reduceCtorEq,↓reduceIte,Qa,Qb,Qc,Qd,Qe,Qf,Qg,Qh,Qi,Qj,Qk,Ql,Qm,Qn,Qo,Qp,Qq,Qr];simp only[go_sem];exact⟨by kernel_rfl,Xnq⟩),Kg ?_⟩)
  simp only[go_sem]
  repeat' first|refine Kn rfl ?_|(refine Kw ?_;simp only[go_sem])|refine Kf ?_|(apply Kp<;>intro _<;>try (exfalso;omega))
  all_goals trace_state
end Go.Fw.L07
namespace Go.Fw.L07
open Go Go.Fw Go.Shelf
open Nat renaming reduceAdd->Qa,reduceSub->Qb,reduceMul->Qc,reduceLeDiff->Qd,reduceLT->Qe,reduceEqDiff->Qf
open Int renaming reduceToNat->Qg,reduceLT->Qh,reduceLE->Qi,reduceGT->Qj,reduceGE->Qk,reduceEq->Ql,reduceNe->Qm,reduceBEq->Qn,reduceBNe->Qo,reduceAdd->Qp,reduceSub->Qq,reduceNeg->Qr
set_option maxRecDepth 4000
variable {gp:Heap}
def Wt0:Ren:=⟨fun|129=>181|171=>65|243=>95|246=>135|283=>160|284=>161|285=>162|286=>163|317=>180|318=>182|319=>183|320=>184|337=>199|338=>200|n=>n,
 fun|0=>0|2=>2|3=>3|4=>4|5=>5|9=>9|20=>20|37=>54|46=>160|51=>247|53=>242|171=>241|173=>245|212=>263|213=>264|232=>286|233=>287|n=>n,
 fun|17=>3|18=>5|19=>6|n=>n⟩
theorem Yxa:Go.Proofs.LaysM.n171 Go.Proofs.Tryz.prog Wt0:={
 mixed:=by kernel_rfl
 f129:=by kernel_rfl
 f171:=by kernel_rfl
 f243:=by kernel_rfl
 f246:=by kernel_rfl
 f283:=by kernel_rfl
 f284:=by kernel_rfl
 f285:=by kernel_rfl
 f286:=by kernel_rfl
 f317:=by kernel_rfl
 f318:=by kernel_rfl
 f319:=by kernel_rfl
 f320:=by kernel_rfl
 f337:=by kernel_rfl
 f338:=by kernel_rfl
 t0:=by kernel_rfl
 a0:=fun w=>by kernel_rfl
 z0:=fun w=>by kernel_rfl
 v0:=fun w=>by kernel_rfl
 t2:=by kernel_rfl
 a2:=fun w=>by kernel_rfl
 z2:=fun w=>by kernel_rfl
 v2:=fun w=>by kernel_rfl
 t3:=by kernel_rfl
 a3:=fun w=>by kernel_rfl
 z3:=fun w=>by kernel_rfl
 v3:=fun w=>by kernel_rfl
 t4:=by kernel_rfl
 a4:=fun w=>by kernel_rfl
 z4:=fun w=>by kernel_rfl
 v4:=fun w=>by kernel_rfl
 t5:=by kernel_rfl
 a5:=fun w=>by kernel_rfl
 z5:=fun w=>by kernel_rfl
 v5:=fun w=>by kernel_rfl
 t9:=by kernel_rfl
 a9:=fun w=>by kernel_rfl
 z9:=fun w=>by kernel_rfl
 v9:=fun w=>by kernel_rfl
 t20:=by kernel_rfl
 a20:=fun w=>by kernel_rfl
 z20:=fun w=>by kernel_rfl
 v20:=fun w=>by kernel_rfl
 t37:=by kernel_rfl
 a37:=fun w=>by kernel_rfl
 z37:=fun w=>by kernel_rfl
 v37:=fun w=>by kernel_rfl
 t46:=by kernel_rfl
 a46:=fun w=>by kernel_rfl
 z46:=fun w=>by kernel_rfl
 v46:=fun w=>by kernel_rfl
 t51:=by kernel_rfl
 a51:=fun w=>by kernel_rfl
 z51:=fun w=>by kernel_rfl
 v51:=fun w=>by kernel_rfl
 t53:=by kernel_rfl
 a53:=fun w=>by kernel_rfl
 z53:=fun w=>by kernel_rfl
 v53:=fun w=>by kernel_rfl
 t171:=by kernel_rfl
 a171:=fun w=>by kernel_rfl
 z171:=fun w=>by kernel_rfl
 v171:=fun w=>by kernel_rfl
 t173:=by kernel_rfl
 a173:=fun w=>by kernel_rfl
 z173:=fun w=>by kernel_rfl
 v173:=fun w=>by kernel_rfl
 t212:=by kernel_rfl
 a212:=fun w=>by kernel_rfl
 z212:=fun w=>by kernel_rfl
 v212:=fun w=>by kernel_rfl
 t213:=by kernel_rfl
 a213:=fun w=>by kernel_rfl
 z213:=fun w=>by kernel_rfl
 t232:=by kernel_rfl
 a232:=fun w=>by kernel_rfl
 z232:=fun w=>by kernel_rfl
 v232:=fun w=>by kernel_rfl
 t233:=by kernel_rfl
 a233:=fun w=>by kernel_rfl
 z233:=fun w=>by kernel_rfl
 v233:=fun w=>by kernel_rfl
 g17:=by kernel_rfl
 g18:=by kernel_rfl
 g19:=by kernel_rfl
 i0:=by kernel_rfl
 i2:=by kernel_rfl
 i3:=by kernel_rfl
 i4:=by kernel_rfl
 i5:=by kernel_rfl
 i9:=by kernel_rfl
 i20:=by kernel_rfl
 i37:=by kernel_rfl
 i46:=by kernel_rfl
 i51:=by kernel_rfl
 i53:=by kernel_rfl
 i171:=by kernel_rfl
 i173:=by kernel_rfl
 i212:=by kernel_rfl
 i232:=by kernel_rfl
 i233:=by kernel_rfl
 m17:=by kernel_rfl
 m18:=by kernel_rfl
 m19:=by kernel_rfl
}
def X2v (gp : Heap) : Prop := ∀ H w, Heap.Le gp H -> Xci w H -> Lib.TabIs Go.Proofs.Tryz.prog w "internal/strconv.uint64pow10" .u64 Lib.pow10Tab
theorem Yky (hP:X2v gp) (n:Int) (h0:-9223372036854775808<=n) (h1:n<=9223372036854775807):Does Go.Proofs.Tryz.prog gp 65 [vi n] (vs ⟨(Lib.itoa n).toArray⟩):=by
 refine⟨by kernel_rfl,?_⟩
 intro H w an F us hgp hmod hanc hown hF hdj hargs
 obtain⟨u,rfl,hu⟩:∃ u,us=[u]/\Den H (.int .i64 n) u:=by
  cases us with
  | nil=>exact hargs.elim
  | cons u us=>cases us with
   | nil=>exact⟨u,rfl,hargs.1⟩
   | cons _ _=>exact hargs.2.elim
 cases hu
 have hc:=Go.Proofs.Any.strconv_Itoa Yxa n h0 h1 w (hP H w hgp hmod)
 intro cs
 obtain⟨e,w',fr,⟨rfl,k,os,rfl⟩,h2,h3,h4⟩:=hc cs
 have hblk:∀ b,b < w.heap.size->(Go.Sort.grow (w.drewN k) os).heap[b]?=w.heap[b]?:=fun b hb=>by
  show (w.heap++os)[b]?=_
  rw[Array.getElem?_append,if_pos hb]
 refine⟨_,Go.Sort.grow (w.drewN k) os,fr,⟨_,_,[],H,fun _=>none,fun _ _=>False,rfl,⟨rfl,rfl⟩,⟨rfl,rfl,rfl,by simp[Go.Sort.grow,World.drewN],fun b hlt _=>hblk b hlt⟩,Heap.Le.refl _,fun b o hbo=>?_,fun b o hbo=>.inl hbo,⟨fun i p hp=>?_⟩,by simp,by simp,by simp,by simp,Den.str _⟩,h2,h3,h4⟩
 ·have:=hmod b o hbo
  exact (hblk b (Array.getElem?_eq_some_iff.1 this).1).trans this
 ·have:=(hanc i).1 ⟨p,hp⟩;simp at this
end Go.Fw.L07
namespace Go.Fw.L07
open Go Go.Fw
open Go.Fw.Sh renaming intro->Kg
open Go.Fw renaming Xd2->Kf,Gx->Kn
open Go.Fw renaming Xdt->Kw, Xbs->Kw, Xbw->Kw, Xby->Kw, Xbz->Kw, Xhh->Kw, Xd3->Kw
open Go.Fw.Sh renaming intro->Kf
open And renaming intro->Kp
open Go.Proofs.Tryz renaming prog->QP
open Nat renaming reduceAdd->Qa,reduceSub->Qb,reduceMul->Qc,reduceLeDiff->Qd,reduceLT->Qe,reduceEqDiff->Qf
open Int renaming reduceToNat->Qg,reduceLT->Qh,reduceLE->Qi,reduceGT->Qj,reduceGE->Qk,reduceEq->Ql,reduceNe->Qm,reduceBEq->Qn,reduceBNe->Qo,reduceAdd->Qp,reduceSub->Qq,reduceNeg->Qr
set_option maxRecDepth 4000
variable {gp:Heap}
def bT (l:List UInt8):ByteArray:=⟨l.toArray⟩
theorem Xl7 (l m:List UInt8):bT l++bT m=bT (l++m):=by
 unfold bT
 apply ByteArray.ext
 simp
theorem Yxb (b:Bool):Yw6 b=bT (X2q b):=by cases b <;> rfl
theorem Jh4 (x:Sc):Does QP gp 36 [x.v] (vs (bT [110,117,108,108])):=by
 refine W7w ?_
 simp only[go_sem]
 repeat' first|refine Kn rfl ?_|(refine Kw ?_;simp only[go_sem])|refine Kf ?_|apply Kp<;>intro _
 rfl
theorem Jbx (x:Sc):Does QP gp 37 [x.v] (vs (bT (X2q (decide (x.n=1))))):=by
 refine W70 ?_
 simp only[go_sem]
 have c1:=Jjy (gp:=gp) (x.n==1)
 have e:Yw6 (x.n==1)=bT (X2q (decide (x.n=1))):=by rw[Yxb];rfl
 rw[e] at c1
 repeat' first|refine Kn rfl ?_|(refine Kw ?_;simp only[go_sem])|refine Kf ?_|refine⟨_,c1,Kg ?_⟩|refine⟨_,⟨c1,rfl⟩,Kg ?_⟩|apply Kp<;>intro _
theorem Wt1 (hP:X2v gp) (x:Sc) (h0:-9223372036854775808<=x.n) (h1:x.n<=9223372036854775807):Does QP gp 38 [x.v] (vs (bT (Lib.itoa x.n))):=by
 refine W74 ?_
 simp only[go_sem]
 have c1:=Yky hP x.n h0 h1
 repeat' first|refine Kn rfl ?_|(refine Kw ?_;simp only[go_sem])|refine Kf ?_|refine⟨_,c1,Kg ?_⟩|refine⟨_,⟨c1,rfl⟩,Kg ?_⟩|apply Kp<;>intro _
 rfl
theorem Jh5 (hU:X2g gp) (x:Sc) (hr:Xas x.s=true) (hs:x.s.size<=100000):Does QP gp 39 [x.v] (vs (bT (X2p x.s))):=by
 refine W79 ?_
 simp only[go_sem]
 have c1:=Wtz hU x.s hr hs
 repeat' first|refine Kn rfl ?_|(refine Kw ?_;simp only[go_sem])|refine Kf ?_|refine⟨_,c1,Kg ?_⟩|refine⟨_,⟨c1,rfl⟩,Kg ?_⟩|apply Kp<;>intro _
 rfl
theorem Y7f (hU:X2g gp) (hP:X2v gp) (x:Sc) (hr:prR Xas x=true) (hs:x.short):Does QP gp 19 [x.v] (.tup [vs (bT (scB x)),vi 0]):=by
 refine W7n ?_
 simp only[go_sem]
 have c0:=Xd4 (gp:=gp) Xas (fun s=>Xlr hU s) x
 rw[hr] at c0
 have c1:=Jh4 (gp:=gp) x
 have c2:=Jbx (gp:=gp) x
 have hk:=Xpg hr
 unfold Xfw at hk
 obtain⟨k,n,s⟩:=x
 rcases hk with ⟨hk,_⟩|⟨hk,_⟩|⟨hk,_,h1,h2⟩|⟨hk,_,h1⟩
 ·obtain rfl:k=0:=hk
  have e:scB ⟨0,n,s⟩=[110,117,108,108]:=rfl
  rw[e]
  repeat' first|refine Kn rfl ?_|(refine Kw ?_;simp only[go_sem])|refine Kf ?_|refine⟨_,c0,Kg ?_⟩|refine⟨_,⟨c0,rfl⟩,Kg ?_⟩|refine⟨_,c1,Kg ?_⟩|refine⟨_,⟨c1,rfl⟩,Kg ?_⟩|refine⟨_,c2,Kg ?_⟩|refine⟨_,⟨c2,rfl⟩,Kg ?_⟩|refine⟨0,⟨rfl,by decide⟩,Kg ?_⟩|apply Kp<;>intro _
  all_goals trace_state
 ·obtain rfl:k=1:=hk
  have e:scB ⟨1,n,s⟩=X2q (decide (n=1)):=rfl
  rw[e]
  repeat' first|refine Kn rfl ?_|(refine Kw ?_;simp only[go_sem])|refine Kf ?_|refine⟨_,c0,Kg ?_⟩|refine⟨_,⟨c0,rfl⟩,Kg ?_⟩|refine⟨_,c1,Kg ?_⟩|refine⟨_,⟨c1,rfl⟩,Kg ?_⟩|refine⟨_,c2,Kg ?_⟩|refine⟨_,⟨c2,rfl⟩,Kg ?_⟩|refine⟨1,⟨rfl,by decide⟩,Kg ?_⟩|apply Kp<;>intro _
  all_goals trace_state
 ·obtain rfl:k=2:=hk
  have e:scB ⟨2,n,s⟩=Lib.itoa n:=rfl
  rw[e]
  have c3:=Wt1 hP ⟨2,n,s⟩ (by dsimp only at *;omega) (by dsimp only at *;omega)
  repeat' first|refine Kn rfl ?_|(refine Kw ?_;simp only[go_sem])|refine Kf ?_|refine⟨_,c0,Kg ?_⟩|refine⟨_,⟨c0,rfl⟩,Kg ?_⟩|refine⟨_,c1,Kg ?_⟩|refine⟨_,⟨c1,rfl⟩,Kg ?_⟩|refine⟨_,c2,Kg ?_⟩|refine⟨_,⟨c2,rfl⟩,Kg ?_⟩|refine⟨_,c3,Kg ?_⟩|refine⟨_,⟨c3,rfl⟩,Kg ?_⟩|refine⟨2,⟨rfl,by decide⟩,Kg ?_⟩|apply Kp<;>intro _
  all_goals trace_state
 ·obtain rfl:k=3:=hk
  have e:scB ⟨3,n,s⟩=X2p s:=rfl
  rw[e]
  have c4:=Jh5 hU ⟨3,n,s⟩ h1 hs
  repeat' first|refine Kn rfl ?_|(refine Kw ?_;simp only[go_sem])|refine Kf ?_|refine⟨_,c0,Kg ?_⟩|refine⟨_,⟨c0,rfl⟩,Kg ?_⟩|refine⟨_,c1,Kg ?_⟩|refine⟨_,⟨c1,rfl⟩,Kg ?_⟩|refine⟨_,c2,Kg ?_⟩|refine⟨_,⟨c2,rfl⟩,Kg ?_⟩|refine⟨_,c4,Kg ?_⟩|refine⟨_,⟨c4,rfl⟩,Kg ?_⟩|refine⟨3,⟨rfl,by decide⟩,Kg ?_⟩|apply Kp<;>intro _
  all_goals trace_state
abbrev okI (n:Int):Prop:=-9223372036854775808<=n/\n<=9223372036854775807
end Go.Fw.L07
