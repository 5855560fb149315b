/- Chapter 13: what stands for a node; a line. -/
import Derived.Test.YtakgmpkfpkmkaaaGreatDoorNa
import Derived.Test.YtakgmpkfpkmkaaaGreatDoorEb
import Derived.Test.YtakgmpkfpkmkaaaGreatDoorLb
import Derived.Test.YtakgmpkfpkmkaaaGreatDoorJc
set_option linter.all false
namespace Go.Fw.L07
open Go Go.Fw
open Go.Fw.Sh renaming intro->Kg
open Go.Fw renaming Xkl->Ka,Xfi->Kb,Xko->Kv,Xfj->Ke,Xfl->Kf,Xkn->Kh,Xkm->Ki,Xdx->Kt,Xkg->Kk,Xdw->Kl,Xfz->Km,Gx->Kn
open Int renaming natCast_nonneg->Kq
open List renaming getElem?_eq_some_iff->Kr
open And renaming intro->Kp
open Go.Proofs.Tryz renaming prog->QP
open Nat renaming reduceAdd->Qa,reduceSub->Qb,reduceMul->Qc,reduceLeDiff->Qd,reduceLT->Qe,reduceEqDiff->Qf
open Int renaming reduceToNat->Qg,reduceLT->Qh,reduceLE->Qi,reduceGT->Qj,reduceGE->Qk,reduceEq->Ql,reduceNe->Qm,reduceBEq->Qn,reduceBNe->Qo,reduceAdd->Qp,reduceSub->Qq,reduceNeg->Qr
open Go.Fw.V.one renaming injEq->Qs
open Go.Fw.V.agg renaming injEq->Qt
open Go.Fw.V.tup renaming injEq->Qu
open Go.Fw.A.d renaming injEq->Qv
open Go.Fw.D.bool renaming injEq->Qw
open Go.Fw.D.int renaming injEq->Qx
open Go.Fw.D.str renaming injEq->Qy
open Go.Fw.D.sl renaming injEq->Qz
open List.cons renaming injEq->Za
set_option maxRecDepth 4000
variable {gp:Heap}
abbrev Xun (s:ByteArray):D:=.ifc 141 false [.str s]
abbrev X13 (i:Int) (s:ByteArray):D:=.ifc 145 true [.int .i64 i,.str s]
theorem W01 : Yjg QP 141 "sigillary/emit.text" 228 := fun v w => by kernel_rfl
theorem W02 : Yjg QP 145 "sigillary/emit.text" 229 := fun v w => by kernel_rfl
theorem Xz5 (a:List UInt8) (s:ByteArray):bT a++s=bT (a++s.data.toList):=by rw[<- Xoc];rfl
theorem Xgd (l:List UInt8):(bT l).size=l.length:=by show l.toArray.size=_;simp
theorem Yhz (s:ByteArray) (hs:s.size<=1000000000):Does QP gp 228 [vs s] (vs (bT (32::s.data.toList))):=by
 refine Y9t ?_
 simp only[go_sem]
 have hsz:((#[(32:UInt8)].size+s.size:Nat):Int)<=9223372036854775807:=by simp;omega
 have e:(⟨#[32]⟩:ByteArray)++s=bT (32::s.data.toList):=Xz5 [32] s
 repeat' first|refine Kn rfl ?_|((first|refine Ka ?_|refine Kb ?_|refine Kv ?_|refine Ke ?_);simp only[e,go_sem])|refine Kf ?_|refine Kg ?_|refine⟨hsz,?_⟩|apply Kp<;>intro _|((first|refine Kh ?_|refine Ki rfl ?_);simp only[e,or_self,Qs,Qt,Qu,Qv,Qw,Qx,Qy,Qz,Za,go_sem])
 all_goals trace_state
theorem Yh0 (i:Int) (s:ByteArray) (hs:s.size<=1000000000):Does QP gp 229 [.agg [.d (.int .i64 i),.d (.str s)]] (vs (bT (if s=⟨#[]⟩ then [] else 32::38::s.data.toList))):=by
 refine Y9z ?_
 simp only[go_sem]
 have hsz:((#[(32:UInt8),38].size+s.size:Nat):Int)<=9223372036854775807:=by simp;omega
 have e:(⟨#[32,38]⟩:ByteArray)++s=bT (32::38::s.data.toList):=Xz5 [32,38] s
 by_cases h:s=⟨#[]⟩
 ·have hd:decide (s=⟨#[]⟩)=true:=by simp[h]
  rw[if_pos h]
  repeat' first|refine Kn rfl ?_|((first|refine Ka ?_|refine Kb ?_|refine Kv ?_|refine Ke ?_);simp only[hd,go_sem])|refine Kf ?_|refine Kg ?_|refine⟨hsz,?_⟩|apply Kp<;>intro _|((first|refine Kh ?_|refine Ki rfl ?_);simp only[hd,or_self,Qs,Qt,Qu,Qv,Qw,Qx,Qy,Qz,Za,go_sem])
  all_goals first|rfl|trace_state
 ·have hd:decide (s=⟨#[]⟩)=false:=by simp[h]
  rw[if_neg h]
  repeat' first|refine Kn rfl ?_|((first|refine Ka ?_|refine Kb ?_|refine Kv ?_|refine Ke ?_);simp only[hd,e,go_sem])|refine Kf ?_|refine Kg ?_|refine⟨hsz,?_⟩|apply Kp<;>intro _|((first|refine Kh ?_|refine Ki rfl ?_);simp only[hd,e,or_self,Qs,Qt,Qu,Qv,Qw,Qx,Qy,Qz,Za,go_sem])
  all_goals trace_state
theorem Xz6 (n:Nat) (hn:n<=48) (of:Int) (l:List ByteArray) (hl:l≠[]) (hb:(l.flatMap fun s=>s.data.toList).length<=100000000) (hc:l.length<=1000) :
  Does QP gp 84 [vi n,vi of,.one (.d (.sl (l.map fun s=>[.str s])))] (.agg [.d (.str (bT (Xew n++l.flatMap fun s=>s.data.toList))),.d (.int .i64 n),.d (.int .i64 of)]):=by
 refine Wnl ?_
 simp only[go_sem]
 have c1:=Ypw (gp:=gp) n hn
 have c2:=Wuf (gp:=gp) l hl (by omega) hc
 have hsz:(((bT (List.replicate n 32)).size+(bT (l.flatMap fun s=>s.data.toList)).size:Nat):Int)<=9223372036854775807:=by rw[Xgd,Xgd,List.length_replicate];omega
 have e:bT (List.replicate n 32)++bT (l.flatMap fun s=>s.data.toList)=bT (Xew n++l.flatMap fun s=>s.data.toList):=Xoc _ _
 repeat' first|refine Kn rfl ?_|((first|refine Ka ?_|refine Kb ?_|refine Kv ?_|refine Ke ?_);simp only[e,go_sem])|refine Kf ?_|refine Kg ?_|refine⟨_,c1,Kg ?_⟩|refine⟨_,⟨c1,rfl⟩,Kg ?_⟩|refine⟨_,c2,Kg ?_⟩|refine⟨_,⟨c2,rfl⟩,Kg ?_⟩|refine⟨hsz,?_⟩|apply Kp<;>intro _|((first|refine Kh ?_|refine Ki rfl ?_);simp only[e,or_self,Qs,Qt,Qu,Qv,Qw,Qx,Qy,Qz,Za,go_sem])
 all_goals trace_state
structure Env13 (gp:Heap):Prop where
 e:Env gp
 p:Xng gp
abbrev prC (g:Gr) (a:List Int):Ch:=.cells [.d (.int .i64 g.root),.d (.sl (nds g.l)),.d (.sl (Xaf a)),.own 1 0]
abbrev Xp5 (l:List (List UInt8)):List (List D):=l.map fun h=>[.str (bT h)]
theorem Yp7 {g:Gr} (hg:Tdy g) {i:Nat} {x:Nd} (hx:g.l[i]?=some x) (hk:x.k=2):Xai (Xbb g.l i)=x.keys:=by
 rw[Xgs hx]
 have hxm:=List.mem_of_getElem? hx
 rw[hg.self] at hxm
 simp only[Xau,List.mem_map] at hxm
 obtain⟨j,hj,rfl⟩:=hxm
 rw[(Xeu (hg.good.node (hg.good.wIn j hj)) _).2]
 rfl
theorem Yp8 {x:Nd} (hk:x.k=1):Xai x=[]:=by
 unfold Xai Xac;rw[if_neg (by omega)];rfl
theorem Wgj (h:Env13 gp) {g:Gr} (hg:Tdy g) (hst:∀ x∈g.l,x.short) (a met:List Int) {i:Nat} {x:Nd} (hx:g.l[i]?=some x) (hk:x.kids≠[]) :
  Tri QP gp 125 [.one (.ptr 0 0),vi i] [prC g a,.map (Xd6 met)] fun r post=>r=.one (.d (.sl (Xp5 (Xap x.k x.keys x.kids.length))))/\post=[prC g a,.map (Xd6 met)]:=by
 have hil:=(Kr.1 hx).1
 have hsx:=hg.good.s x (List.mem_of_getElem? hx)
 have c1:=keys (gp:=gp) g i hg.good.s
 have ha:atE g.l i=0:=by unfold atE;rw[if_pos (by omega)]
 rw[ha] at c1
 have hkl:0 < x.kids.length:=by cases hc:x.kids with|nil=>exact absurd hc hk|cons=>simp
 rcases Xcr hg hx with ⟨h0,h1,_⟩|⟨h0,h1,_⟩|⟨h0,h1,h2,_⟩
 ·exact absurd h1 hk
 ·have c2:=Wze (gp:=gp) ⟨#[45]⟩ x.kids.length hkl (by omega)
  rw[Xgs hx,Yp8 h0] at c1
  have hd:(x.k==1)=true:=by simp[h0]
  have e:(Xp5 (Xap x.k x.keys x.kids.length))=List.replicate x.kids.length [.str ⟨#[45]⟩]:=by simp[Xap,h0,bT]
  rw[e]
  refine Xwd ?_
  simp only[go_sem]
  repeat' first|refine Kn rfl ?_|((first|refine Ka ?_|refine Kb ?_|refine Kv ?_|refine Ke ?_);simp only[go_sem])|refine Kf ?_|refine Kg ?_|refine⟨_,c1,Kg ?_⟩|refine⟨_,⟨c1,rfl⟩,Kg ?_⟩|(apply Kp<;>intro _<;>try (exfalso;omega))|((first|refine Kh ?_|refine Ki rfl ?_);simp only[or_self,Qs,Qt,Qu,Qv,Qw,Qx,Qy,Qz,Za,go_sem])
  refine Kt (fr 61 [(0,.one (.ptr 0 0)),(1,vi i),(21,.one (.d (.sl []))),(22,vi 0),(23,vi 0)]) ?_
  refine Km (fun mz sz=>mz=0/\sz=⟨fr 61 [(0,.one (.ptr 0 0)),(1,vi i),(21,.one (.d (.sl []))),(22,vi 0),(23,vi 0)],[prC g a,.map (Xd6 met)]⟩) 0 ⟨rfl,rfl⟩ ?_
  rintro _ _ ⟨rfl,rfl⟩
  simp only[go_sem]
  repeat' first|refine Kn rfl ?_|((first|refine Ka ?_|refine Kb ?_|refine Kv ?_|refine Ke ?_);simp only[hd,go_sem])|refine Kf ?_|refine Kg ?_|refine⟨_,c2,Kg ?_⟩|refine⟨_,⟨c2,rfl⟩,Kg ?_⟩|refine⟨_,⟨Kq _,(by first|exact Xad hx|(rw[Int.toNat_natCast];exact Xad hx)),rfl⟩,Kg ?_⟩|(apply Kp<;>intro _<;>try (exfalso;omega))|((first|refine Kh ?_|refine Ki rfl ?_);simp only[hd,or_self,Qs,Qt,Qu,Qv,Qw,Qx,Qy,Qz,Za,go_sem])
 ·have hkeys:=Yp7 hg hx h0
  rw[hkeys] at c1
  have hd:(x.k==1)=false:=by simp[h0]
  have e:Xap x.k x.keys x.kids.length=x.keys.map fun y=>scB y++[58]:=by unfold Xap;rw[if_neg (by omega)]
  rw[e]
  have hsh:=hst x (List.mem_of_getElem? hx)
  refine Xwd ?_
  simp only[go_sem]
  repeat' first|refine Kn rfl ?_|((first|refine Ka ?_|refine Kb ?_|refine Kv ?_|refine Ke ?_);simp only[go_sem])|refine Kf ?_|refine Kg ?_|refine⟨_,c1,Kg ?_⟩|refine⟨_,⟨c1,rfl⟩,Kg ?_⟩|(apply Kp<;>intro _<;>try (exfalso;omega))
  refine Xh9 7 1 (by decide) rfl ?_
  simp only[go_sem]
  refine Kt (fr 61 [(0,.one (.ptr 0 0)),(1,vi i),(7,.one (.own 2 (0:Nat))),(21,.one (.d (.sl (scs x.keys)))),(22,vi x.keys.length),(23,vi (0:Nat))]) ?_
  refine Km (fun mz sz=>∃ j:Nat,j<=x.keys.length/\mz=x.keys.length - j/\(0<=j)/\sz=⟨fr 61 [(0,.one (.ptr 0 0)),(1,vi i),(7,.one (.own 2 j)),(21,.one (.d (.sl (scs x.keys)))),(22,vi x.keys.length),(23,vi j)],[prC g a,.map (Xd6 met),.row 1 j (Xp5 ((x.keys.take j).map fun y=>scB y++[58]))]⟩) (x.keys.length) ⟨0,Nat.zero_le _,(Nat.sub_zero _).symm,?_,rfl⟩ ?_
  ·exact Nat.zero_le _
  rintro _ _ ⟨j,hj,rfl,-,rfl⟩
  simp only[go_sem]
  by_cases hjl:j < x.keys.length
  ·obtain⟨y,hy⟩:=Xal hjl
   have hym:=List.mem_of_getElem? hy
   have hyr:=List.all_eq_true.1 h2 y hym
   have c2:=Ygc (gp:=gp) h.e.u h.p y hyr (hsh.2.2.2 y hym)
   have hlen:=Xmx hyr (hsh.2.2.2 y hym)
   have hsz:(((bT (scB y)).size+#[(58:UInt8)].size:Nat):Int)<=9223372036854775807:=by rw[Xgd];simp;omega
   have ec:bT (scB y)++(⟨#[58]⟩:ByteArray)=bT (scB y++[58]):=Xoc _ [58]
   have hll:(x.keys.take j).length=j:=by simp;omega
   have hp1:((x.keys.take j).length+1)*16<=140737488355328:=by rw[hll];omega
   have hp2:(x.keys.take j).length+1 < lenMax:=by rw[hll];unfold lenMax;omega
   have hik:inK .i64 ((j:Int)+1):=by simp[inK,IntKind.min,IntKind.max,IntKind.signed,IntKind.bits];omega
   repeat' first|refine Kn rfl ?_|((first|refine Ka ?_|refine Kb ?_|refine Kv ?_|refine Ke ?_);simp only[ec,go_sem])|refine Kf ?_|refine Kg ?_|refine⟨_,c2,Kg ?_⟩|refine⟨_,⟨c2,rfl⟩,Kg ?_⟩|refine⟨_,⟨Kq _,(by first|exact Xad hy|(rw[Int.toNat_natCast];exact Xad hy)),rfl⟩,Kg ?_⟩|refine⟨hsz,?_⟩|refine⟨by simp,hp1,hp2,?_⟩|refine⟨hik,?_⟩|(apply Kp<;>intro _<;>try (exfalso;omega))
   refine Kt (fr 61 [(0,.one (.ptr 0 0)),(1,vi i),(7,.one (.own 2 (j+1))),(21,.one (.d (.sl (scs x.keys)))),(22,vi x.keys.length),(23,vi (j+1))]) ?_
   refine Kk 3 (by simp only[List.length_nil,List.length_cons];decide) (by simp only[go_sem]) (by simp only[List.take_succ_cons,List.take_zero,List.all_cons,List.all_nil,Xag];try simp only[go_sem]) ?_
   simp only[go_sem]
   refine Kl ⟨x.keys.length - (j+1),by omega,j+1,by omega,rfl,?_,(by rw[<- Xca hy];simp)⟩
   exact Nat.zero_le _
  ·obtain rfl:x.keys.length=j:=by omega
   rw[List.take_length]
   repeat' first|refine Kn rfl ?_|((first|refine Ka ?_|refine Kb ?_|refine Kv ?_|refine Ke ?_);simp only[hd,go_sem])|refine Kf ?_|refine Kg ?_|refine⟨_,⟨Kq _,(by first|exact Xad hx|(rw[Int.toNat_natCast];exact Xad hx)),rfl⟩,Kg ?_⟩|(apply Kp<;>intro _<;>try (exfalso;omega))
   refine Xa6 2 ?_
   simp only[Yq5,Xaj,List.map_cons,List.map_nil,Yhq]
   simp only[go_sem]
   refine Kt (fr 61 [(4,.one (.d (.sl (Xp5 (x.keys.map fun y=>scB y++[58])))))]) ?_
   refine Kk 2 (by simp only[List.length_nil,List.length_cons];decide) (by simp only[go_sem]) (by simp only[List.take_succ_cons,List.take_zero,List.all_cons,List.all_nil,Xag];simp only[go_sem]) ?_
   simp only[go_sem]
   repeat' first|refine Kn rfl ?_|((first|refine Ka ?_|refine Kb ?_|refine Kv ?_|refine Ke ?_);simp only[go_sem])|refine Kf ?_|refine Kg ?_|(apply Kp<;>intro _<;>try (exfalso;omega))|((first|refine Kh ?_|refine Ki rfl ?_);simp only[or_self,Qs,Qt,Qu,Qv,Qw,Qx,Qy,Qz,Za,go_sem])
   all_goals trace_state
theorem Yp9 (h:Env13 gp) {g:Gr} (a met:List Int) {i:Nat} {y:Nd} (hy:g.l[i]?=some y) (hr:prR Xak y.x=true) (hs:y.short) :
  Tri QP gp 120 [.one (.ptr 0 0),vi i] [prC g a,.map (Xd6 met)] fun r post=>r=vs (bT (scB y.x))/\post=[prC g a,.map (Xd6 met)]:=by
 have c2:=Ygc (gp:=gp) h.e.u h.p y.x hr hs.2.2.1
 refine Ykl ?_
 simp only[go_sem]
 repeat' first|refine Kn rfl ?_|((first|refine Ka ?_|refine Kb ?_|refine Kv ?_|refine Ke ?_);simp only[go_sem])|refine Kf ?_|refine Kg ?_|refine⟨_,c2,Kg ?_⟩|refine⟨_,⟨c2,rfl⟩,Kg ?_⟩|refine⟨_,⟨Kq _,(by first|exact Xad hy|(rw[Int.toNat_natCast];exact Xad hy)),rfl⟩,Kg ?_⟩|(apply Kp<;>intro _<;>try (exfalso;omega))|((first|refine Kh ?_|refine Ki rfl ?_);simp only[or_self,Qs,Qt,Qu,Qv,Qw,Qx,Qy,Qz,Za,go_sem])
 all_goals trace_state
theorem Wzg {g:Gr} (a met:List Int) (i:Int):Tri QP gp 121 [.one (.ptr 0 0),vi i] [prC g a,.map (Xd6 met)] fun r post=>r=vs (bT [91,93])/\post=[prC g a,.map (Xd6 met)]:=by
 refine Ykm ?_
 simp only[go_sem]
 repeat' first|refine Kn rfl ?_|((first|refine Ka ?_|refine Kb ?_|refine Kv ?_|refine Ke ?_);simp only[go_sem])|refine Kf ?_|refine Kg ?_|(apply Kp<;>intro _<;>try (exfalso;omega))|((first|refine Kh ?_|refine Ki rfl ?_);simp only[or_self,Qs,Qt,Qu,Qv,Qw,Qx,Qy,Qz,Za,go_sem])
 exact rfl
theorem Wul {g:Gr} (a met:List Int) (i:Int):Tri QP gp 122 [.one (.ptr 0 0),vi i] [prC g a,.map (Xd6 met)] fun r post=>r=vs (bT [123,125])/\post=[prC g a,.map (Xd6 met)]:=by
 refine Ykn ?_
 simp only[go_sem]
 repeat' first|refine Kn rfl ?_|((first|refine Ka ?_|refine Kb ?_|refine Kv ?_|refine Ke ?_);simp only[go_sem])|refine Kf ?_|refine Kg ?_|(apply Kp<;>intro _<;>try (exfalso;omega))|((first|refine Kh ?_|refine Ki rfl ?_);simp only[or_self,Qs,Qt,Qu,Qv,Qw,Qx,Qy,Qz,Za,go_sem])
 exact rfl
abbrev Xex (y:Nd):List UInt8:=Wgb (.mk y.k ⟨#[]⟩ y.x y.keys [])
theorem Xmz (h:Env13 gp) {g:Gr} (hg:Tdy g) (hst:∀ x∈g.l,x.short) (a met:List Int) {i:Nat} {y:Nd} (hy:g.l[i]?=some y) (hk:y.kids=[]) :
  Tri QP gp 83 [.one (.ptr 0 0),vi i] [prC g a,.map (Xd6 met)] fun r post=>r=.one (.d (Xun (bT (Xex y))))/\post=[prC g a,.map (Xd6 met)]:=by
 have hd:((y.kids.length:Int)==0)=true:=by rw[hk];rfl
 have hsy:=hst y (List.mem_of_getElem? hy)
 have fin:∀ (f:FuncId) (s:List UInt8),Xaa QP f=true->Xc9 false [.i] [(vi 0,.one (.mvo (.func 120) false [.ptr 0 0])),(vi 1,.one (.mvo (.func 121) false [.ptr 0 0])),(vi 2,.one (.mvo (.func 122) false [.ptr 0 0]))] (vi y.k)=some (some (.one (.mvo (.func f) false [.ptr 0 0]))) ->
   Tri QP gp f [.one (.ptr 0 0),vi i] [prC g a,.map (Xd6 met)] (fun r post=>r=vs (bT s)/\post=[prC g a,.map (Xd6 met)]) ->
   Tri QP gp 83 [.one (.ptr 0 0),vi i] [prC g a,.map (Xd6 met)] fun r post=>r=.one (.d (Xun (bT s)))/\post=[prC g a,.map (Xd6 met)]:=by
  intro f s hcal hf hc
  refine Xpc ?_
  simp only[go_sem]
  repeat' first|refine Kn rfl ?_|((first|refine Ka ?_|refine Kb ?_|refine Kv ?_|refine Ke ?_);simp only[hd,go_sem])|refine Kf ?_|refine Kg ?_|refine⟨_,⟨Kq _,(by first|exact Xad hy|(rw[Int.toNat_natCast];exact Xad hy)),rfl⟩,Kg ?_⟩|refine⟨_,rfl,Kg ?_⟩|refine⟨_,⟨hf,rfl⟩,Kg ?_⟩|(apply Kp<;>intro _<;>try (exfalso;omega))|((first|refine Kh ?_|refine Ki rfl ?_);simp only[hd,or_self,Qs,Qt,Qu,Qv,Qw,Qx,Qy,Qz,Za,go_sem])
  refine Or.inr (Or.inr ⟨[0,1],vs (bT s),[prC g a,.map (Xd6 met)],(by simp only[Xaw,Xcv,rnV,rnA,Xc1,rn0,Xc0,Xbz,Xcx,rnC,Xaj,List.isEmpty_nil,Xag,reduceCtorEq,↓reduceIte,Qa,Qb,Qc,Qd,Qe,Qf,Qg,Qh,Qi,Qj,Qk,Ql,Qm,Qn,Qo,Qp,Qq,Qr];simp only[go_sem];exact⟨hcal,hc⟩),Kg ?_⟩)
  simp only[bkO,bkC,Xag]
  simp only[go_sem]
  repeat' first|refine Kn rfl ?_|((first|refine Ka ?_|refine Kb ?_|refine Kv ?_|refine Ke ?_);simp only[go_sem])|refine Kf ?_|refine Kg ?_|(apply Kp<;>intro _<;>try (exfalso;omega))
  refine Kt (fr 71 [(4,.one (.d (Xun (bT s))))]) ?_
  refine Kk 2 (by simp only[List.length_nil,List.length_cons];decide) (by simp only[go_sem]) (by simp only[List.take_succ_cons,List.take_zero,List.all_cons,List.all_nil,Xag];simp only[go_sem]) ?_
  simp only[go_sem]
  repeat' first|refine Kn rfl ?_|((first|refine Ka ?_|refine Kb ?_|refine Kv ?_|refine Ke ?_);simp only[go_sem])|refine Kf ?_|refine Kg ?_|(apply Kp<;>intro _<;>try (exfalso;omega))|((first|refine Kh ?_|refine Ki rfl ?_);simp only[or_self,Qs,Qt,Qu,Qv,Qw,Qx,Qy,Qz,Za,go_sem])
  all_goals trace_state
 rcases Xcr hg hy with ⟨h0,h1,_,h2⟩|⟨h0,_⟩|⟨h0,_⟩
 ·have e:Xex y=scB y.x:=by show (if y.k=0 then scB y.x else _)=_;rw[if_pos h0]
  rw[e]
  exact fin _ _ Y5h (by rw[h0];rfl) (Yp9 h a met hy h2 hsy)
 ·have e:Xex y=[91,93]:=by show (if y.k=0 then scB y.x else if y.k=1 then _ else _)=_;rw[if_neg (by omega),if_pos h0]
  rw[e]
  exact fin _ _ Y5k (by rw[h0];rfl) (Wzg a met i)
 ·have e:Xex y=[123,125]:=by show (if y.k=0 then scB y.x else if y.k=1 then _ else _)=_;rw[if_neg (by omega),if_neg (by omega)]
  rw[e]
  exact fin _ _ Y5n (by rw[h0];rfl) (Wul a met i)
theorem Xge (h:Env13 gp) {g:Gr} (hg:Tdy g) {i:Nat} (hi:i < g.l.length):anc g i<=1000:=by
 have:=Wue hi;have:=hg.good.len;omega
theorem X14 (h:Env13 gp) {g:Gr} (hg:Tdy g) (met:List Int) {i:Nat} {y:Nd} (hy:g.l[i]?=some y) (hk:y.kids≠[]) (hm:(i:Int)∈met) (ha:0 < anc g i) :
  Tri QP gp 83 [.one (.ptr 0 0),vi i] [prC g (Xgc g),.map (Xd6 met)] fun r post=>r=.one (.d (Xun (bT (42::(Xao (anc g i)).data.toList))))/\post=[prC g (Xgc g),.map (Xd6 met)]:=by
 have hi:=(Kr.1 hy).1
 have hd:((y.kids.length:Int)==0)=false:=by simp[hk]
 have han:=Xp2 hi
 have hle:=Xge h hg hi
 have c2:=Xzj h.p (anc g i) (by omega) (by omega)
 have hlen:=Lib.itoa_length_le (anc g i) (by omega) (by omega)
 have hnm:(⟨#[97]⟩:ByteArray)++⟨(Lib.itoa (anc g i)).toArray⟩=Xao (anc g i):=by unfold Xao;rw[if_pos ha]
 have hszN:((#[(97:UInt8)].size+(Lib.itoa (anc g i)).toArray.size:Nat):Int)<=9223372036854775807:=by simp;omega
 have hsz2:((#[(42:UInt8)].size+(Xao (anc g i)).size:Nat):Int)<=9223372036854775807:=by
  have:(Xao (anc g i)).size=(97::Lib.itoa (anc g i)).length:=by rw[<- Xev ha];simp
  rw[this];simp;omega
 have e2:(⟨#[42]⟩:ByteArray)++Xao (anc g i)=bT (42::(Xao (anc g i)).data.toList):=Xz5 [42] _
 have hmf:=Xsh met i
 rw[if_pos hm] at hmf
 have hd2:decide (anc g i > 0)=true:=by simp;omega
 refine Xpc ?_
 simp only[go_sem]
 repeat' first|refine Kn rfl ?_|((first|refine Ka ?_|refine Kb ?_|refine Kv ?_|refine Ke ?_);simp only[hd,hd2,hnm,e2,go_sem])|refine Kf ?_|refine Kg ?_|refine⟨_,c2,Kg ?_⟩|refine⟨_,⟨c2,rfl⟩,Kg ?_⟩|refine⟨_,⟨Kq _,(by first|exact Xad hy|(rw[Int.toNat_natCast];exact Xad hy)),rfl⟩,Kg ?_⟩|refine⟨_,⟨Kq _,(by first|exact Xad han|(rw[Int.toNat_natCast];exact Xad han)),rfl⟩,Kg ?_⟩|refine⟨hszN,?_⟩|refine⟨hsz2,?_⟩|refine⟨_,⟨hmf,rfl⟩,Kg ?_⟩|(apply Kp<;>intro _<;>try (exfalso;omega))|((first|refine Kh ?_|refine Ki rfl ?_);simp only[hd,hd2,hnm,e2,or_self,Qs,Qt,Qu,Qv,Qw,Qx,Qy,Qz,Za,go_sem])
 all_goals trace_state
theorem Xm0 (h:Env13 gp) {g:Gr} (hg:Tdy g) (met:List Int) {i:Nat} {y:Nd} (hy:g.l[i]?=some y) (hk:y.kids≠[]) (hm:(i:Int) ∉ met) :
  Tri QP gp 83 [.one (.ptr 0 0),vi i] [prC g (Xgc g),.map (Xd6 met)] fun r post=>r=.one (.d (X13 i (Xao (anc g i))))/\post=[prC g (Xgc g),.map (Xd6 (met++[(i:Int)]))]:=by
 have hi:=(Kr.1 hy).1
 have hd:((y.kids.length:Int)==0)=false:=by simp[hk]
 have han:=Xp2 hi
 have hle:=Xge h hg hi
 have hmf:=Xsh met i
 rw[if_neg hm] at hmf
 have hmp:=Xz0 met i
 rw[show Wwf met i=met++[(i:Int)] from by unfold Wwf;rw[if_neg hm]] at hmp
 by_cases ha:0 < anc g i
 ·have c2:=Xzj h.p (anc g i) (by omega) (by omega)
  have hlen:=Lib.itoa_length_le (anc g i) (by omega) (by omega)
  have hnm:(⟨#[97]⟩:ByteArray)++⟨(Lib.itoa (anc g i)).toArray⟩=Xao (anc g i):=by unfold Xao;rw[if_pos ha]
  have hszN:((#[(97:UInt8)].size+(Lib.itoa (anc g i)).toArray.size:Nat):Int)<=9223372036854775807:=by simp;omega
  have hd2:decide (anc g i > 0)=true:=by simp;omega
  refine Xpc ?_
  simp only[go_sem]
  repeat' first|refine Kn rfl ?_|((first|refine Ka ?_|refine Kb ?_|refine Kv ?_|refine Ke ?_);simp only[hd,hd2,hnm,go_sem])|refine Kf ?_|refine Kg ?_|refine⟨_,c2,Kg ?_⟩|refine⟨_,⟨c2,rfl⟩,Kg ?_⟩|refine⟨_,⟨Kq _,(by first|exact Xad hy|(rw[Int.toNat_natCast];exact Xad hy)),rfl⟩,Kg ?_⟩|refine⟨_,⟨Kq _,(by first|exact Xad han|(rw[Int.toNat_natCast];exact Xad han)),rfl⟩,Kg ?_⟩|refine⟨hszN,?_⟩|refine⟨_,⟨hmf,rfl⟩,Kg ?_⟩|refine⟨_,hmp,Kg ?_⟩|(apply Kp<;>intro _<;>try (exfalso;omega))|((first|refine Kh ?_|refine Ki rfl ?_);simp only[hd,hd2,hnm,or_self,Qs,Qt,Qu,Qv,Qw,Qx,Qy,Qz,Za,go_sem])
  all_goals trace_state
 ·have hd2:decide (anc g i > 0)=false:=by simp;omega
  rw[Xd4 ha]
  refine Xpc ?_
  simp only[go_sem]
  repeat' first|refine Kn rfl ?_|((first|refine Ka ?_|refine Kb ?_|refine Kv ?_|refine Ke ?_);simp only[hd,hd2,go_sem])|refine Kf ?_|refine Kg ?_|refine⟨_,⟨Kq _,(by first|exact Xad hy|(rw[Int.toNat_natCast];exact Xad hy)),rfl⟩,Kg ?_⟩|refine⟨_,⟨Kq _,(by first|exact Xad han|(rw[Int.toNat_natCast];exact Xad han)),rfl⟩,Kg ?_⟩|refine⟨_,⟨hmf,rfl⟩,Kg ?_⟩|refine⟨_,hmp,Kg ?_⟩|(apply Kp<;>intro _<;>try (exfalso;omega))|((first|refine Kh ?_|refine Ki rfl ?_);simp only[hd,hd2,or_self,Qs,Qt,Qu,Qv,Qw,Qx,Qy,Qz,Za,go_sem])
  all_goals trace_state
theorem Yyp {S:Sx} {k:List MI} {s:St} (j:Nat) (h:G S k ⟨s.fr,Xcc s.own j .dead⟩):G S k s:=by
 rintro Y a w ⟨H,an,F,ms,hs⟩
 rw[Xax] at h
 have h1:=hs.evolve (may:=fun _=>False) (own':=s.own.set j .dead) (F':=fun i b=>i≠j/\F i b) (WKeep.refl w _) (fun _ hb=>hb.elim) (Heap.Le.refl _) hs.mod (fun b o hb=>.inl hb) (Anc.Le.refl _) (fun i=>by simp[hs.anc i]) (fun i c hc=>by
   rw[List.getElem?_set] at hc
   split at hc
   ·rename_i e
    subst e
    split at hc
    ·rename_i hl
     cases hc
     obtain⟨p,hp⟩:=(hs.anc j).2 hl
     exact⟨p,hp,fun b hb=>hb.1 rfl⟩
    ·cases hc
   ·rename_i e
    obtain⟨p,hp,hsc⟩:=hs.own i c hc
    have ef:(fun b=>i≠j/\F i b)=F i:=by funext b;simp[Ne.symm e]
    refine⟨p,hp,?_⟩
    rw[ef];exact hsc) (fun i b hb=>by
   obtain⟨g1,g2,g3⟩:=hs.fp i b hb.2
   exact⟨by simpa using hs.fl i b hb.2,g1,g2,.inr ⟨i,hb.2⟩⟩) (fun i i' b hi hi'=>hs.dj i i' b hi.2 hi'.2)
 exact h Y a w ⟨_,_,_,ms,h1⟩
theorem Xm1 {P:Program} {f:FuncId} {args:List V} {pre:List Ch} {R R':V->List Ch->Prop} (h:Tri P gp f args pre R) (hR:∀ r c,R r c->R' r c):Tri P gp f args pre R':=by
 intro H w an F vs a1 a2 a3 a4 a5 a6 a7
 exact (h H w an F vs a1 a2 a3 a4 a5 a6 a7).mono fun e w' ⟨v,res,post,H',an',F',h1,h2,h3⟩=>⟨v,res,post,H',an',F',h1,hR _ _ h2,h3⟩
def Xb7:List (List UInt8)->List (List UInt8)->List (List UInt8)
 | out,[]=>out
 | out,s::r=>if Xah (out++[s]) > 8000 then out++[s] else Xb7 (out++[s]) r
theorem Xiz:∀ (out A B:List (List UInt8)),Xah (out++A)<=8000->Xb7 out (A++B)=Xb7 (out++A) B
 | out,[],B,_=>by simp
 | out,s::A,B,h=>by
  have h1:Xah (out++[s])<=8000:=by
   rw[show out++s::A=(out++[s])++A from by simp,Xcz] at h;omega
  have h2:Xah ((out++[s])++A)<=8000:=by simpa using h
  simp only[List.cons_append,Xb7,if_neg (Nat.not_lt.2 h1)]
  rw[Xiz (out++[s]) A B h2];simp
theorem Xof:∀ (out A B:List (List UInt8)),8000 < Xah (out++A)->Xah out<=8000->Xb7 out (A++B)=Xb7 out A
 | out,[],B,h,h0=>by simp at h;omega
 | out,s::A,B,h,h0=>by
  simp only[List.cons_append,Xb7]
  split
  ·rfl
  ·rename_i hn
   exact Xof (out++[s]) A B (by simpa using h) (by omega)
theorem Xm2:∀ (A out:List (List UInt8)),8000 < Xah (out++A)->8000 < Xah (Xb7 out A)
 | [],out,h=>by simpa [Xb7] using h
 | s::A,out,h=>by
  simp only[Xb7]
  split
  ·assumption
  ·exact Xm2 A _ (by simpa using h)
theorem Xz7 (l:List (List UInt8)):l.length<=Xah l:=by
 induction l with
 | nil=>simp
 | cons s l ih=>unfold Xah at *;simp only[List.map_cons,List.sum_cons,List.length_cons];omega
theorem Xj1 (out:List (List UInt8)) (s:List UInt8):Xah (out++[s])=Xah out+s.length+1:=by
 rw[Xcz];simp[Xah];omega
abbrev pbC (g:Gr):Ch:=.cells [.d (.int .i64 g.root),.d (.sl (nds g.l)),.d (.sl (Xaf (Xgc g))),.own 0 0]
abbrev stC (m:Ch) (g:Gr) (out:List (List UInt8)) (lp:Ch) (E:List Ch):List Ch:=m::pbC g::.cells [.own 4 out.length]::.cells [.d (.int .i64 (Xah out))]::.row 1 out.length (Xp5 out)::.cells [.ptr 1 0]::lp::E
abbrev itV (s:List UInt8) (n of:Int):V:=.agg [.d (.str (bT s)),.d (.int .i64 n),.d (.int .i64 of)]
abbrev itA (s:List UInt8) (n of:Int):List A:=[.d (.str (bT s)),.d (.int .i64 n),.d (.int .i64 of)]
def frP:List V:=fr 48 [(7,.one (.ptr 2 0)),(8,.one (.ptr 3 0)),(30,.one (.clo (.func 82) [.ptr 5 0]))]
theorem Xz8:Xcv [0,1,2,3,4,5,6] frP=some frP:=rfl
theorem Xz9 (n:Nat):frP.map (bkV n [0,1,2,3,4,5,6])=frP:=rfl
theorem Xgv:frP.flatMap V.refsT=[2,3,5]:=rfl
def Xp6 (gp:Heap) (g:Gr) (l:Nat) (rc:Loop):Prop :=
 ∀ (S:Sx),S.P=QP->S.gp=gp->∀ (m:Ch) (E:List Ch) (out:List (List UInt8)) (s:List UInt8) (n of:Int),m.refs=[]->Xah out<=8000->s.length<=100000000 ->
  Xon S l [itV s n of] (stC m g out (.lp l frP rc .ready none) E)
   (stC m g (out++[s]) (.lp l frP rc (if Xah (out++[s]) > 8000 then .done else .ready) (if Xah (out++[s]) > 8000 then some (.exit 0) else none)) (E++[.cells (itA s n of)])) (decide (Xah (out++[s])<=8000))
abbrev yV (l:Nat):V:=.one (.d (.raw (.func (.yield l) #[] #[])))
end Go.Fw.L07
