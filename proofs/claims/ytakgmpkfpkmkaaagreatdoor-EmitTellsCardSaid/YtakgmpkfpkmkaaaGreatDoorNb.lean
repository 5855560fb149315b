/- Chapter 13: what stands for a node; a line. -/
import Derived.Test.YtakgmpkfpkmkaaaGreatDoorNa
import Derived.Test.YtakgmpkfpkmkaaaGreatDoorEb
import Derived.Test.YtakgmpkfpkmkaaaGreatDoorLb
import Derived.Test.YtakgmpkfpkmkaaaGreatDoorJc
set_option linter.all false
namespace Go.Fw.L07
open Go Go.Fw
open Go.Fw.Sh renaming intro->Kg
open Go.Fw renaming Xdt->Ka,Xd2->Kf,Xcp->Kt,Xlj->Kk,Xco->Kl,Xeg->Km,Gx->Kn
open Go.Fw renaming Xbs->Ka, Xbw->Ka, Xby->Ka, Xbz->Ka
open Go.Fw renaming Xdt->Kw, Xbs->Kw, Xbw->Kw, Xby->Kw, Xbz->Kw, Xhh->Kw, Xd3->Kw
open Go.Fw.Sh renaming intro->Kf
open Int renaming natCast_nonneg->Kq
open List renaming getElem?_eq_some_iff->Kr
open And renaming intro->Kp
open Go.Proofs.Tryz renaming prog->QP
open Nat renaming reduceAdd->Qa,reduceSub->Qb,reduceMul->Qc,reduceLeDiff->Qd,reduceLT->Qe,reduceEqDiff->Qf
open Int renaming reduceToNat->Qg,reduceLT->Qh,reduceLE->Qi,reduceGT->Qj,reduceGE->Qk,reduceEq->Ql,reduceNe->Qm,reduceBEq->Qn,reduceBNe->Qo,reduceAdd->Qp,reduceSub->Qq,reduceNeg->Qr
set_option maxRecDepth 4000
variable {gp:Heap}
abbrev Xt1 (s:ByteArray):D:=.ifc 141 false [.str s]
abbrev X2z (i:Int) (s:ByteArray):D:=.ifc 145 true [.int .i64 i,.str s]
theorem Jj5 : Yn2 QP 141 "sigillary/emit.text" 228 := fun v w => by kernel_rfl
theorem Jj6 : Yn2 QP 145 "sigillary/emit.text" 229 := fun v w => by kernel_rfl
theorem Xnu (a:List UInt8) (s:ByteArray):bT a++s=bT (a++s.data.toList):=by rw[<- Xl7];rfl
theorem Xdp (l:List UInt8):(bT l).size=l.length:=by show l.toArray.size=_;simp
theorem Ym7 (s:ByteArray) (hs:s.size<=1000000000):Does QP gp 228 [vs s] (vs (bT (32::s.data.toList))):=by
 refine Wnp ?_
 simp only[go_sem]
 have hsz:((#[(32:UInt8)].size+s.size:Nat):Int)<=9223372036854775807:=by simp;omega
 have e:(⟨#[32]⟩:ByteArray)++s=bT (32::s.data.toList):=Xnu [32] s
 repeat' first|refine Kn rfl ?_|(refine Kw ?_;simp only[e,go_sem])|refine Kf ?_|refine⟨hsz,?_⟩|apply Kp<;>intro _
 all_goals trace_state
theorem Ym8 (i:Int) (s:ByteArray) (hs:s.size<=1000000000):Does QP gp 229 [.agg [.d (.int .i64 i),.d (.str s)]] (vs (bT (if s=⟨#[]⟩ then [] else 32::38::s.data.toList))):=by
 refine Wnv ?_
 simp only[go_sem]
 have hsz:((#[(32:UInt8),38].size+s.size:Nat):Int)<=9223372036854775807:=by simp;omega
 have e:(⟨#[32,38]⟩:ByteArray)++s=bT (32::38::s.data.toList):=Xnu [32,38] s
 by_cases h:s=⟨#[]⟩
 ·have hd:decide (s=⟨#[]⟩)=true:=by simp[h]
  rw[if_pos h]
  repeat' first|refine Kn rfl ?_|(refine Kw ?_;simp only[hd,go_sem])|refine Kf ?_|refine⟨hsz,?_⟩|apply Kp<;>intro _
  all_goals first|rfl|trace_state
 ·have hd:decide (s=⟨#[]⟩)=false:=by simp[h]
  rw[if_neg h]
  repeat' first|refine Kn rfl ?_|(refine Kw ?_;simp only[hd,e,go_sem])|refine Kf ?_|refine⟨hsz,?_⟩|apply Kp<;>intro _
  all_goals trace_state
theorem X1j (n:Nat) (hn:n<=48) (of:Int) (l:List ByteArray) (hl:l≠[]) (hb:(l.flatMap fun s=>s.data.toList).length<=100000000) (hc:l.length<=1000) :
  Does QP gp 84 [vi n,vi of,.one (.d (.sl (l.map fun s=>[.str s])))] (.agg [.d (.str (bT (Xbf n++l.flatMap fun s=>s.data.toList))),.d (.int .i64 n),.d (.int .i64 of)]):=by
 refine W4x ?_
 simp only[go_sem]
 have c1:=Yxv (gp:=gp) n hn
 have c2:=Jdu (gp:=gp) l hl (by omega) hc
 have hsz:(((bT (List.replicate n 32)).size+(bT (l.flatMap fun s=>s.data.toList)).size:Nat):Int)<=9223372036854775807:=by rw[Xdp,Xdp,List.length_replicate];omega
 have e:bT (List.replicate n 32)++bT (l.flatMap fun s=>s.data.toList)=bT (Xbf n++l.flatMap fun s=>s.data.toList):=Xl7 _ _
 repeat' first|refine Kn rfl ?_|(refine Kw ?_;simp only[e,go_sem])|refine Kf ?_|refine⟨_,c1,Kg ?_⟩|refine⟨_,⟨c1,rfl⟩,Kg ?_⟩|refine⟨_,c2,Kg ?_⟩|refine⟨_,⟨c2,rfl⟩,Kg ?_⟩|refine⟨hsz,?_⟩|apply Kp<;>intro _
 all_goals trace_state
structure Env13 (gp:Heap):Prop where
 e:Env gp
 p:X2v gp
abbrev prC (g:Gr) (a:List Int):Ch:=.cells [.d (.int .i64 g.root),.d (.sl (nds g.l)),.d (.sl (Xad a)),.own 1 0]
abbrev Xey (l:List (List UInt8)):List (List D):=l.map fun h=>[.str (bT h)]
theorem Yx0 {g:Gr} (hg:Tdy g) {i:Nat} {x:Nd} (hx:g.l[i]?=some x) (hk:x.k=2):Xaq (Xbr g.l i)=x.keys:=by
 rw[Xkc hx]
 have hxm:=List.mem_of_getElem? hx
 rw[hg.self] at hxm
 simp only[Xa0,List.mem_map] at hxm
 obtain⟨j,hj,rfl⟩:=hxm
 rw[(Xib (hg.good.node (hg.good.wIn j hj)) _).2]
 rfl
theorem Yx1 {x:Nd} (hk:x.k=1):Xaq x=[]:=by
 unfold Xaq Xae;rw[if_neg (by omega)];rfl
theorem Wwh (h:Env13 gp) {g:Gr} (hg:Tdy g) (hst:∀ x∈g.l,x.short) (a met:List Int) {i:Nat} {x:Nd} (hx:g.l[i]?=some x) (hk:x.kids≠[]) :
  Tri QP gp 125 [.one (.ptr 0 0),vi i] [prC g a,.map (Xec met)] fun r post=>r=.one (.d (.sl (Xey (Xar x.k x.keys x.kids.length))))/\post=[prC g a,.map (Xec met)]:=by
 have hil:=(Kr.1 hx).1
 have hsx:=hg.good.s x (List.mem_of_getElem? hx)
 have c1:=keys (gp:=gp) g i hg.good.s
 have ha:atE g.l i=0:=by unfold atE;rw[if_pos (by omega)]
 rw[ha] at c1
 have hkl:0 < x.kids.length:=by cases hc:x.kids with|nil=>exact absurd hc hk|cons=>simp
 rcases Xgk hg hx with ⟨h0,h1,_⟩|⟨h0,h1,_⟩|⟨h0,h1,h2,_⟩
 ·exact absurd h1 hk
 ·have c2:=Jig (gp:=gp) ⟨#[45]⟩ x.kids.length hkl (by omega)
  rw[Xkc hx,Yx1 h0] at c1
  have hd:(x.k==1)=true:=by simp[h0]
  have e:(Xey (Xar x.k x.keys x.kids.length))=List.replicate x.kids.length [.str ⟨#[45]⟩]:=by simp[Xar,h0,bT]
  rw[e]
  refine Xvn ?_
  simp only[go_sem]
  repeat' first|refine Kn rfl ?_|(refine Kw ?_;simp only[go_sem])|refine Kf ?_|refine⟨_,c1,Kg ?_⟩|refine⟨_,⟨c1,rfl⟩,Kg ?_⟩|(apply Kp<;>intro _<;>try (exfalso;omega))
  refine Kt (fr 61 [(0,.one (.ptr 0 0)),(1,vi i),(21,.one (.d (.sl []))),(22,vi 0),(23,vi 0)]) ?_
  refine Km (fun mz sz=>mz=0/\sz=⟨fr 61 [(0,.one (.ptr 0 0)),(1,vi i),(21,.one (.d (.sl []))),(22,vi 0),(23,vi 0)],[prC g a,.map (Xec met)]⟩) 0 ⟨rfl,rfl⟩ ?_
  rintro _ _ ⟨rfl,rfl⟩
  simp only[go_sem]
  repeat' first|refine Kn rfl ?_|(refine Kw ?_;simp only[hd,go_sem])|refine Kf ?_|refine⟨_,c2,Kg ?_⟩|refine⟨_,⟨c2,rfl⟩,Kg ?_⟩|refine⟨_,⟨Kq _,(Xab hx),rfl⟩,Kg ?_⟩|(apply Kp<;>intro _<;>try (exfalso;omega))
 ·have hkeys:=Yx0 hg hx h0
  rw[hkeys] at c1
  have hd:(x.k==1)=false:=by simp[h0]
  have e:Xar x.k x.keys x.kids.length=x.keys.map fun y=>scB y++[58]:=by unfold Xar;rw[if_neg (by omega)]
  rw[e]
  have hsh:=hst x (List.mem_of_getElem? hx)
  refine Xvn ?_
  simp only[go_sem]
  repeat' first|refine Kn rfl ?_|(refine Ka ?_;simp only[go_sem])|refine Kf ?_|refine⟨_,c1,Kg ?_⟩|refine⟨_,⟨c1,rfl⟩,Kg ?_⟩|(apply Kp<;>intro _<;>try (exfalso;omega))
  refine Xeh 7 1 (by decide) rfl ?_
  simp only[go_sem]
  refine Kt (fr 61 [(0,.one (.ptr 0 0)),(1,vi i),(7,.one (.own 2 (0:Nat))),(21,.one (.d (.sl (scs x.keys)))),(22,vi x.keys.length),(23,vi (0:Nat))]) ?_
  refine Km (fun mz sz=>∃ j:Nat,j<=x.keys.length/\mz=x.keys.length - j/\(0<=j)/\sz=⟨fr 61 [(0,.one (.ptr 0 0)),(1,vi i),(7,.one (.own 2 j)),(21,.one (.d (.sl (scs x.keys)))),(22,vi x.keys.length),(23,vi j)],[prC g a,.map (Xec met),.row 1 j (Xey ((x.keys.take j).map fun y=>scB y++[58]))]⟩) (x.keys.length) ⟨0,Nat.zero_le _,(Nat.sub_zero _).symm,?_,rfl⟩ ?_
  ·exact Nat.zero_le _
  rintro _ _ ⟨j,hj,rfl,-,rfl⟩
  simp only[go_sem]
  by_cases hjl:j < x.keys.length
  ·obtain⟨y,hy⟩:=Xaf hjl
   have hym:=List.mem_of_getElem? hy
   have hyr:=List.all_eq_true.1 h2 y hym
   have c2:=Y7f (gp:=gp) h.e.u h.p y hyr (hsh.2.2.2 y hym)
   have hlen:=Xt0 hyr (hsh.2.2.2 y hym)
   have hsz:(((bT (scB y)).size+#[(58:UInt8)].size:Nat):Int)<=9223372036854775807:=by rw[Xdp];simp;omega
   have ec:bT (scB y)++(⟨#[58]⟩:ByteArray)=bT (scB y++[58]):=Xl7 _ [58]
   have hll:(x.keys.take j).length=j:=by simp;omega
   have hp1:((x.keys.take j).length+1)*16<=140737488355328:=by rw[hll];omega
   have hp2:(x.keys.take j).length+1 < lenMax:=by rw[hll];unfold lenMax;omega
   have hik:inK .i64 ((j:Int)+1):=Xaw (by omega)
   repeat' first|refine Kn rfl ?_|(refine Ka ?_;simp only[ec,go_sem])|refine Kf ?_|refine⟨_,c2,Kg ?_⟩|refine⟨_,⟨c2,rfl⟩,Kg ?_⟩|refine⟨_,⟨Kq _,(Xab hy),rfl⟩,Kg ?_⟩|refine⟨hsz,?_⟩|refine⟨by simp,hp1,hp2,?_⟩|refine⟨hik,?_⟩|(apply Kp<;>intro _<;>try (exfalso;omega))
   refine Kt (fr 61 [(0,.one (.ptr 0 0)),(1,vi i),(7,.one (.own 2 (j+1))),(21,.one (.d (.sl (scs x.keys)))),(22,vi x.keys.length),(23,vi (j+1))]) ?_
   refine Kk 3 (by simp only[List.length_nil,List.length_cons];decide) (by simp only[go_sem]) (by simp only[List.take_succ_cons,List.take_zero,List.all_cons,List.all_nil,Xah];try simp only[go_sem]) ?_
   simp only[go_sem]
   refine Kl ⟨x.keys.length - (j+1),by omega,j+1,by omega,rfl,?_,(by rw[<- Xbx hy];simp)⟩
   exact Nat.zero_le _
  ·obtain rfl:x.keys.length=j:=by omega
   rw[List.take_length]
   repeat' first|refine Kn rfl ?_|(refine Ka ?_;simp only[hd,go_sem])|refine Kf ?_|refine⟨_,⟨Kq _,(Xab hx),rfl⟩,Kg ?_⟩|(apply Kp<;>intro _<;>try (exfalso;omega))
   refine Xap 2 ?_
   simp only[Y9q,Xak,List.map_cons,List.map_nil,Ym5]
   simp only[go_sem]
   refine Kt (fr 61 [(4,.one (.d (.sl (Xey (x.keys.map fun y=>scB y++[58])))))]) ?_
   refine Kk 2 (by simp only[List.length_nil,List.length_cons];decide) (by simp only[go_sem]) (by simp only[List.take_succ_cons,List.take_zero,List.all_cons,List.all_nil,Xah];simp only[go_sem]) ?_
   simp only[go_sem]
   repeat' first|refine Kn rfl ?_|(refine Kw ?_;simp only[go_sem])|refine Kf ?_|(apply Kp<;>intro _<;>try (exfalso;omega))
   all_goals trace_state
theorem Yx2 (h:Env13 gp) {g:Gr} (a met:List Int) {i:Nat} {y:Nd} (hy:g.l[i]?=some y) (hr:prR Xas y.x=true) (hs:y.short) :
  Tri QP gp 120 [.one (.ptr 0 0),vi i] [prC g a,.map (Xec met)] fun r post=>r=vs (bT (scB y.x))/\post=[prC g a,.map (Xec met)]:=by
 have c2:=Y7f (gp:=gp) h.e.u h.p y.x hr hs.2.2.1
 refine Ypc ?_
 simp only[go_sem]
 repeat' first|refine Kn rfl ?_|(refine Kw ?_;simp only[go_sem])|refine Kf ?_|refine⟨_,c2,Kg ?_⟩|refine⟨_,⟨c2,rfl⟩,Kg ?_⟩|refine⟨_,⟨Kq _,(Xab hy),rfl⟩,Kg ?_⟩|(apply Kp<;>intro _<;>try (exfalso;omega))
 all_goals trace_state
theorem Jii {g:Gr} (a met:List Int) (i:Int):Tri QP gp 121 [.one (.ptr 0 0),vi i] [prC g a,.map (Xec met)] fun r post=>r=vs (bT [91,93])/\post=[prC g a,.map (Xec met)]:=by
 refine Ypd ?_
 simp only[go_sem]
 repeat' first|refine Kn rfl ?_|(refine Kw ?_;simp only[go_sem])|refine Kf ?_|(apply Kp<;>intro _<;>try (exfalso;omega))
 exact rfl
theorem Jdw {g:Gr} (a met:List Int) (i:Int):Tri QP gp 122 [.one (.ptr 0 0),vi i] [prC g a,.map (Xec met)] fun r post=>r=vs (bT [123,125])/\post=[prC g a,.map (Xec met)]:=by
 refine Ype ?_
 simp only[go_sem]
 repeat' first|refine Kn rfl ?_|(refine Kw ?_;simp only[go_sem])|refine Kf ?_|(apply Kp<;>intro _<;>try (exfalso;omega))
 exact rfl
abbrev Xfs (y:Nd):List UInt8:=Wwf (.mk y.k ⟨#[]⟩ y.x y.keys [])
theorem Xmc (h:Env13 gp) {g:Gr} (hg:Tdy g) (hst:∀ x∈g.l,x.short) (a met:List Int) {i:Nat} {y:Nd} (hy:g.l[i]?=some y) (hk:y.kids=[]) :
  Tri QP gp 83 [.one (.ptr 0 0),vi i] [prC g a,.map (Xec met)] fun r post=>r=.one (.d (Xt1 (bT (Xfs y))))/\post=[prC g a,.map (Xec met)]:=by
 have hd:((y.kids.length:Int)==0)=true:=by rw[hk];rfl
 have hsy:=hst y (List.mem_of_getElem? hy)
 have fin:∀ (f:FuncId) (s:List UInt8),Xaa QP f=true->Xdz false [.i] [(vi 0,.one (.mvo (.func 120) false [.ptr 0 0])),(vi 1,.one (.mvo (.func 121) false [.ptr 0 0])),(vi 2,.one (.mvo (.func 122) false [.ptr 0 0]))] (vi y.k)=some (some (.one (.mvo (.func f) false [.ptr 0 0]))) ->
   Tri QP gp f [.one (.ptr 0 0),vi i] [prC g a,.map (Xec met)] (fun r post=>r=vs (bT s)/\post=[prC g a,.map (Xec met)]) ->
   Tri QP gp 83 [.one (.ptr 0 0),vi i] [prC g a,.map (Xec met)] fun r post=>r=.one (.d (Xt1 (bT s)))/\post=[prC g a,.map (Xec met)]:=by
  intro f s hcal hf hc
  refine Xov ?_
  simp only[go_sem]
  repeat' first|refine Kn rfl ?_|(refine Kw ?_;simp only[hd,go_sem])|refine Kf ?_|refine⟨_,⟨Kq _,(Xab hy),rfl⟩,Kg ?_⟩|refine⟨_,rfl,Kg ?_⟩|refine⟨_,⟨hf,rfl⟩,Kg ?_⟩|(apply Kp<;>intro _<;>try (exfalso;omega))
  refine Or.inr (Or.inr ⟨[0,1],vs (bT s),[prC g a,.map (Xec met)],(by simp only[Xay,Xcl,rnV,rnA,Xcx,rn0,Xcw,Xbo,Xcm,rnC,Xak,List.isEmpty_nil,Xah,reduceCtorEq,↓reduceIte,Qa,Qb,Qc,Qd,Qe,Qf,Qg,Qh,Qi,Qj,Qk,Ql,Qm,Qn,Qo,Qp,Qq,Qr];simp only[go_sem];exact⟨hcal,hc⟩),Kg ?_⟩)
  simp only[bkO,bkC,Xah]
  simp only[go_sem]
  repeat' first|refine Kn rfl ?_|(refine Ka ?_;simp only[go_sem])|refine Kf ?_|(apply Kp<;>intro _<;>try (exfalso;omega))
  refine Kt (fr 71 [(4,.one (.d (Xt1 (bT s))))]) ?_
  refine Kk 2 (by simp only[List.length_nil,List.length_cons];decide) (by simp only[go_sem]) (by simp only[List.take_succ_cons,List.take_zero,List.all_cons,List.all_nil,Xah];simp only[go_sem]) ?_
  simp only[go_sem]
  repeat' first|refine Kn rfl ?_|(refine Kw ?_;simp only[go_sem])|refine Kf ?_|(apply Kp<;>intro _<;>try (exfalso;omega))
  all_goals trace_state
 rcases Xgk hg hy with ⟨h0,h1,_,h2⟩|⟨h0,_⟩|⟨h0,_⟩
 ·have e:Xfs y=scB y.x:=by show (if y.k=0 then scB y.x else _)=_;rw[if_pos h0]
  rw[e]
  exact fin _ _ Whg (by rw[h0];rfl) (Yx2 h a met hy h2 hsy)
 ·have e:Xfs y=[91,93]:=by show (if y.k=0 then scB y.x else if y.k=1 then _ else _)=_;rw[if_neg (by omega),if_pos h0]
  rw[e]
  exact fin _ _ Whj (by rw[h0];rfl) (Jii a met i)
 ·have e:Xfs y=[123,125]:=by show (if y.k=0 then scB y.x else if y.k=1 then _ else _)=_;rw[if_neg (by omega),if_neg (by omega)]
  rw[e]
  exact fin _ _ Whm (by rw[h0];rfl) (Jdw a met i)
theorem Xgl (h:Env13 gp) {g:Gr} (hg:Tdy g) {i:Nat} (hi:i < g.l.length):anc g i<=1000:=by
 have:=Xmb hi;have:=hg.good.len;omega
theorem X20 (h:Env13 gp) {g:Gr} (hg:Tdy g) (met:List Int) {i:Nat} {y:Nd} (hy:g.l[i]?=some y) (hk:y.kids≠[]) (hm:(i:Int)∈met) (ha:0 < anc g i) :
  Tri QP gp 83 [.one (.ptr 0 0),vi i] [prC g (Xel g),.map (Xec met)] fun r post=>r=.one (.d (Xt1 (bT (42::(Xaj (anc g i)).data.toList))))/\post=[prC g (Xel g),.map (Xec met)]:=by
 have hi:=(Kr.1 hy).1
 have hd:((y.kids.length:Int)==0)=false:=by simp[hk]
 have han:=Xfr hi
 have hle:=Xgl h hg hi
 have c2:=Yky h.p (anc g i) (by omega) (by omega)
 have hlen:=Lib.itoa_length_le (anc g i) (by omega) (by omega)
 have hnm:(⟨#[97]⟩:ByteArray)++⟨(Lib.itoa (anc g i)).toArray⟩=Xaj (anc g i):=by unfold Xaj;rw[if_pos ha]
 have hszN:((#[(97:UInt8)].size+(Lib.itoa (anc g i)).toArray.size:Nat):Int)<=9223372036854775807:=by simp;omega
 have hsz2:((#[(42:UInt8)].size+(Xaj (anc g i)).size:Nat):Int)<=9223372036854775807:=by
  have:(Xaj (anc g i)).size=(97::Lib.itoa (anc g i)).length:=by rw[<- Xi4 ha];simp
  rw[this];simp;omega
 have e2:(⟨#[42]⟩:ByteArray)++Xaj (anc g i)=bT (42::(Xaj (anc g i)).data.toList):=Xnu [42] _
 have hmf:=Xr1 met i
 rw[if_pos hm] at hmf
 have hd2:decide (anc g i > 0)=true:=by simp;omega
 refine Xov ?_
 simp only[go_sem]
 repeat' first|refine Kn rfl ?_|(refine Kw ?_;simp only[hd,hd2,hnm,e2,go_sem])|refine Kf ?_|refine⟨_,c2,Kg ?_⟩|refine⟨_,⟨c2,rfl⟩,Kg ?_⟩|refine⟨_,⟨Kq _,(Xab hy),rfl⟩,Kg ?_⟩|refine⟨_,⟨Kq _,(Xab han),rfl⟩,Kg ?_⟩|refine⟨hszN,?_⟩|refine⟨hsz2,?_⟩|refine⟨_,⟨hmf,rfl⟩,Kg ?_⟩|(apply Kp<;>intro _<;>try (exfalso;omega))
 all_goals trace_state
theorem Xmd (h:Env13 gp) {g:Gr} (hg:Tdy g) (met:List Int) {i:Nat} {y:Nd} (hy:g.l[i]?=some y) (hk:y.kids≠[]) (hm:(i:Int) ∉ met) :
  Tri QP gp 83 [.one (.ptr 0 0),vi i] [prC g (Xel g),.map (Xec met)] fun r post=>r=.one (.d (X2z i (Xaj (anc g i))))/\post=[prC g (Xel g),.map (Xec (met++[(i:Int)]))]:=by
 have hi:=(Kr.1 hy).1
 have hd:((y.kids.length:Int)==0)=false:=by simp[hk]
 have han:=Xfr hi
 have hle:=Xgl h hg hi
 have hmf:=Xr1 met i
 rw[if_neg hm] at hmf
 have hmp:=X1i met i
 rw[show Jek met i=met++[(i:Int)] from by unfold Jek;rw[if_neg hm]] at hmp
 by_cases ha:0 < anc g i
 ·have c2:=Yky h.p (anc g i) (by omega) (by omega)
  have hlen:=Lib.itoa_length_le (anc g i) (by omega) (by omega)
  have hnm:(⟨#[97]⟩:ByteArray)++⟨(Lib.itoa (anc g i)).toArray⟩=Xaj (anc g i):=by unfold Xaj;rw[if_pos ha]
  have hszN:((#[(97:UInt8)].size+(Lib.itoa (anc g i)).toArray.size:Nat):Int)<=9223372036854775807:=by simp;omega
  have hd2:decide (anc g i > 0)=true:=by simp;omega
  refine Xov ?_
  simp only[go_sem]
  repeat' first|refine Kn rfl ?_|(refine Kw ?_;simp only[hd,hd2,hnm,go_sem])|refine Kf ?_|refine⟨_,c2,Kg ?_⟩|refine⟨_,⟨c2,rfl⟩,Kg ?_⟩|refine⟨_,⟨Kq _,(Xab hy),rfl⟩,Kg ?_⟩|refine⟨_,⟨Kq _,(Xab han),rfl⟩,Kg ?_⟩|refine⟨hszN,?_⟩|refine⟨_,⟨hmf,rfl⟩,Kg ?_⟩|refine⟨_,hmp,Kg ?_⟩|(apply Kp<;>intro _<;>try (exfalso;omega))
  all_goals trace_state
 ·have hd2:decide (anc g i > 0)=false:=by simp;omega
  rw[Xe8 ha]
  refine Xov ?_
  simp only[go_sem]
  repeat' first|refine Kn rfl ?_|(refine Kw ?_;simp only[hd,hd2,go_sem])|refine Kf ?_|refine⟨_,⟨Kq _,(Xab hy),rfl⟩,Kg ?_⟩|refine⟨_,⟨Kq _,(Xab han),rfl⟩,Kg ?_⟩|refine⟨_,⟨hmf,rfl⟩,Kg ?_⟩|refine⟨_,hmp,Kg ?_⟩|(apply Kp<;>intro _<;>try (exfalso;omega))
  all_goals trace_state
theorem Y8v {S:Sx} {k:List MI} {s:St} (j:Nat) (h:G S k ⟨s.fr,Xb1 s.own j .dead⟩):G S k s:=by
 rintro Y a w ⟨H,an,F,ms,hs⟩
 rw[Xat] at h
 have h1:=hs.evolve (may:=fun _=>False) (own':=s.own.set j .dead) (F':=fun i b=>i≠j/\F i b) (WKeep.refl w _) (fun _ hb=>hb.elim) (Heap.Le.refl _) hs.mod (fun b o hb=>.inl hb) (Anc.Le.refl _) (fun i=>by simp[hs.anc i]) (fun i c hc=>by
   rw[List.getElem?_set] at hc
   split at hc
   ·rename_i e
    subst e
    split at hc
    ·rename_i hl
     cases hc
     obtain⟨p,hp⟩:=(hs.anc j).2 hl
     exact⟨p,hp,fun b hb=>hb.1 rfl⟩
    ·cases hc
   ·rename_i e
    obtain⟨p,hp,hsc⟩:=hs.own i c hc
    have ef:(fun b=>i≠j/\F i b)=F i:=by funext b;simp[Ne.symm e]
    refine⟨p,hp,?_⟩
    rw[ef];exact hsc) (fun i b hb=>by
   obtain⟨g1,g2,g3⟩:=hs.fp i b hb.2
   exact⟨by simpa using hs.fl i b hb.2,g1,g2,.inr ⟨i,hb.2⟩⟩) (fun i i' b hi hi'=>hs.dj i i' b hi.2 hi'.2)
 exact h Y a w ⟨_,_,_,ms,h1⟩
theorem Xme {P:Program} {f:FuncId} {args:List V} {pre:List Ch} {R R':V->List Ch->Prop} (h:Tri P gp f args pre R) (hR:∀ r c,R r c->R' r c):Tri P gp f args pre R':=by
 intro H w an F vs a1 a2 a3 a4 a5 a6 a7
 exact (h H w an F vs a1 a2 a3 a4 a5 a6 a7).mono fun e w' ⟨v,res,post,H',an',F',h1,h2,h3⟩=>⟨v,res,post,H',an',F',h1,hR _ _ h2,h3⟩
def Xbv:List (List UInt8)->List (List UInt8)->List (List UInt8)
 | out,[]=>out
 | out,s::r=>if Xag (out++[s]) > 8000 then out++[s] else Xbv (out++[s]) r
theorem Xii:∀ (out A B:List (List UInt8)),Xag (out++A)<=8000->Xbv out (A++B)=Xbv (out++A) B
 | out,[],B,_=>by simp
 | out,s::A,B,h=>by
  have h1:Xag (out++[s])<=8000:=by
   rw[show out++s::A=(out++[s])++A from by simp,Xcu] at h;omega
  have h2:Xag ((out++[s])++A)<=8000:=by simpa using h
  simp only[List.cons_append,Xbv,if_neg (Nat.not_lt.2 h1)]
  rw[Xii (out++[s]) A B h2];simp
theorem Xnv:∀ (out A B:List (List UInt8)),8000 < Xag (out++A)->Xag out<=8000->Xbv out (A++B)=Xbv out A
 | out,[],B,h,h0=>by simp at h;omega
 | out,s::A,B,h,h0=>by
  simp only[List.cons_append,Xbv]
  split
  ·rfl
  ·rename_i hn
   exact Xnv (out++[s]) A B (by simpa using h) (by omega)
theorem Xmf:∀ (A out:List (List UInt8)),8000 < Xag (out++A)->8000 < Xag (Xbv out A)
 | [],out,h=>by simpa [Xbv] using h
 | s::A,out,h=>by
  simp only[Xbv]
  split
  ·assumption
  ·exact Xmf A _ (by simpa using h)
theorem Xke (l:List (List UInt8)):l.length<=Xag l:=by
 induction l with
 | nil=>simp
 | cons s l ih=>unfold Xag at *;simp only[List.map_cons,List.sum_cons,List.length_cons];omega
theorem Xfa (out:List (List UInt8)) (s:List UInt8):Xag (out++[s])=Xag out+s.length+1:=by
 rw[Xcu];simp[Xag];omega
abbrev pbC (g:Gr):Ch:=.cells [.d (.int .i64 g.root),.d (.sl (nds g.l)),.d (.sl (Xad (Xel g))),.own 0 0]
abbrev stC (m:Ch) (g:Gr) (out:List (List UInt8)) (lp:Ch) (E:List Ch):List Ch:=m::pbC g::.cells [.own 4 out.length]::.cells [.d (.int .i64 (Xag out))]::.row 1 out.length (Xey out)::.cells [.ptr 1 0]::lp::E
abbrev itV (s:List UInt8) (n of:Int):V:=.agg [.d (.str (bT s)),.d (.int .i64 n),.d (.int .i64 of)]
abbrev itA (s:List UInt8) (n of:Int):List A:=[.d (.str (bT s)),.d (.int .i64 n),.d (.int .i64 of)]
def frP:List V:=fr 48 [(7,.one (.ptr 2 0)),(8,.one (.ptr 3 0)),(30,.one (.clo (.func 82) [.ptr 5 0]))]
theorem X1k:Xcl [0,1,2,3,4,5,6] frP=some frP:=rfl
theorem X1l (n:Nat):frP.map (bkV n [0,1,2,3,4,5,6])=frP:=rfl
theorem Xg3:frP.flatMap V.refsT=[2,3,5]:=rfl
def Xpk (gp:Heap) (g:Gr) (l:Nat) (rc:Loop):Prop :=
 ∀ (S:Sx),S.P=QP->S.gp=gp->∀ (m:Ch) (E:List Ch) (out:List (List UInt8)) (s:List UInt8) (n of:Int),m.refs=[]->Xag out<=8000->s.length<=100000000 ->
  Xn4 S l [itV s n of] (stC m g out (.lp l frP rc .ready none) E)
   (stC m g (out++[s]) (.lp l frP rc (if Xag (out++[s]) > 8000 then .done else .ready) (if Xag (out++[s]) > 8000 then some (.exit 0) else none)) (E++[.cells (itA s n of)])) (decide (Xag (out++[s])<=8000))
abbrev yV (l:Nat):V:=.one (.d (.raw (.func (.yield l) #[] #[])))
end Go.Fw.L07
