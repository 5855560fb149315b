/- Chapter 13: what the rows give. -/
import Derived.Test.YtakgmpkfpkmkaaaGreatDoorL07R
import Derived.Test.YtakgmpkfpkmkaaaGreatDoorNb
import Derived.Lib.LaidTab
import Derived.Stop.LaidErr
import Derived.Test.YtakgmpkfpkmkaaaGreatDoorNd
import Derived.Test.YtakgmpkfpkmkaaaGreatDoorVb
import Derived.Test.YtakgmpkfpkmkaaaGreatDoorNc
set_option linter.all false
namespace Go.Fw.L07
open Go Go.Fw Go.Proofs Go.RowKit Go.Proofs.YtakgmpkfpkmkaaaGreatDoor
open Nat renaming reduceAdd->Qa,reduceSub->Qb,reduceMul->Qc,reduceLeDiff->Qd,reduceLT->Qe,reduceEqDiff->Qf
open Int renaming reduceToNat->Qg,reduceLT->Qh,reduceLE->Qi,reduceGT->Qj,reduceGE->Qk,reduceEq->Ql,reduceNe->Qm,reduceBEq->Qn,reduceBNe->Qo,reduceAdd->Qp,reduceSub->Qq,reduceNeg->Qr
set_option maxRecDepth 4000
abbrev Jj9 : List (String × DataW Unit) := [("math/bits.deBruijn32tab", Rows.laid_math_bits_deBruijn32tab), ("math/bits.deBruijn64tab", Rows.laid_math_bits_deBruijn64tab), ("internal/strconv.uint64pow10", Rows.laid_internal_strconv_uint64pow10)]
abbrev Xi5 : List (String × DataW Unit) := [("math/bits.deBruijn32tab", Rows.laid_math_bits_deBruijn32tab), ("math/bits.deBruijn64tab", Rows.laid_math_bits_deBruijn64tab), ("internal/strconv.uint64pow10", Rows.laid_internal_strconv_uint64pow10), ("unicode/utf8.acceptRanges", Rows.laid_unicode_utf8_acceptRanges), ("errors.errorType", Rows.laid_errors_errorType), ("unicode/utf8.first", Rows.laid_unicode_utf8_first)]
abbrev Xex : List (String × DataW Unit) := [("math/bits.deBruijn32tab", Rows.laid_math_bits_deBruijn32tab), ("math/bits.deBruijn64tab", Rows.laid_math_bits_deBruijn64tab), ("internal/strconv.uint64pow10", Rows.laid_internal_strconv_uint64pow10), ("unicode/utf8.acceptRanges", Rows.laid_unicode_utf8_acceptRanges), ("unicode/utf8.first", Rows.laid_unicode_utf8_first)]
theorem Wwu:(Lib.tabData .u64 Lib.pow10Tab:DataW Unit)=Rows.laid_internal_strconv_uint64pow10:=by kernel_rfl
theorem Ji7 : Tryz.prog.globalNamed "internal/strconv.uint64pow10" = some 3 := by kernel_rfl
theorem Wwv {W : World} {rest : List (String × DataW Unit)} (h : laidMet Tryz.prog (("internal/strconv.uint64pow10", Rows.laid_internal_strconv_uint64pow10) :: rest) W) : Lib.TabIs Tryz.prog W "internal/strconv.uint64pow10" .u64 Lib.pow10Tab :=
 Lib.tabIs_of_head (t:=263) (e:=242) (n:=20) Ji7 (by kernel_rfl) (by kernel_rfl) (by kernel_rfl) (by kernel_rfl) (by kernel_rfl) (rest:=rest) (by rw[Wwu];exact h)
theorem Jea {W : World} (h : Lib.TabIs Tryz.prog W "internal/strconv.uint64pow10" .u64 Lib.pow10Tab) : X2v (Xbd W) := fun H w h1 h2 => by
 unfold Lib.TabIs World.var? at h ⊢
 rw[Ji7] at h ⊢
 simp only[Option.bind_some] at h ⊢
 cases hb:W.heap[(3:Nat)]? with
 | none=>rw[hb] at h;simp at h
 | some o=>rw[h2 _ _ (h1 _ _ hb)];rw[hb] at h;exact h
theorem Xpq {W:World} (h:laidMetH Tryz.prog Xi5 W):Env13 (Xbd W):=by
 have h' : laidMet Tryz.prog Xex W /\ handlesMet Tryz.prog [("errors.errorType", Rows.laid_errors_errorType)] W := h
 have hp:=laidMet.tail (laidMet.tail h'.1)
 have hq:=laidMet.tail hp
 exact⟨Xtj (show laidMetH Tryz.prog W7b W from ⟨hq,h'.2⟩),Jea (Wwv hp)⟩
theorem Www:Tryz.prog.mayEnter=true:=by kernel_rfl
noncomputable def Xfu (os:Os):World:=(Xiz os).layVars Tryz.prog Xex
theorem Xmt (os:Os):(Xfu os).os=os:=World.layVars_os _ _ _
theorem Xmj (os:Os) (args:Array Value):laidMetH Tryz.prog Xi5 ((Xfu os).forCall (fun _ _=>0) ⟨#[],args,[]⟩).memory:=by
 refine laidMetH_of_parts ?_ (by kernel_rfl)
 have e:Xi5.filter (fun x=>x.2.handleName?.isNone)=Xex:=by kernel_rfl
 rw[e]
 have h:laidMet Tryz.prog Xex (Xfu os):=laidMet_layVars (w0:=Xiz os) (Xex.map (·.1)) [] (by
   have e1:(Xex.filter fun x=>(Xex.map (·.1)).contains x.1)=Xex:=by kernel_rfl
   rw[e1];rfl) (by kernel_rfl) (by kernel_rfl) (by
   have e2:(Xex.filter fun x=>!(Xex.map (·.1)).contains x.1)=[]:=by kernel_rfl
   rw[e2];exact LaidIn.none)
 exact h.of_heap (by simp[World.memory,World.forCall,Input.heap])
end Go.Fw.L07
namespace Go.Fw.L07
open Go Go.Fw
open Go.Fw.Sh renaming intro->Kg
open Go.Fw renaming Xdt->Ka,Xd2->Kf,Xcp->Kt,Xfl->Ku,Xco->Kl,Xeg->Km,Gx->Kn
open Go.Fw renaming Xbs->Ka, Xbw->Ka, Xby->Ka, Xbz->Ka
open Go.Fw renaming Xdt->Kw, Xbs->Kw, Xbw->Kw, Xby->Kw, Xbz->Kw, Xhh->Kw, Xd3->Kw
open Go.Fw.Sh renaming intro->Kf
open Int renaming natCast_nonneg->Kq
open List renaming getElem?_eq_some_iff->Kr
open And renaming intro->Kp
open Go.Proofs.Tryz renaming prog->QP
open Nat renaming reduceAdd->Qa,reduceSub->Qb,reduceMul->Qc,reduceLeDiff->Qd,reduceLT->Qe,reduceEqDiff->Qf
open Int renaming reduceToNat->Qg,reduceLT->Qh,reduceLE->Qi,reduceGT->Qj,reduceGE->Qk,reduceEq->Ql,reduceNe->Qm,reduceBEq->Qn,reduceBNe->Qo,reduceAdd->Qp,reduceSub->Qq,reduceNeg->Qr
set_option maxRecDepth 4000
variable {gp:Heap}
theorem Xsi {g:Gr} (hg:Tdy g) (hst:∀ x∈g.l,x.short) {d:Nat} {t met met':List Int} {q:List Tr} (h:EmW g d t met q met'):∀ p∈q,(stB p).length<=1700001:=by
 induction h with
 | nil=>intro p hp;cases hp
 | @leaf d i y t met met' q hy hk h ih =>
  intro p hp
  rcases List.mem_cons.1 hp with rfl|hp
  ·have:=Xfb hg hst hy
   show (if y.k=3 then _ else if ([]:List Tr)=[] then 32::Xfs y else _:List UInt8).length<=_
   rw[if_neg (Xca hg hy),if_pos rfl,List.length_cons];omega
  ·exact ih p hp
 | @ref d i y t met met' q hy hk hm ha h ih =>
  intro p hp
  rcases List.mem_cons.1 hp with rfl|hp
  ·have:=Xb4 (anc g i) (by have:=Xmb (Kr.1 hy).1;have:=hg.good.len;omega)
   show (if (3:Int)=3 then 32::42::(Xaj (anc g i)).data.toList else _:List UInt8).length<=_
   rw[if_pos rfl,List.length_cons,List.length_cons];omega
  ·exact ih p hp
 | @node d i y t met met1 met' q1 q2 hy hk hm hd h1 h2 ih1 ih2 =>
  intro p hp
  rcases List.mem_cons.1 hp with rfl|hp
  ·have:=Xb4 (anc g i) (by have:=Xmb (Kr.1 hy).1;have:=hg.good.len;omega)
   have hq1:q1≠[]:=fun e=>hk (List.eq_nil_of_length_eq_zero (by rw[<- h1.len,e];rfl))
   show (if y.k=3 then _ else if q1=[] then _ else if Xaj (anc g i)=⟨#[]⟩ then [] else 32::38::(Xaj (anc g i)).data.toList:List UInt8).length<=_
   rw[if_neg (Xca hg hy),if_neg hq1]
   split
   ·simp
   ·rw[List.length_cons,List.length_cons];omega
  ·exact ih2 p hp
theorem Xt7 {g:Gr} (hg:Tdy g) (hst:∀ x∈g.l,x.short) {d:Nat} {t met met':List Int} {q:List Tr} (h:EmW g d t met q met'):∀ (n:Nat) (hs:List (List UInt8)),d<=24->n<=2*d->(∀ h∈hs,h.length<=1700001)->∀ s∈lnK n hs q,s.length<=3500000:=by
 have hone:∀ (n:Nat) (h0:List UInt8) (t0:Tr),n<=48->h0.length<=1700001->(stB t0).length<=1700001->(Xbf n++(h0++stB t0)).length<=3500000:=fun n h0 t0 h1 h2 h3=>by
  rw[List.length_append,List.length_append,show (Xbf n).length=n by simp[Xbf]];omega
 have hsb:=Xsi hg hst h
 induction h with
 | nil=>intro n hs _ _ _ s hm;rw[Xbu] at hm;cases hm
 | leaf hy hk h ih =>
  intro n hs hd hn hh s hm
  cases hs with
  | nil=>cases hm
  | cons h0 hs =>
   rw[Xct,Xd9] at hm
   rcases List.mem_append.1 hm with hm|hm
   ·rcases List.mem_cons.1 hm with rfl|hm
    ·exact hone _ _ _ (by omega) (hh h0 (by simp)) (hsb _ (by simp))
    ·have hm:s∈lnK (n+2) _ []:=hm
     rw[Xbu] at hm;cases hm
   ·exact ih (fun p hp=>hsb p (by simp[hp])) n hs hd hn (fun h hm=>hh h (by simp[hm])) s hm
 | ref hy hk hm0 ha h ih =>
  intro n hs hd hn hh s hm
  cases hs with
  | nil=>cases hm
  | cons h0 hs =>
   rw[Xct,Xd9] at hm
   rcases List.mem_append.1 hm with hm|hm
   ·rcases List.mem_cons.1 hm with rfl|hm
    ·exact hone _ _ _ (by omega) (hh h0 (by simp)) (hsb _ (by simp))
    ·have hm:s∈lnK (n+2) _ []:=hm
     rw[Xbu] at hm;cases hm
   ·exact ih (fun p hp=>hsb p (by simp[hp])) n hs hd hn (fun h hm=>hh h (by simp[hm])) s hm
 | @node d i y t met met1 met' q1 q2 hy hk hm0 hd0 h1 h2 ih1 ih2 =>
  intro n hs hd hn hh s hm
  cases hs with
  | nil=>cases hm
  | cons h0 hs =>
   rw[Xct,Xd9] at hm
   rcases List.mem_append.1 hm with hm|hm
   ·rcases List.mem_cons.1 hm with rfl|hm
    ·exact hone _ _ _ (by omega) (hh h0 (by simp)) (hsb _ (by simp))
    ·have e:Xar y.k y.keys q1.length=Xar y.k y.keys y.kids.length:=by rw[h1.len]
     refine ih1 (Xsi hg hst h1) (n+2) (Xar y.k y.keys q1.length) (by omega) (by omega) ?_ s hm
     rw[e];exact Xft hg hst hy
   ·exact ih2 (fun p hp=>hsb p (by simp[hp])) n hs hd hn (fun h hm=>hh h (by simp[hm])) s hm
theorem Xmk {c:Nat}:∀ {l:List (List UInt8)},(∀ s∈l,s.length<=c)->Xag l<=(c+1)*l.length
 | [],_=>by simp[Xag]
 | s::l,h=>by
  have h1:=h s (by simp)
  have h2:=Xmk (l:=l) fun t ht=>h t (by simp[ht])
  have:Xag (s::l)=s.length+1+Xag l:=by simp[Xag]
  rw[this,List.length_cons,Nat.mul_succ];omega
def FpL (g:Gr) (i:Nat):Int:=if 0 < anc g i then 1 else (((0::flat g).count (i:Int):Nat):Int)
theorem Ynn (g:Gr):Xg6 (FpL g) g.l.length=Xea g:=rfl
theorem Xml {g:Gr} (hg:Tdy g):(flat g).length<=2400:=by
 have h1:=Xi3 (l:=g.l) fun x hx=>(hg.good.s x hx).2
 have:=hg.good.len
 show (g.l.flatMap Nd.kids).length<=2400
 omega
theorem Jeb {g:Gr} (hg:Tdy g) (i:Nat):-2401<=FpL g i/\FpL g i<=2401:=by
 unfold FpL
 split
 ·omega
 ·have:=List.count_le_length (a:=(i:Int)) (l:=0::flat g)
  have:=Xml hg
  rw[List.length_cons] at *
  omega
theorem Yno {g:Gr} (hg:Tdy g) (hst:∀ x∈g.l,x.short) (hd:Xgj g):(∀ s∈Xcy (emT g),s.length<=3500000)/\(Xcy (emT g)).length<=3000:=by
 obtain⟨met,hem,hN,hfl⟩:=X1n hg hd
 have hf2:=Xml hg
 obtain⟨i0,y,p,q2,met1,e0,hy,e1,hr,hc⟩:=hem.inv
 obtain rfl:i0=0:=by omega
 obtain⟨e2,_⟩:=List.cons.inj e1
 rw[<- e2] at hc
 generalize emT g=t at *
 rcases hc with ⟨hk,_,rfl⟩|⟨_,hm,_⟩|⟨hk,_,q1,h1,rfl⟩
 ·have hTT:Xcy (.mk y.k ⟨#[]⟩ y.x y.keys [])=[Xfs y]:=by unfold Xcy;rw[if_pos (show (Tr.mk y.k ⟨#[]⟩ y.x y.keys []).kids=[] from rfl)]
  rw[hTT]
  have:=Xfb hg hst hy
  refine⟨fun s hs=>?_,by simp⟩
  rw[List.mem_singleton] at hs;rw[hs];omega
 ·cases hm
 ·have hq1:q1≠[]:=fun e=>hk (List.eq_nil_of_length_eq_zero (by rw[<- h1.len,e];rfl))
  have hTT:Xcy (.mk y.k (Xaj (anc g 0)) y.x y.keys q1)=(if Xaj (anc g 0)=⟨#[]⟩ then [] else [38::(Xaj (anc g 0)).data.toList])++lnK 0 (Xar y.k y.keys y.kids.length) q1:=by
   unfold Xcy;rw[if_neg (show ¬ (Tr.mk y.k (Xaj (anc g 0)) y.x y.keys q1).kids=[] from hq1),<- h1.len];rfl
  rw[hTT]
  have hhl:(Xar y.k y.keys y.kids.length).length=q1.length:=by rw[h1.len];exact Xgm hg hy hk
  have hl:=Xmh hg h1 0 _ hhl
  have hls:=Xt7 hg hst h1 0 _ (by omega) (by omega) (Xft hg hst hy)
  have hns:=Xb4 (anc g 0) (by have:=Xmb (Kr.1 hy).1;have:=hg.good.len;omega)
  have hf:(q1.flatMap Xch).length<=2401:=by
   rw[Xbp] at hfl;simp only[Tr.kids,List.length_cons] at hfl;omega
  split
  ·rw[List.nil_append];exact⟨hls,by omega⟩
  ·refine⟨fun s hs=>?_,by rw[List.length_append,hl,List.length_singleton];omega⟩
   rcases List.mem_append.1 hs with hs|hs
   ·rw[List.mem_singleton] at hs;rw[hs,List.length_cons];omega
   ·exact hls s hs
abbrev lnA (g:Gr):List A:=[.d (.int .i64 g.root),.d (.sl (nds g.l))]
set_option maxHeartbeats 4000000 in
theorem Y80 (h:Env13 gp) {g:Gr} (hs:Xc9 g) (hst:∀ x∈g.l,x.short) (hlen:g.l.length<=900):Does QP gp 14 [g.v] (.tup [.one (.d (.sl (Xey (Xfc g).1))),vi (Xfc g).2]):=by
 by_cases ht:chk g=none/\g=Xa0 g
 case neg =>
  have c1:=Xsh (gp:=gp) hs ht hst (by omega)
  rw[Xpm ht]
  refine Yzf ?_
  simp only[go_sem]
  repeat' first|refine Kn rfl ?_|(refine Kw ?_;simp only[go_sem])|refine Kf ?_|refine⟨_,c1,Kg ?_⟩|refine⟨_,⟨c1,rfl⟩,Kg ?_⟩|(apply Kp<;>intro _<;>try (exfalso;omega))
 case pos =>
 have hg:=Y8w hs ht
 have c1:=X28 (gp:=gp) hg hst hlen
 have c2:=Xt6 (gp:=gp) hg hst (by omega)
 have c3:=X1t (gp:=gp) hg hst (by omega)
 have hdl:(Xfq g).length=g.l.length:=hg.dep_len
 have hul:=Xma g
 refine Yzf ?_
 simp only[go_sem]
 repeat' first|refine Kn rfl ?_|(refine Kw ?_;simp only[go_sem])|refine Kf ?_|refine⟨_,c1,Kg ?_⟩|refine⟨_,⟨c1,rfl⟩,Kg ?_⟩|(apply Kp<;>intro _<;>try (exfalso;omega))
 refine Kt (fr 141 [(1,.one (.d (.bx [.int .i64 g.root,.sl (nds g.l)]))),(4,.one (.d (.sl (Xad (Xfq g))))),(6,vi (0:Nat))]) ?_
 refine Km (fun mz sz=>∃ i:Nat,i<=g.l.length/\mz=g.l.length - i/\(∀ (j:Nat) (x:Nd) (d:Int),j < i->g.l[j]?=some x->(Xfq g)[j]?=some d->d<=24/\(d=24->x.kids=[]))/\sz=⟨fr 141 [(1,.one (.d (.bx [.int .i64 g.root,.sl (nds g.l)]))),(4,.one (.d (.sl (Xad (Xfq g))))),(6,vi i)],[]⟩) (g.l.length) ⟨0,Nat.zero_le _,(Nat.sub_zero _).symm,?_,rfl⟩ ?_
 ·intro j x d hj;omega
 rintro _ _ ⟨i,hi,rfl,hok,rfl⟩
 simp only[go_sem]
 by_cases hil:i < g.l.length
 case pos =>
  obtain⟨x,hx⟩:=Xaf hil
  obtain⟨d,hd⟩:=Xaf (l:=Xfq g) (i:=i) (by omega)
  have hlt:(i:Int) < (Xfq g).length:=by omega
  have hik:inK .i64 ((i:Int)+1):=Xfe (by omega) (by omega)
  by_cases hb:d<=24/\(d=24->x.kids=[])
  case neg =>
   have hdq:¬ Xgj g:=fun hq=>hb (hq i x d hx hd)
   rw[Xr7 ht hdq]
   by_cases h1:d > 24
   ·repeat' (first|refine Kn rfl ?_|(refine Kw ?_;simp only[hlt,h1,go_sem])|refine Kf ?_|refine⟨_,⟨Kq _,(Xab hd),rfl⟩,Kg ?_⟩|refine⟨_,⟨Kq _,(Xab hx),rfl⟩,Kg ?_⟩|(apply Kp<;>intro _<;>try (exfalso;omega)))
   ·have h24:d=24:=by
     refine Classical.byContradiction fun e=>hb ⟨by omega,fun e'=>absurd e' e⟩
    have e1:(d==24)=true:=by rw[h24];rfl
    have h2:((x.kids.length:Nat):Int) > 0:=by
     cases hc:x.kids with
     | nil=>exact absurd ⟨by omega,fun _=>hc⟩ hb
     | cons=>simp
    repeat' first|refine Kn rfl ?_|(refine Kw ?_;simp only[hlt,h1,e1,h2,go_sem])|refine Kf ?_|refine⟨_,⟨Kq _,(Xab hd),rfl⟩,Kg ?_⟩|refine⟨_,⟨Kq _,(Xab hx),rfl⟩,Kg ?_⟩|(apply Kp<;>intro _<;>try (exfalso;omega))
  case pos =>
   have h1:¬ (d > 24):=by omega
   by_cases h24:d=24
   case' pos =>
    have e1:(d==24)=true:=by rw[h24];rfl
    have h2:¬ (((x.kids.length:Nat):Int) > 0):=by rw[hb.2 h24];simp
    repeat' first|refine Kn rfl ?_|(refine Ka ?_;simp only[hlt,h1,e1,h2,go_sem])|refine Kf ?_|refine⟨_,⟨Kq _,(Xab hd),rfl⟩,Kg ?_⟩|refine⟨_,⟨Kq _,(Xab hx),rfl⟩,Kg ?_⟩|refine⟨hik,?_⟩|(apply Kp<;>intro _<;>try (exfalso;omega))
   case' neg =>
    have e1:(d==24)=false:=by rw[beq_eq_false_iff_ne];exact h24
    repeat' first|refine Kn rfl ?_|(refine Ka ?_;simp only[hlt,h1,e1,go_sem])|refine Kf ?_|refine⟨_,⟨Kq _,(Xab hd),rfl⟩,Kg ?_⟩|refine⟨_,⟨Kq _,(Xab hx),rfl⟩,Kg ?_⟩|refine⟨hik,?_⟩|(apply Kp<;>intro _<;>try (exfalso;omega))
   all_goals
    refine Kt (fr 141 [(1,.one (.d (.bx [.int .i64 g.root,.sl (nds g.l)]))),(4,.one (.d (.sl (Xad (Xfq g))))),(6,vi (i+1))]) ?_
    refine Kl ⟨g.l.length - (i+1),by omega,i+1,by omega,rfl,?_,rfl⟩
    intro j y d' hj hy hd'
    by_cases hji:j=i
    ·subst hji
     rw[hx] at hy;cases hy
     rw[hd] at hd';cases hd'
     exact hb
    ·exact hok j y d' (by omega) hy hd'
 case neg =>
  obtain rfl:g.l.length=i:=by omega
  have hdq:Xgj g:=fun j x d hj hd=>hok j x d (Kr.1 hj).1 hj hd
  have hlt:¬ (((g.l.length:Nat):Int) < (Xfq g).length):=by omega
  repeat' first|refine Kn rfl ?_|(refine Ka ?_;simp only[hlt,go_sem])|refine Kf ?_|refine⟨_,c2,Kg ?_⟩|refine⟨_,⟨c2,rfl⟩,Kg ?_⟩|refine⟨_,c3,Kg ?_⟩|refine⟨_,⟨c3,rfl⟩,Kg ?_⟩|(apply Kp<;>intro _<;>try (exfalso;omega))
  refine Kt (fr 141 [(1,.one (.d (.bx [.int .i64 g.root,.sl (nds g.l)]))),(7,.one (.d (.sl (Xad (Xel g))))),(9,.one (.d (.sl (Xad (Xbi g))))),(11,vi (Xg6 (FpL g) (0:Nat))),(12,vi (0:Nat))]) ?_
  refine Km (fun mz sz=>∃ i:Nat,i<=g.l.length/\mz=g.l.length - i/\(0<=i)/\sz=⟨fr 141 [(1,.one (.d (.bx [.int .i64 g.root,.sl (nds g.l)]))),(7,.one (.d (.sl (Xad (Xel g))))),(9,.one (.d (.sl (Xad (Xbi g))))),(11,vi (Xg6 (FpL g) i)),(12,vi i)],[]⟩) (g.l.length) ⟨0,Nat.zero_le _,(Nat.sub_zero _).symm,?_,rfl⟩ ?_
  ·exact Nat.zero_le _
  rintro _ _ ⟨i,hi,rfl,-,rfl⟩
  simp only[go_sem]
  have hb1:=Xny (n:=g.l.length) (fun j _=>Jeb hg j) i (by omega)
  by_cases hil:i < g.l.length
  case pos =>
   have hlt2:(i:Int) < (Xbi g).length:=by omega
   have ha:=Xfr hil
   have hu:=Xkd hil
   have hb2:=Jeb hg i
   have hik:inK .i64 ((i:Int)+1):=Xfe (by omega) (by omega)
   have hnx:Xg6 (FpL g) (i+1)=Xg6 (FpL g) i+FpL g i:=rfl
   generalize Xg6 (FpL g) i=n at *
   by_cases hn:anc g i > 0
   case' pos =>
    have hF:FpL g i=1:=if_pos hn
    rw[hF] at hnx hb2
    have hik2:inK .i64 (n+1):=Xfe (by omega) (by omega)
    repeat' first|refine Kn rfl ?_|(refine Ka ?_;simp only[hlt2,hn,go_sem])|refine Kf ?_|refine⟨_,⟨Kq _,(Xab ha),rfl⟩,Kg ?_⟩|refine⟨_,⟨Kq _,(Xab hu),rfl⟩,Kg ?_⟩|refine⟨hik2,?_⟩|refine⟨hik,?_⟩|(apply Kp<;>intro _<;>try (exfalso;omega))
   case' neg =>
    have hF:FpL g i=(((0::flat g).count (i:Int):Nat):Int):=if_neg hn
    rw[hF] at hnx hb2
    generalize (((0::flat g).count (i:Int):Nat):Int)=c at *
    have hik2:inK .i64 (n+c):=Xfe (by omega) (by omega)
    repeat' first|refine Kn rfl ?_|(refine Ka ?_;simp only[hlt2,hn,go_sem])|refine Kf ?_|refine⟨_,⟨Kq _,(Xab ha),rfl⟩,Kg ?_⟩|refine⟨_,⟨Kq _,(Xab hu),rfl⟩,Kg ?_⟩|refine⟨hik2,?_⟩|refine⟨hik,?_⟩|(apply Kp<;>intro _<;>try (exfalso;omega))
   all_goals
    rw[<- hnx]
    refine Kt (fr 141 [(1,.one (.d (.bx [.int .i64 g.root,.sl (nds g.l)]))),(7,.one (.d (.sl (Xad (Xel g))))),(9,.one (.d (.sl (Xad (Xbi g))))),(11,vi (Xg6 (FpL g) (i+1))),(12,vi (i+1))]) ?_
    refine Kl ⟨g.l.length - (i+1),by omega,i+1,by omega,rfl,?_,rfl⟩
    exact Nat.zero_le _
  case neg =>
  obtain rfl:g.l.length=i:=by omega
  have hlt2:¬ (((g.l.length:Nat):Int) < (Xbi g).length):=by omega
  rw[Ynn g]
  by_cases hp:Xea g > 200
  ·rw[Xr8 ht hdq hp]
   repeat' first|refine Kn rfl ?_|(refine Kw ?_;simp only[hlt2,hp,go_sem])|refine Kf ?_|(apply Kp<;>intro _<;>try (exfalso;omega))
  obtain⟨met,hem,hN,hfl⟩:=X1n hg hdq
  obtain⟨i0,y,p,q2,met1,e0,hy,e1,hr,hc⟩:=hem.inv
  obtain rfl:i0=0:=by omega
  obtain⟨e2,_⟩:=List.cons.inj e1
  rw[<- e2] at hc
  have hTs:(∀ s∈Xcy (emT g),s.length<=3500000)/\(Xcy (emT g)).length<=3000:=Yno hg hst hdq
  have hfl2:=Xml hg
  have ha0:=Xfr (Kr.1 hy).1
  have hale:anc g 0<=1000:=by have:=Xmb (Kr.1 hy).1;have:=hg.good.len;omega
  have ho1:Xag (Xcy (emT g)) > 8000->Xfc g=([],20):=Xr9 ht hdq hp
  have ho2:¬ Xag (Xcy (emT g)) > 8000->Xfc g=(Xcy (emT g),0):=Xt2 ht hdq hp
  repeat' first|refine Kn rfl ?_|(refine Ka ?_;simp only[hlt2,hp,go_sem])|refine Kf ?_|(apply Kp<;>intro _<;>try (exfalso;omega))
  rcases hc with ⟨hk,_,hT⟩|⟨_,hm,_⟩|⟨hk,_,q1,h1,hT⟩
  have c5:=Xjs (gp:=gp) hg hst (.sl []) (.sl []) hy hk
  have hTT:Xcy (emT g)=[Xfs y]:=by rw[hT];unfold Xcy;rw[if_pos (show (Tr.mk y.k ⟨#[]⟩ y.x y.keys []).kids=[] from rfl)]
  refine Or.inl ⟨_,⟨c5,rfl⟩,Kg ?_⟩
  simp only[go_sem]
  repeat' first|refine Kn rfl ?_|(refine Ka ?_;simp only[go_sem])|refine Kf ?_|(apply Kp<;>intro _<;>try (exfalso;omega))
  refine Xap 1 ?_
  simp only[go_sem]
  refine Wwg 0 rfl ?_
  simp only[Yxy,List.map,go_sem]
  rw[show ([[D.str (bT (Xfs y))]]:List (List D))=Xey (Xcy (emT g)) by rw[hTT];rfl,show ([]:List (List D))=Xad [] from rfl]
  refine Kt (fr 141 [(13,.one (.ptr 0 0)),(16,vi ((0:Nat):Int)),(17,vi ((0:Nat):Int))]) ?_
  refine Ku 1 ?_
  simp only[go_sem]
  obtain⟨M,hM⟩:∃ M:List (List D),M=[]:=⟨_,rfl⟩
  rw[<- hM]
  rotate_left
  cases hm
  have c5:=Xgn (gp:=gp) hg (.sl []) (.sl []) hy hk
  refine Or.inl ⟨_,⟨c5,rfl⟩,Kg ?_⟩
  simp only[go_sem]
  refine Xeq 0 3 1 (by decide) rfl rfl ?_
  simp only[go_sem]
  refine Xeq 0 4 1 (by decide) rfl rfl ?_
  simp only[go_sem]
  have hq1:q1≠[]:=fun e=>hk (List.eq_nil_of_length_eq_zero (by rw[<- h1.len,e];rfl))
  have hTT:Xcy (emT g)=(if Xaj (anc g 0)=⟨#[]⟩ then [] else [38::(Xaj (anc g 0)).data.toList])++lnK 0 (Xar y.k y.keys y.kids.length) q1:=by
   rw[hT];unfold Xcy;rw[if_neg (show ¬ (Tr.mk y.k (Xaj (anc g 0)) y.x y.keys q1).kids=[] from hq1),<- h1.len];rfl
  have hfq:(q1.flatMap Xch).length<=2401:=by
   have:(Xch (emT g)).length=1+(q1.flatMap Xch).length:=by rw[hT,Xbp];simp[Tr.kids];omega
   omega
  have hit:=fun (l:List (List UInt8)) (v:Nat) (hl:l.length<=1)=>Wwp (gp:=gp) hg hst 2401 (d:=2) (i:=0) (x:=y) (met:=[]) (met':=met1) (q:=q1) (l:=l) (v:=v) hfq hy hk h1 (by omega) (by omega) (by omega) (by simp only[List.length_nil];omega)
  by_cases hn:anc g 0 > 0
  have hnm:(⟨#[38,97]⟩:ByteArray)++bT (Lib.itoa (anc g 0))=bT (38::(Xaj (anc g 0)).data.toList):=by rw[Xi4 hn];exact Xcv [38,97] _
  obtain⟨a,hae⟩:∃ a:Nat,anc g 0=(a:Int):=⟨(anc g 0).toNat,by omega⟩
  have c3:Does QP gp 20 [vi (anc g 0)] (vs (bT (Lib.itoa (anc g 0)))):=by rw[hae];exact Ynh a a (Nat.le_refl _) (by omega)
  have hitl:=Lib.itoa_length_le (anc g 0) (by omega) (by omega)
  have z0:((#[(38:UInt8),97].size+(bT (Lib.itoa (anc g 0))).size:Nat):Int)<=9223372036854775807:=by rw[Xa2];simp;omega
  rw[if_neg (X1g hn)] at hTT
  repeat' first|refine Kn rfl ?_|(refine Ka ?_;simp only[hn,hnm,z0,go_sem])|refine Kf ?_|refine⟨_,c3,Kg ?_⟩|refine⟨_,⟨c3,rfl⟩,Kg ?_⟩|refine⟨_,⟨Xab ha0,rfl⟩,Kg ?_⟩|(apply Kp<;>intro _<;>try (exfalso;omega))
  obtain⟨V,hit'⟩:∃ V,Tri QP gp 33 [.one (.ptr 0 0),vi 0,vs ⟨#[]⟩] (Xmo g [] [38::(Xaj (anc g 0)).data.toList] 0) fun r post=>r=.tup []/\post=Xmo g met1 (Xcy (emT g)) V:=⟨_,by rw[hTT];exact hit [38::(Xaj (anc g 0)).data.toList] 0 (by simp)⟩
  refine Or.inr (Or.inr ⟨[0,1,3],.tup [],Xmo g met1 (Xcy (emT g)) V,(by simp only[Xay,Xcl,rnV,rnA,Xcx,rn0,Xcw,Xbo,Xcm,rnC,Xak,List.isEmpty_nil,reduceCtorEq,↓reduceIte,Qa,Qb,Qc,Qd,Qe,Qf,Qg,Qh,Qi,Qj,Qk,Ql,Qm,Qn,Qo,Qp,Qq,Qr];simp only[go_sem];exact⟨Xvd,hit'⟩),Kg ?_⟩)
  simp only[bkO,bkC]
  simp only[go_sem]
  repeat' first|refine Kn rfl ?_|(refine Ka ?_;simp only[go_sem])|refine Kf ?_|(apply Kp<;>intro _<;>try (exfalso;omega))
  refine Xap 1 ?_
  simp only[go_sem]
  refine Xap 3 ?_
  simp only[go_sem]
  refine Kt (fr 141 [(13,.one (.ptr 0 0)),(16,vi ((0:Nat):Int)),(17,vi ((0:Nat):Int))]) ?_
  refine Ku 1 ?_
  simp only[go_sem]
  generalize Xad met1=M
  rotate_left
  rw[Xe8 hn,if_pos rfl] at hTT
  repeat' first|refine Kn rfl ?_|(refine Ka ?_;simp only[hn,go_sem])|refine Kf ?_|refine⟨_,⟨Xab ha0,rfl⟩,Kg ?_⟩|(apply Kp<;>intro _<;>try (exfalso;omega))
  obtain⟨V,hit'⟩:∃ V,Tri QP gp 33 [.one (.ptr 0 0),vi 0,vs ⟨#[]⟩] (Xmo g [] [] 0) fun r post=>r=.tup []/\post=Xmo g met1 (Xcy (emT g)) V:=⟨_,by rw[hTT];exact hit [] 0 (by simp)⟩
  refine Or.inr (Or.inr ⟨[0,1,2],.tup [],Xmo g met1 (Xcy (emT g)) V,(by simp only[Xay,Xcl,rnV,rnA,Xcx,rn0,Xcw,Xbo,Xcm,rnC,Xak,List.isEmpty_nil,reduceCtorEq,↓reduceIte,Qa,Qb,Qc,Qd,Qe,Qf,Qg,Qh,Qi,Qj,Qk,Ql,Qm,Qn,Qo,Qp,Qq,Qr];simp only[go_sem];exact⟨Xvd,hit'⟩),Kg ?_⟩)
  simp only[bkO,bkC]
  simp only[go_sem]
  repeat' first|refine Kn rfl ?_|(refine Ka ?_;simp only[go_sem])|refine Kf ?_|(apply Kp<;>intro _<;>try (exfalso;omega))
  refine Xap 1 ?_
  simp only[go_sem]
  refine Xap 2 ?_
  simp only[go_sem]
  refine Kt (fr 141 [(13,.one (.ptr 0 0)),(16,vi ((0:Nat):Int)),(17,vi ((0:Nat):Int))]) ?_
  refine Ku 1 ?_
  simp only[go_sem]
  generalize Xad met1=M
  rotate_left
  all_goals
   generalize Xcy (emT g)=T at *
   obtain⟨hT1,hT2⟩:=hTs
   have hTz:Xag T<=3500001*3000:=Nat.le_trans (Xmk hT1) (Nat.mul_le_mul_left _ hT2)
   refine Kt (fr 141 [(13,.one (.ptr 0 0)),(16,vi (Xag (T.take (0:Nat)))),(17,vi (0:Nat))]) ?_
   refine Km (fun mz sz=>∃ i:Nat,i<=T.length/\mz=T.length - i/\(0<=i)/\sz=⟨fr 141 [(13,.one (.ptr 0 0)),(16,vi (Xag (T.take i))),(17,vi i)],[.cells [.d (.int .i64 g.root),.d (.sl (nds g.l)),.d (.sl (Xad (Xel g))),.d (.sl M),.d (.sl (Xey T))]]⟩) (T.length) ⟨0,Nat.zero_le _,(Nat.sub_zero _).symm,?_,rfl⟩ ?_
   ·exact Nat.zero_le _
   rintro _ _ ⟨i,hi,rfl,-,rfl⟩
   simp only[go_sem]
   by_cases hil:i < T.length
   ·obtain⟨s,hsi⟩:=Xaf hil
    have hs1:=hT1 s (List.mem_of_getElem? hsi)
    have hz:=Xfd T i
    have hnx:Xag (T.take (i+1))=Xag (T.take i)+(s.length+1):=by rw[Xcb hsi,Xfa];omega
    have hbs:(bT s).size=s.length:=Xdp s
    have hik:inK .i64 ((i:Int)+1):=Xai hil (by unfold lenMax;omega)
    generalize Xag (T.take i)=n at *
    have hk1:inK .i64 ((n:Int)+(bT s).size):=Xaw (by omega)
    have hk2:inK .i64 ((n:Int)+(bT s).size+1):=Xaw (by omega)
    repeat' first|refine Kn rfl ?_|(refine Ka ?_;simp only[go_sem])|refine Kf ?_|refine⟨_,⟨Kq _,(Xab hsi),rfl⟩,Kg ?_⟩|refine⟨hk1,?_⟩|refine⟨hk2,?_⟩|refine⟨hik,?_⟩|(apply Kp<;>intro _<;>try (exfalso;omega))
    refine Kt (fr 141 [(13,.one (.ptr 0 0)),(16,.one (.d (.int .i64 ((n:Int)+(bT s).size+1)))),(17,vi (i+1))]) ?_
    refine Kl ⟨T.length - (i+1),by omega,i+1,by omega,rfl,?_,by rw[show ((n:Int)+(bT s).size+1)=((Xag (T.take (i+1)):Nat):Int) by omega];rfl⟩
    exact Nat.zero_le _
   ·obtain rfl:T.length=i:=by omega
    rw[List.take_length]
    by_cases hb:Xag T > 8000
    ·have hb':((Xag T:Nat):Int) > 8000:=by omega
     rw[ho1 hb]
     repeat' first|refine Kn rfl ?_|(refine Kw ?_;simp only[hb',go_sem])|refine Kf ?_|(apply Kp<;>intro _<;>try (exfalso;omega))
    ·have hb':¬ (((Xag T:Nat):Int) > 8000):=by omega
     rw[ho2 hb]
     repeat' first|refine Kn rfl ?_|(refine Kw ?_;simp only[hb',go_sem])|refine Kf ?_|(apply Kp<;>intro _<;>try (exfalso;omega))
def X3f (T:List (List UInt8)) (i:Nat):ByteArray:=bT (Xe9 (T.take i))
theorem Ynp (T:List (List UInt8)) (i:Nat):(X3f T i).size<=Xag T:=by unfold X3f;rw[Xdp,Xih];exact Xfd T i
theorem Ynq {T:List (List UInt8)} {i:Nat} {s:List UInt8} (h:T[i]?=some s):X3f T i++bT s++(⟨#[10]⟩:ByteArray)=X3f T (i+1):=by
 unfold X3f
 rw[show (⟨#[10]⟩:ByteArray)=bT [10] from rfl,Xl7,Xl7,Xcb h,Xnw,List.append_assoc]
theorem Jec (h:Env13 gp) {g:Gr} (hs:Xc9 g) (hst:∀ x∈g.l,x.short) (hlen:g.l.length<=900):Does QP gp 12 [g.v] (.tup [vs (bT (Xe9 (Xfc g).1)),vi (Xfc g).2]):=by
 have c1:=Y80 h hs hst hlen
 have hsz:=Xmg g
 generalize Xfc g=o at *
 obtain⟨T,e⟩:=o
 have hsz:Xag T<=8000:=hsz
 have hge:=Xke T
 have eA:X3f T T.length=bT (Xe9 T):=by unfold X3f;rw[List.take_length]
 refine Wyy ?_
 simp only[go_sem]
 repeat' first|refine Kn rfl ?_|(refine Ka ?_;simp only[go_sem])|refine Kf ?_|refine⟨_,c1,Kg ?_⟩|refine⟨_,⟨c1,rfl⟩,Kg ?_⟩|(apply Kp<;>intro _<;>try (exfalso;omega))
 refine Kt (fr 28 [(4,.one (.d (.sl (Xey T)))),(5,vi e),(6,vs (X3f T (0:Nat))),(7,vi (0:Nat))]) ?_
 refine Km (fun mz sz=>∃ i:Nat,i<=T.length/\mz=T.length - i/\(0<=i)/\sz=⟨fr 28 [(4,.one (.d (.sl (Xey T)))),(5,vi e),(6,vs (X3f T i)),(7,vi i)],[]⟩) (T.length) ⟨0,Nat.zero_le _,(Nat.sub_zero _).symm,?_,rfl⟩ ?_
 ·exact Nat.zero_le _
 rintro _ _ ⟨i,hi,rfl,-,rfl⟩
 simp only[go_sem]
 by_cases hil:i < T.length
 ·obtain⟨s,hsi⟩:=Xaf hil
  have hsl:s.length+1<=8000:=by
   have h1:=Xfd T (i+1)
   rw[Xcb hsi,Xfa] at h1;omega
  have hr1:=Ynp T i
  have hrn:=Ynq hsi
  have hbs:(bT s).size=s.length:=Xdp s
  have hik:inK .i64 ((i:Int)+1):=Xfe (by omega) (by omega)
  have hz1:(((X3f T i).size+(bT s).size:Nat):Int)<=9223372036854775807:=by omega
  have hz2:(((X3f T i).size+(bT s).size+#[(10:UInt8)].size:Nat):Int)<=9223372036854775807:=by simp only[List.size_toArray,List.length_cons,List.length_nil];omega
  repeat' first|refine Kn rfl ?_|(refine Ka ?_;simp only[hz1,hz2,hrn,go_sem])|refine Kf ?_|refine⟨_,⟨Kq _,(Xab hsi),rfl⟩,Kg ?_⟩|refine⟨hik,?_⟩|(apply Kp<;>intro _<;>try (exfalso;omega))
  refine Kt (fr 28 [(4,.one (.d (.sl (Xey T)))),(5,vi e),(6,vs (X3f T (i+1))),(7,vi (i+1))]) ?_
  refine Kl ⟨T.length - (i+1),by omega,i+1,by omega,rfl,?_,rfl⟩
  exact Nat.zero_le _
 ·obtain rfl:T.length=i:=by omega
  rw[eA]
  repeat' first|refine Kn rfl ?_|(refine Kw ?_;simp only[go_sem])|refine Kf ?_|(apply Kp<;>intro _<;>try (exfalso;omega))
  all_goals trace_state
theorem Jio (h:Env13 gp) {g:Gr} (hs:Xc9 g) (hst:∀ x∈g.l,x.short) (hlen:g.l.length<=900):Does QP gp 16 [g.v] (.tup [vi (Xag (Xfc g).1),vi (Xfc g).2]):=by
 have c1:=Jec h hs hst hlen
 have e1:(((bT (Xe9 (Xfc g).1)).size:Nat):Int)=((Xag (Xfc g).1:Nat):Int):=by rw[Xdp,Xih]
 rw[<- e1]
 generalize Xfc g=o at *
 refine Wzi ?_
 simp only[go_sem]
 repeat' first|refine Kn rfl ?_|(refine Kw ?_;simp only[go_sem])|refine Kf ?_|refine⟨_,c1,Kg ?_⟩|refine⟨_,⟨c1,rfl⟩,Kg ?_⟩|(apply Kp<;>intro _<;>try (exfalso;omega))
 all_goals trace_state
theorem X29 (T:List (List UInt8)) (hT:T.length<=100000):Does QP gp 17 [.one (.d (.sl (Xey T))),.one (.d (.sl (Xey T)))] (vb true):=by
 have hq:(((T.length:Nat):Int) != ((T.length:Nat):Int))=false:=by simp
 refine Wzp ?_
 simp only[go_sem]
 repeat' first|refine Kn rfl ?_|(refine Kw ?_;simp only[hq,go_sem])|refine Kf ?_|(apply Kp<;>intro _<;>try (exfalso;omega))
 refine Kt (fr 26 [(0,.one (.d (.sl (Xey T)))),(1,.one (.d (.sl (Xey T)))),(5,vi (0:Nat))]) ?_
 refine Km (fun mz sz=>∃ i:Nat,i<=T.length/\mz=T.length - i/\(0<=i)/\sz=⟨fr 26 [(0,.one (.d (.sl (Xey T)))),(1,.one (.d (.sl (Xey T)))),(5,vi i)],[]⟩) (T.length) ⟨0,Nat.zero_le _,(Nat.sub_zero _).symm,?_,rfl⟩ ?_
 ·exact Nat.zero_le _
 rintro _ _ ⟨i,hi,rfl,-,rfl⟩
 simp only[go_sem]
 by_cases hil:i < T.length
 ·obtain⟨s,hsi⟩:=Xaf hil
  have hik:inK .i64 ((i:Int)+1):=Xfe (by omega) (by omega)
  repeat' first|refine Kn rfl ?_|(refine Kw ?_;simp only[go_sem])|refine Kf ?_|refine⟨_,⟨Kq _,(Xab hsi),rfl⟩,Kg ?_⟩|refine⟨hik,?_⟩|(apply Kp<;>intro _<;>try (exfalso;omega))
  refine Kt (fr 26 [(0,.one (.d (.sl (Xey T)))),(1,.one (.d (.sl (Xey T)))),(5,vi (i+1))]) ?_
  refine Kl ⟨T.length - (i+1),by omega,i+1,by omega,rfl,?_,rfl⟩
  exact Nat.zero_le _
 ·repeat' (first|refine Kn rfl ?_|(refine Kw ?_;simp only[go_sem])|refine Kf ?_|(apply Kp<;>intro _<;>try (exfalso;omega)))
  all_goals trace_state
theorem X3a (h:Env13 gp) (g:Gr) (t:Bool):Does QP gp 3 [g.v,vb t] (vb true):=by
 have cs:=X24 h
 have ct:=Yx5 h.e g t
 have hs:=Xsc g t
 have hst:=Xsb g t
 have hl:=X23 g t
 have c1:=X1o h hs hst
 have c2:=Ynd h hs hst
 have c3:=Y8x h hs hst
 have d1:=Jec h hs hst hl
 have d2:=Y80 h hs hst hl
 have d3:=Jio h hs hst hl
 have hsz:=Xmg (Xfx g t)
 have hge:=Xke (Xfc (Xfx g t)).1
 have c4:=X29 (gp:=gp) (Xfc (Xfx g t)).1 (by omega)
 generalize Xfx g t=q at *
 generalize Xfc q=o at *
 obtain⟨T,e⟩:=o
 dsimp only at *
 generalize bT (Xe9 T)=B at *
 generalize Xag T=z at *
 generalize Xey T=L at *
 refine Jfb ?_
 simp only[go_sem]
 repeat' first|refine Kn rfl ?_|(refine Kw ?_;simp only[go_sem])|refine Kf ?_|refine⟨_,cs,Kg ?_⟩|refine⟨_,⟨cs,rfl⟩,Kg ?_⟩|refine⟨_,ct,Kg ?_⟩|refine⟨_,⟨ct,rfl⟩,Kg ?_⟩|refine⟨_,c1,Kg ?_⟩|refine⟨_,⟨c1,rfl⟩,Kg ?_⟩|refine⟨_,c2,Kg ?_⟩|refine⟨_,⟨c2,rfl⟩,Kg ?_⟩|refine⟨_,c3,Kg ?_⟩|refine⟨_,⟨c3,rfl⟩,Kg ?_⟩|refine⟨_,d1,Kg ?_⟩|refine⟨_,⟨d1,rfl⟩,Kg ?_⟩|refine⟨_,d2,Kg ?_⟩|refine⟨_,⟨d2,rfl⟩,Kg ?_⟩|refine⟨_,d3,Kg ?_⟩|refine⟨_,⟨d3,rfl⟩,Kg ?_⟩|refine⟨_,c4,Kg ?_⟩|refine⟨_,⟨c4,rfl⟩,Kg ?_⟩|(apply Kp<;>intro _<;>try (exfalso;omega))
 all_goals trace_state
end Go.Fw.L07
