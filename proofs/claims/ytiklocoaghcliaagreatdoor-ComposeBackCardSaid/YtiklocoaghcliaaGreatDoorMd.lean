/- Chapter 18,part 8: a graph's tree. -/
import Derived.Test.YtiklocoaghcliaaGreatDoorMc
import Derived.Test.YtiklocoaghcliaaGreatDoorEb
import Derived.Test.YtiklocoaghcliaaGreatDoorL07L09Mini
set_option linter.all false
namespace Go.Fw.L07
open Go Go.Fw
open Go.Fw.Sh renaming intro->Kg
open Go.Fw renaming Xec->Ka,Xbg->Ka,Xhs->Ka,Xh9->Kv,Xel->Kf,Xdn->Kt,Xl3->Kk,Xdl->Kl,Xfl->Km,Gx->Kn
open Go.Fw renaming Xbg->Ka, Xbk->Ka, Xbv->Ka, Xb3->Ka
open Go.Fw renaming Xec->Kw, Xbg->Kw, Xbk->Kw, Xbv->Kw, Xb3->Kw, Xh6->Kw, Xem->Kw
open Go.Fw.Sh renaming intro->Kf
open Int renaming natCast_nonneg->Kq
open And renaming intro->Kp
open Go.Proofs.Tryz renaming prog->QP
open Nat renaming reduceAdd->Qa,reduceSub->Qb,reduceMul->Qc,reduceLeDiff->Qd,reduceLT->Qe,reduceEqDiff->Qf
open Int renaming reduceToNat->Qg,reduceLT->Qh,reduceLE->Qi,reduceGT->Qj,reduceGE->Qk,reduceEq->Ql,reduceNe->Qm,reduceBEq->Qn,reduceBNe->Qo,reduceAdd->Qp,reduceSub->Qq,reduceNeg->Qr
set_option maxRecDepth 4000
variable {gp:Xaj} {ua:Addr}
def Xbd (n:Int):ByteArray:=if n > 0 then ⟨#[97]⟩++⟨(Lib.itoa n).toArray⟩ else ⟨#[]⟩
def Xtc (met:List Int) (i:Int):List Int:=if i∈met then met else met++[i]
def ofL (F:Int->List Int->Option (Tr × List Int)):List Int->List Int->Option (List Tr × List Int)
 | [],m=>some ([],m)
 | k::l,m=>(F k m).bind fun p=>(ofL F l p.2).map fun q=>(p.1::q.1,q.2)
def ofF (g:Gr) (a:List Int):Nat->Int->List Int->Option (Tr × List Int)
 | 0,_,_=>none
 | f+1,i,met=>(if 0<=i then g.l[i.toNat]? else none).bind fun x=>(a[i.toNat]?).bind fun n =>
  if Xbd n≠⟨#[]⟩/\i∈met then some (.mk 3 (Xbd n) ⟨0,0,⟨#[]⟩⟩ [] [],met)
  else (ofL (ofF g a f) x.kids (Xtc met i)).map fun q=>(.mk x.k (Xbd n) x.x x.keys q.1,q.2)
theorem Xqk (F:Int->List Int->Option (Tr × List Int)) (k:Int):∀ (l:List Int) (m:List Int),ofL F (l++[k]) m=(ofL F l m).bind fun q=>(F k q.2).map fun p=>(q.1++[p.1],p.2)
 | [],m=>by simp[ofL];cases F k m <;> rfl
 | i::l,m=>by
  simp only[List.cons_append,ofL]
  cases h:F i m with
  | none=>rfl
  | some p =>
   simp only[Option.bind_some,Xqk F k l p.2]
   cases h2:ofL F l p.2 with
   | none=>rfl
   | some q =>
    simp only[Option.bind_some,Option.map_some]
    cases F k q.2 <;> rfl
theorem Xjc {F:Int->List Int->Option (Tr × List Int)}:∀ {l:List Int} {m:List Int} {q:List Tr × List Int},ofL F l m=some q->∀ j,∃ r,ofL F (l.take j) m=some r
 | [],m,q,h,j=>⟨([],m),by simp[ofL]⟩
 | k::l,m,q,h,0=>⟨_,rfl⟩
 | k::l,m,q,h,j+1=>by
  simp only[ofL] at h
  cases h1:F k m with
  | none=>rw[h1] at h;cases h
  | some p =>
   rw[h1] at h
   simp only[Option.bind_some] at h
   obtain⟨q2,h2,_⟩:=Option.map_eq_some_iff.1 h
   obtain⟨r,hr⟩:=Xjc h2 j
   exact⟨(p.1::r.1,r.2),by simp only[List.take_succ_cons,ofL,h1,Option.bind_some,hr,Option.map_some]⟩
theorem Xql {F:Int->List Int->Option (Tr × List Int)}:∀ {l:List Int} {m:List Int} {q:List Tr × List Int},ofL F l m=some q->q.1.length=l.length
 | [],m,q,h=>by simp[ofL] at h;subst h;rfl
 | k::l,m,q,h=>by
  simp only[ofL] at h
  cases h1:F k m with
  | none=>rw[h1] at h;cases h
  | some p =>
   rw[h1] at h
   simp only[Option.bind_some] at h
   obtain⟨q2,h2,rfl⟩:=Option.map_eq_some_iff.1 h
   simp[Xql h2]
def Xu0 (met:List Int):List (V × V):=met.map fun i=>(vi i,vb true)
theorem Yhp (met:List Int) (i:Int):Xdc false [.i] (Xu0 met) (vi i)=some (if i∈met then some (vb true) else none):=Xmi (kv:=vi) (v:=vb true) Xmt met i
theorem Xqm:∀ (met:List Int) (i:Int),Xj9 false [.i] (Xu0 met) (vi i) (vb true)=some (Xu0 (Xtc met i))
 | [],i=>rfl
 | k::met,i=>by
  have ih:=Xqm met i
  simp only[Xu0,List.map_cons,Xj9,Xmt,Xtc] at ih ⊢
  by_cases h:i=k
  ·simp[h]
  ·simp only[h,decide_false,ih,List.mem_cons,false_or]
   split <;> simp
theorem Xb9 (met:List Int):(Ch.map (Xu0 met)).refs=[]:=by
 simp only[Ch.refs]
 rw[List.flatMap_eq_nil_iff]
 intro e he
 obtain⟨a,_,rfl⟩:=List.mem_map.1 he
 rfl
theorem Xs2 (met:List Int) (j:Nat) (c:Ch):Yik j c (.map (Xu0 met))=.map (Xu0 met):=by
 simp only[Yik,Ch.map.injEq]
 simp only[Xu0,List.map_map]
 rfl
theorem Xjd {n:Int} (h:n > 0):Xbd n≠⟨#[]⟩:=by
 unfold Xbd
 rw[if_pos h]
 intro e
 have:=congrArg ByteArray.size e
 rw[ByteArray.size_append] at this
 have e1:(⟨#[97]⟩:ByteArray).size=1:=rfl
 have e2:(⟨#[]⟩:ByteArray).size=0:=rfl
 omega
theorem Xfr {n:Int} (h:¬ n > 0):Xbd n=⟨#[]⟩:=by unfold Xbd;rw[if_neg h]
def Yph:A->A
 | .nil=>.d (.sl [])
 | a=>a
theorem Yhq {H:Xaj} {an:Anc} {a:A} {v:Value} (h:Xbw H an a v):Xbw H an (Yph a) v:=by
 cases a <;> first|exact h|(obtain⟨q,rfl⟩:=h;exact Den.slE q 0)
theorem Whf {S:Sx} {k:List MI} {s:St} (i:Nat) {cs:List A} (hc:Xah s.own i=.cells cs) (h:G S k ⟨s.fr,Xau s.own i (.cells (cs.map Yph))⟩):G S k s:=by
 rintro Y a w ⟨H,an,F,ms,hs⟩
 refine h Y a w ⟨H,an,F,ms,hs.recast hc (by simp) fun p hsc=>?_⟩
 obtain⟨h0,b0,T,vs,e1,e2,e3,e4⟩:=hsc
 refine⟨h0,b0,T,vs,e1,e2,e3,?_⟩
 have:=Xan.map (R:=Xbw H an) (f:=Yph) (g:=id) (fun a b hab=>Yhq hab) e4
 simpa using this
abbrev tAn (a:List Int):Ch:=.cells [.d (.sl (Xai a))]
abbrev tMb:Ch:=.cells [.own 2 0]
abbrev gBx (g:Gr):D:=.bx [.int .i64 g.root,.sl (nds g.l)]
abbrev Whg (g:Gr):A:=.clo (.func 29) [.d (gBx g),.ptr 0 0,.ptr 1 0,.ptr 3 0]
theorem Whh (h:Env18 gp ua) {g:Gr} (hs:Xe3 g) {a:List Int} (ha:∀ n∈a,n<=1000):∀ (f:Nat) (i:Int) (met met':List Int) (t:Tr),ofF g a f i met=some (t,met') ->
  Tri QP gp 29 [vi i,.one (.d (gBx g)),.one (.ptr 0 0),.one (.ptr 1 0),.one (.ptr 3 0)] [tAn a,tMb,.map (Xu0 met),.cells [Whg g]] fun r post =>
   r=t.v/\post=[tAn a,tMb,.map (Xu0 met'),.cells [Whg g],.cells t.as]:=by
 intro f
 induction f with
 | zero=>intro i met met' t h;cases h
 | succ f ih =>
  intro i met met' t hof
  simp only[ofF] at hof
  obtain⟨x,hx,hof⟩:=Option.bind_eq_some_iff.1 hof
  obtain⟨n,hn,hof⟩:=Option.bind_eq_some_iff.1 hof
  split at hx
  case isFalse=>cases hx
  rename_i hi
  obtain⟨m,rfl⟩:=Int.eq_ofNat_of_zero_le hi
  rw[Int.toNat_natCast] at hx hn
  have hsx:=hs x (List.mem_of_getElem? hx)
  have hn1:=ha n (List.mem_of_getElem? hn)
  have c1:=Xsu (gp:=gp) x.keys (by omega)
  refine Y1c ?_
  simp only[go_sem]
  have hmf:=Yhp met m
  have hrun:∀ nm:ByteArray,(ofL (ofF g a f) x.kids (Xtc met m)).map (fun q=>(Tr.mk x.k nm x.x x.keys q.1,q.2))=some (t,met')->∃ q,ofL (ofF g a f) x.kids (Xtc met m)=some q/\t=.mk x.k nm x.x x.keys q.1/\met'=q.2:=fun nm hh=>by
   obtain⟨q,h1,h2⟩:=Option.map_eq_some_iff.1 hh
   simp only[Prod.mk.injEq] at h2
   exact⟨q,h1,h2.1.symm,h2.2.symm⟩
  by_cases hnp:n > 0
  ·have c2:=Ygb h.p n (by omega) (by omega)
   have hszN:((#[(97:UInt8)].size+(Lib.itoa n).toArray.size:Nat):Int)<=9223372036854775807:=by
    have:=Lib.itoa_length_le n (by omega) (by omega)
    simp;omega
   have hae:=Xjd hnp
   have hnm:(⟨#[97]⟩:ByteArray)++⟨(Lib.itoa n).toArray⟩=Xbd n:=by unfold Xbd;rw[if_pos hnp]
   have hae2:decide (Xbd n=⟨#[]⟩)=false:=by simp[hae]
   by_cases hmem:(m:Int)∈met
   ·rw[if_pos hmem] at hmf
    rw[if_pos ⟨hae,hmem⟩] at hof
    cases hof
    repeat' first|refine Kn rfl ?_|((first|refine Ka ?_|refine Kv ?_);simp only[Xdo,Xdp,hnm,hae2,go_sem])|refine Kf ?_|refine⟨_,c1,Kg ?_⟩|refine⟨_,⟨c1,rfl⟩,Kg ?_⟩|refine⟨_,c2,Kg ?_⟩|refine⟨_,⟨c2,rfl⟩,Kg ?_⟩|refine⟨_,⟨Kq _,(by first|exact Xae hx|(rw[Int.toNat_natCast];exact Xae hx)),rfl⟩,Kg ?_⟩|refine⟨_,⟨Kq _,(by first|exact Xae hn|(rw[Int.toNat_natCast];exact Xae hn)),rfl⟩,Kg ?_⟩|refine⟨hszN,?_⟩|refine⟨_,⟨hmf,rfl⟩,Kg ?_⟩|(apply Kp<;>intro _<;>try (exfalso;omega))
    refine Whf 4 rfl ?_
    simp only[Yph,go_sem]
    refine Kt (fr 66 [(6,.one (.ptr 4 0))]) ?_
    refine Kk 5 (by simp only[List.length_nil,List.length_cons];decide) (by simp only[go_sem]) (by simp only[List.take_succ_cons,List.take_zero,List.all_cons,List.all_nil,Xb9];simp only[go_sem]) ?_
    simp only[go_sem]
    repeat' first|refine Kn rfl ?_|((first|refine Kw ?_|refine Kv ?_);simp only[Xdo,Xdp,go_sem])|refine Kf ?_|(apply Kp<;>intro _<;>try (exfalso;omega))
    exact⟨⟨rfl,rfl,rfl,rfl,rfl,rfl,rfl⟩,rfl⟩
   ·rw[if_neg hmem] at hmf
    rw[if_neg (fun hh=>hmem hh.2)] at hof
    obtain⟨q,hq,rfl,rfl⟩:=hrun _ hof
    repeat' first|refine Kn rfl ?_|((first|refine Ka ?_|refine Kv ?_);simp only[Xdo,Xdp,hnm,hae2,go_sem])|refine Kf ?_|refine⟨_,c1,Kg ?_⟩|refine⟨_,⟨c1,rfl⟩,Kg ?_⟩|refine⟨_,c2,Kg ?_⟩|refine⟨_,⟨c2,rfl⟩,Kg ?_⟩|refine⟨_,⟨Kq _,(by first|exact Xae hx|(rw[Int.toNat_natCast];exact Xae hx)),rfl⟩,Kg ?_⟩|refine⟨_,⟨Kq _,(by first|exact Xae hn|(rw[Int.toNat_natCast];exact Xae hn)),rfl⟩,Kg ?_⟩|refine⟨hszN,?_⟩|refine⟨_,⟨hmf,rfl⟩,Kg ?_⟩|refine⟨_,Xqm met m,Kg ?_⟩|(apply Kp<;>intro _<;>try (exfalso;omega))
    refine Xf3 6 6 7 (by decide) rfl rfl ?_
    simp only[go_sem]
    refine Kt (fr 66 [(1,.one (.d (gBx g))),(4,.one (.ptr 3 0)),(6,.one (.ptr 4 0)),(8,.one (.ptr 6 0)),(50,.one (.d (.sl (Xai x.kids)))),(51,vi x.kids.length),(52,vi (0:Nat))]) ?_
    refine Km (fun mz sz=>∃ j:Nat,j<=x.kids.length/\mz=x.kids.length - j/\(0<=j)/\sz=⟨fr 66 [(1,.one (.d (gBx g))),(4,.one (.ptr 3 0)),(6,.one (.ptr 4 0)),(8,.one (.ptr 6 0)),(50,.one (.d (.sl (Xai x.kids)))),(51,vi x.kids.length),(52,vi j)],[tAn a,tMb,.map (Xu0 ((ofL (ofF g a f) (x.kids.take j) (Xtc met m)).getD ([],[])).2),.cells [Whg g],_,_,.cells [.d (.int .i64 x.k),.d (.str _),.d (.int .i64 x.x.k),.d (.int .i64 x.x.n),.d (.str x.x.s),.d (.sl (scs x.keys)),.own 7 j],.row 7 j (trs ((ofL (ofF g a f) (x.kids.take j) (Xtc met m)).getD ([],[])).1)]⟩) (x.kids.length) ⟨0,Nat.zero_le _,(Nat.sub_zero _).symm,?_,rfl⟩ ?_
    ·exact Nat.zero_le _
    rintro _ _ ⟨j,hj,rfl,-,rfl⟩
    simp only[go_sem]
    by_cases hjl:j < x.kids.length
    ·obtain⟨c,hc⟩:=Xaq hjl
     obtain⟨r,hr⟩:=Xjc hq j
     obtain⟨r2,hr2⟩:=Xjc hq (j+1)
     have hsn:=hr2
     rw[<- Xb8 hc,Xqk,hr,Option.bind_some] at hsn
     obtain⟨p,hp,rfl⟩:=Option.map_eq_some_iff.1 hsn
     rw[hr,Option.getD_some]
     have hlen:=Xql hr
     have hcall:=ih c r.2 p.2 p.1 hp
     repeat' first|refine Kn rfl ?_|((first|refine Ka ?_|refine Kv ?_);simp only[Xdo,Xdp,go_sem])|refine Kf ?_|refine⟨_,⟨Kq _,(by first|exact Xae hc|(rw[Int.toNat_natCast];exact Xae hc)),rfl⟩,Kg ?_⟩|(apply Kp<;>intro _<;>try (exfalso;omega))
     refine⟨[0,1,2,3],p.1.v,[tAn a,tMb,.map (Xu0 p.2),.cells [Whg g],.cells p.1.as],⟨(by simp only[Xa1,Xds,rnV,rnA,Xdy,rn0,Xdx,Xb1,Xdt,rnC,Xah,List.isEmpty_nil,Xb9,reduceCtorEq,↓reduceIte,Qa,Qb,Qc,Qd,Qe,Qf,Qg,Qh,Qi,Qj,Qk,Ql,Qm,Qn,Qo,Qp,Qq,Qr];simp only[go_sem];exact⟨X4m,hcall⟩),?_⟩,Kg ?_⟩
     ·simp only[bkO,bkC,Xb9]
      simp only[Xff,Ch.firm,go_sem]
      all_goals trace_state
     simp only[bkO,bkC,Xb9]
     simp only[go_sem]
     have hp1:(r.1.length+1)*104<=140737488355328:=by rw[hlen,List.length_take];omega
     have hp2:r.1.length+1 < Xad:=by rw[hlen,List.length_take];unfold Xad;omega
     have hik:inK .i64 ((j:Int)+1):=by simp[inK,IntKind.min,IntKind.max,IntKind.signed,IntKind.bits];omega
     repeat' first|refine Kn rfl ?_|((first|refine Ka ?_|refine Kv ?_);simp only[Xdo,Xdp,List.length_map,go_sem])|refine Kf ?_|refine⟨by simp,hp1,hp2,?_⟩|refine⟨hik,?_⟩|(apply Kp<;>intro _<;>try (exfalso;omega))
     refine Kt (fr 66 [(1,.one (.d (gBx g))),(4,.one (.ptr 3 0)),(6,.one (.ptr 4 0)),(8,.one (.ptr 6 0)),(50,.one (.d (.sl (Xai x.kids)))),(51,vi x.kids.length),(52,vi (j+1))]) ?_
     refine Kk 8 (by simp only[List.length_nil,List.length_cons];decide) (by simp only[go_sem]) (by simp only[List.take_succ_cons,List.take_zero,List.all_cons,List.all_nil,Xb9];try simp only[go_sem]) ?_
     simp only[go_sem]
     refine Kl ⟨x.kids.length - (j+1),by omega,j+1,by omega,rfl,?_,(by rw[hr2,Option.getD_some];simp[trs,Tr.ds_eq])⟩
     exact Nat.zero_le _
    ·obtain rfl:x.kids.length=j:=by omega
     rw[List.take_length,hq,Option.getD_some]
     repeat' first|refine Kn rfl ?_|((first|refine Ka ?_|refine Kv ?_);simp only[Xdo,Xdp,go_sem])|refine Kf ?_|(apply Kp<;>intro _<;>try (exfalso;omega))
     refine Xa0 7 ?_
     simp only[Yj0,Xah,List.map_cons,List.map_nil,Xs2]
     simp only[go_sem]
     refine Kt (fr 66 [(6,.one (.ptr 4 0))]) ?_
     refine Kk 5 (by simp only[List.length_nil,List.length_cons];decide) (by simp only[go_sem]) (by simp only[List.take_succ_cons,List.take_zero,List.all_cons,List.all_nil,Xb9];simp only[go_sem]) ?_
     simp only[go_sem]
     repeat' first|refine Kn rfl ?_|((first|refine Kw ?_|refine Kv ?_);simp only[Xdo,Xdp,go_sem])|refine Kf ?_|(apply Kp<;>intro _<;>try (exfalso;omega))
     all_goals exact⟨⟨rfl,rfl,rfl,rfl,rfl,rfl,rfl⟩,rfl⟩
  ·rw[if_neg (fun hh=>hh.1 (Xfr hnp))] at hof
   rw[Xfr hnp] at hof
   obtain⟨q,hq,rfl,rfl⟩:=hrun _ hof
   repeat' first|refine Kn rfl ?_|((first|refine Ka ?_|refine Kv ?_);simp only[Xdo,Xdp,go_sem])|refine Kf ?_|refine⟨_,c1,Kg ?_⟩|refine⟨_,⟨c1,rfl⟩,Kg ?_⟩|refine⟨_,⟨Kq _,(by first|exact Xae hx|(rw[Int.toNat_natCast];exact Xae hx)),rfl⟩,Kg ?_⟩|refine⟨_,⟨Kq _,(by first|exact Xae hn|(rw[Int.toNat_natCast];exact Xae hn)),rfl⟩,Kg ?_⟩|refine⟨_,Xqm met m,Kg ?_⟩|(apply Kp<;>intro _<;>try (exfalso;omega))
   refine Xf3 6 6 7 (by decide) rfl rfl ?_
   simp only[go_sem]
   refine Kt (fr 66 [(1,.one (.d (gBx g))),(4,.one (.ptr 3 0)),(6,.one (.ptr 4 0)),(8,.one (.ptr 6 0)),(50,.one (.d (.sl (Xai x.kids)))),(51,vi x.kids.length),(52,vi (0:Nat))]) ?_
   refine Km (fun mz sz=>∃ j:Nat,j<=x.kids.length/\mz=x.kids.length - j/\(0<=j)/\sz=⟨fr 66 [(1,.one (.d (gBx g))),(4,.one (.ptr 3 0)),(6,.one (.ptr 4 0)),(8,.one (.ptr 6 0)),(50,.one (.d (.sl (Xai x.kids)))),(51,vi x.kids.length),(52,vi j)],[tAn a,tMb,.map (Xu0 ((ofL (ofF g a f) (x.kids.take j) (Xtc met m)).getD ([],[])).2),.cells [Whg g],_,_,.cells [.d (.int .i64 x.k),.d (.str _),.d (.int .i64 x.x.k),.d (.int .i64 x.x.n),.d (.str x.x.s),.d (.sl (scs x.keys)),.own 7 j],.row 7 j (trs ((ofL (ofF g a f) (x.kids.take j) (Xtc met m)).getD ([],[])).1)]⟩) (x.kids.length) ⟨0,Nat.zero_le _,(Nat.sub_zero _).symm,?_,rfl⟩ ?_
   ·exact Nat.zero_le _
   rintro _ _ ⟨j,hj,rfl,-,rfl⟩
   simp only[go_sem]
   by_cases hjl:j < x.kids.length
   ·obtain⟨c,hc⟩:=Xaq hjl
    obtain⟨r,hr⟩:=Xjc hq j
    obtain⟨r2,hr2⟩:=Xjc hq (j+1)
    have hsn:=hr2
    rw[<- Xb8 hc,Xqk,hr,Option.bind_some] at hsn
    obtain⟨p,hp,rfl⟩:=Option.map_eq_some_iff.1 hsn
    rw[hr,Option.getD_some]
    have hlen:=Xql hr
    have hcall:=ih c r.2 p.2 p.1 hp
    repeat' first|refine Kn rfl ?_|((first|refine Ka ?_|refine Kv ?_);simp only[Xdo,Xdp,go_sem])|refine Kf ?_|refine⟨_,⟨Kq _,(by first|exact Xae hc|(rw[Int.toNat_natCast];exact Xae hc)),rfl⟩,Kg ?_⟩|(apply Kp<;>intro _<;>try (exfalso;omega))
    refine⟨[0,1,2,3],p.1.v,[tAn a,tMb,.map (Xu0 p.2),.cells [Whg g],.cells p.1.as],⟨(by simp only[Xa1,Xds,rnV,rnA,Xdy,rn0,Xdx,Xb1,Xdt,rnC,Xah,List.isEmpty_nil,Xb9,reduceCtorEq,↓reduceIte,Qa,Qb,Qc,Qd,Qe,Qf,Qg,Qh,Qi,Qj,Qk,Ql,Qm,Qn,Qo,Qp,Qq,Qr];simp only[go_sem];exact⟨X4m,hcall⟩),?_⟩,Kg ?_⟩
    ·simp only[bkO,bkC,Xb9]
     simp only[Xff,Ch.firm,go_sem]
     all_goals trace_state
    simp only[bkO,bkC,Xb9]
    simp only[go_sem]
    have hp1:(r.1.length+1)*104<=140737488355328:=by rw[hlen,List.length_take];omega
    have hp2:r.1.length+1 < Xad:=by rw[hlen,List.length_take];unfold Xad;omega
    have hik:inK .i64 ((j:Int)+1):=by simp[inK,IntKind.min,IntKind.max,IntKind.signed,IntKind.bits];omega
    repeat' first|refine Kn rfl ?_|((first|refine Ka ?_|refine Kv ?_);simp only[Xdo,Xdp,List.length_map,go_sem])|refine Kf ?_|refine⟨by simp,hp1,hp2,?_⟩|refine⟨hik,?_⟩|(apply Kp<;>intro _<;>try (exfalso;omega))
    refine Kt (fr 66 [(1,.one (.d (gBx g))),(4,.one (.ptr 3 0)),(6,.one (.ptr 4 0)),(8,.one (.ptr 6 0)),(50,.one (.d (.sl (Xai x.kids)))),(51,vi x.kids.length),(52,vi (j+1))]) ?_
    refine Kk 8 (by simp only[List.length_nil,List.length_cons];decide) (by simp only[go_sem]) (by simp only[List.take_succ_cons,List.take_zero,List.all_cons,List.all_nil,Xb9];try simp only[go_sem]) ?_
    simp only[go_sem]
    refine Kl ⟨x.kids.length - (j+1),by omega,j+1,by omega,rfl,?_,(by rw[hr2,Option.getD_some];simp[trs,Tr.ds_eq])⟩
    exact Nat.zero_le _
   ·obtain rfl:x.kids.length=j:=by omega
    rw[List.take_length,hq,Option.getD_some]
    repeat' first|refine Kn rfl ?_|((first|refine Ka ?_|refine Kv ?_);simp only[Xdo,Xdp,go_sem])|refine Kf ?_|(apply Kp<;>intro _<;>try (exfalso;omega))
    refine Xa0 7 ?_
    simp only[Yj0,Xah,List.map_cons,List.map_nil,Xs2]
    simp only[go_sem]
    refine Kt (fr 66 [(6,.one (.ptr 4 0))]) ?_
    refine Kk 5 (by simp only[List.length_nil,List.length_cons];decide) (by simp only[go_sem]) (by simp only[List.take_succ_cons,List.take_zero,List.all_cons,List.all_nil,Xb9];simp only[go_sem]) ?_
    simp only[go_sem]
    repeat' first|refine Kn rfl ?_|((first|refine Kw ?_|refine Kv ?_);simp only[Xdo,Xdp,go_sem])|refine Kf ?_|(apply Kp<;>intro _<;>try (exfalso;omega))
    all_goals exact⟨⟨rfl,rfl,rfl,rfl,rfl,rfl,rfl⟩,rfl⟩
abbrev Tr0:Tr:=.mk 0 ⟨#[]⟩ ⟨0,0,⟨#[]⟩⟩ [] []
theorem Xzx (h:Env gp) {g:Gr} (hs:Xe3 g) (hn:¬ (chk g=none/\g=Xbl g)):Xao QP gp 11 [g.v] (.tup [Tr0.v,vi 72]):=by
 have c1:=Xp0 h g hs
 rw[decide_eq_false hn] at c1
 refine X32 ?_
 simp only[go_sem]
 repeat' first|refine Kn rfl ?_|((first|refine Kw ?_|refine Kv ?_);simp only[Xc6,go_sem])|refine Kf ?_|refine⟨_,c1,Kg ?_⟩|refine⟨_,⟨c1,rfl⟩,Kg ?_⟩|(apply Kp<;>intro _<;>try (exfalso;omega))
 exact⟨rfl,rfl,rfl,rfl,rfl,rfl,rfl⟩
theorem Xu1 {g:Gr} {us:List Int}:∀ i,(Xfe g us i).2<=i/\∀ n∈(Xfe g us i).1,n<=(i:Int)
 | 0=>by simp[Xfe]
 | i+1=>by
  obtain⟨h1,h2⟩:=Xu1 (g:=g) (us:=us) i
  simp only[Xfe]
  split
  ·split
   ·refine⟨by simp only;omega,fun n hn=>?_⟩
    rcases List.mem_append.1 hn with hn|hn
    ·have:=h2 n hn;omega
    ·simp at hn;subst hn;omega
   ·refine⟨by simp only;omega,fun n hn=>?_⟩
    rcases List.mem_append.1 hn with hn|hn
    ·have:=h2 n hn;omega
    ·simp at hn;subst hn;omega
  ·exact⟨by omega,fun n hn=>by have:=h2 n hn;omega⟩
def Xos (g:Gr):Prop:=∀ (i:Nat) (x:Nd) (d:Int),g.l[i]?=some x->(Xgi g)[i]?=some d->d<=24/\(d=24->x.kids=[])
theorem Yhr (h:Env18 gp ua) {g:Gr} (hg:Tdy g) (hd:Xos g) {f:Nat} {t:Tr} {met:List Int} (hof:ofF g (Xuz g) f 0 []=some (t,met)):Xao QP gp 11 [g.v] (.tup [t.v,vi 0]):=by
 have c1:=Xp0 h.e g hg.good.s
 rw[decide_eq_true ⟨hg.good.c,hg.self⟩] at c1
 have c2:=Xzw h.e hg
 have c3:=Yhn h.e hg
 have hdl:=hg.dep_len
 have hlen:=hg.good.len
 have hanc:∀ n∈Xuz g,n<=1000:=fun n hn=>by have:=(Xu1 (g:=g) (us:=Xg9 g) g.l.length).2 n hn;omega
 refine X32 ?_
 simp only[go_sem]
 repeat' first|refine Kn rfl ?_|((first|refine Ka ?_|refine Kv ?_);simp only[Xc6,go_sem])|refine Kf ?_|refine⟨_,c1,Kg ?_⟩|refine⟨_,⟨c1,rfl⟩,Kg ?_⟩|refine⟨_,c2,Kg ?_⟩|refine⟨_,⟨c2,rfl⟩,Kg ?_⟩|refine⟨_,c3,Kg ?_⟩|refine⟨_,⟨c3,rfl⟩,Kg ?_⟩|(apply Kp<;>intro _<;>try (exfalso;omega))
 refine Kt (fr 57 [(1,.one (.d (gBx g))),(2,.one (.ptr 0 0)),(3,vi 0),(21,.one (.d (.sl (Xai (Xgi g))))),(22,vi (Xgi g).length),(23,vi (0:Nat))]) ?_
 refine Km (fun mz sz=>∃ i:Nat,i<=(Xgi g).length/\mz=(Xgi g).length - i/\(0<=i)/\sz=⟨fr 57 [(1,.one (.d (gBx g))),(2,.one (.ptr 0 0)),(3,vi 0),(21,.one (.d (.sl (Xai (Xgi g))))),(22,vi (Xgi g).length),(23,vi i)],[_]⟩) ((Xgi g).length) ⟨0,Nat.zero_le _,(Nat.sub_zero _).symm,?_,rfl⟩ ?_
 ·exact Nat.zero_le _
 rintro _ _ ⟨i,hi,rfl,-,rfl⟩
 simp only[go_sem]
 by_cases hil:i < (Xgi g).length
 ·obtain⟨d,hdi⟩:=Xaq hil
  obtain⟨x,hx⟩:=Xaq (l:=g.l) (i:=i) (by omega)
  obtain⟨d1,d2⟩:=hd i x d hx hdi
  have hik:inK .i64 ((i:Int)+1):=by simp[inK,IntKind.min,IntKind.max,IntKind.signed,IntKind.bits];omega
  have e0:decide (d > 24)=false:=by simp;omega
  by_cases h24:d=24
  case' pos =>
   have e1:(d==24)=true:=by simp[h24]
   have e2:decide ((x.kids.length:Int) > 0)=false:=by simp[d2 h24]
   repeat' first|refine Kn rfl ?_|((first|refine Ka ?_|refine Kv ?_);simp only[Xc6,e0,e1,e2,go_sem])|refine Kf ?_|refine⟨_,⟨Kq _,(by first|exact Xae hdi|(rw[Int.toNat_natCast];exact Xae hdi)),rfl⟩,Kg ?_⟩|refine⟨_,⟨Kq _,(by first|exact Xae hx|(rw[Int.toNat_natCast];exact Xae hx)),rfl⟩,Kg ?_⟩|refine⟨hik,?_⟩|(apply Kp<;>intro _<;>try (exfalso;omega))
  case' neg =>
   have e1:(d==24)=false:=by simp[h24]
   repeat' first|refine Kn rfl ?_|((first|refine Ka ?_|refine Kv ?_);simp only[Xc6,e0,e1,go_sem])|refine Kf ?_|refine⟨_,⟨Kq _,(by first|exact Xae hdi|(rw[Int.toNat_natCast];exact Xae hdi)),rfl⟩,Kg ?_⟩|refine⟨_,⟨Kq _,(by first|exact Xae hx|(rw[Int.toNat_natCast];exact Xae hx)),rfl⟩,Kg ?_⟩|refine⟨hik,?_⟩|(apply Kp<;>intro _<;>try (exfalso;omega))
  all_goals
   refine Kt (fr 57 [(1,.one (.d (gBx g))),(2,.one (.ptr 0 0)),(3,vi 0),(21,.one (.d (.sl (Xai (Xgi g))))),(22,vi (Xgi g).length),(23,vi (i+1))]) ?_
   refine Kl ⟨(Xgi g).length - (i+1),by omega,i+1,by omega,rfl,?_,rfl⟩
   exact Nat.zero_le _
 ·obtain rfl:(Xgi g).length=i:=by omega
  have hcall:=Whh h hg.good.s hanc f g.root [] met t (by rw[hg.root];exact hof)
  repeat' first|refine Kn rfl ?_|((first|refine Ka ?_|refine Kv ?_);simp only[Xc6,go_sem])|refine Kf ?_|refine⟨_,c3,Kg ?_⟩|refine⟨_,⟨c3,rfl⟩,Kg ?_⟩|(apply Kp<;>intro _<;>try (exfalso;omega))
  refine Or.inr (Or.inr ⟨[1,3,2,4],t.v,[tAn (Xuz g),tMb,.map (Xu0 met),.cells [Whg g],.cells t.as],(by simp only[Xa1,Xds,rnV,rnA,Xdy,rn0,Xdx,Xb1,Xdt,rnC,Xah,List.isEmpty_nil,reduceCtorEq,↓reduceIte,Qa,Qb,Qc,Qd,Qe,Qf,Qg,Qh,Qi,Qj,Qk,Ql,Qm,Qn,Qo,Qp,Qq,Qr];simp only[go_sem];exact⟨X4m,hcall⟩),Kg ?_⟩)
  simp only[bkO,bkC,Xb9]
  simp only[go_sem]
  repeat' first|refine Kn rfl ?_|((first|refine Kw ?_|refine Kv ?_);simp only[Xc6,go_sem])|refine Kf ?_|(apply Kp<;>intro _<;>try (exfalso;omega))
  all_goals trace_state
variable {gp:Xaj}
def Wxe:Nat->Tr->Tr
 | 0,t=>.mk t.k (Wh9 t.name) t.x.cut ((t.keys.take 8).map Sc.cut) []
 | d+1,t=>.mk t.k (Wh9 t.name) t.x.cut ((t.keys.take 8).map Sc.cut) ((t.kids.take 8).map (Wxe d))
def W2p:Nat->Tr->List Tr
 | 0,_=>[]
 | d+1,t=>(t.kids.take 8).map (Wxe d)
def qN (s:ByteArray):ByteArray:=if s=⟨#[]⟩ then s else ⟨#[113]⟩++s
mutual
def ahT:Tr->Tr
 | .mk k n x keys kids=>.mk k (qN n) x keys (ahL kids)
def ahL:List Tr->List Tr
 | []=>[]
 | t::l=>ahT t::ahL l
end
theorem Whi (l m:List ByteArray):Xao QP gp 23 [.one (.d (.sl (Xzn l))),.one (.d (.sl (Xzn m)))] (vb (decide (l=m))):=by
 refine Wk8 ?_
 simp only[go_sem]
 repeat' first|refine Kn rfl ?_|((first|refine Kw ?_|refine Kv ?_);simp only[go_sem])|refine Kf ?_|apply Kp<;>intro _
 ·rename_i h;simp[Xxp h]
 ·rename_i h
  have hlen:l.length=m.length:=by simp at h;omega
  refine Xrv 0 rfl fun hl=>?_
  refine Kt (fr 26 [(0,.one (.d (.sl (Xzn l)))),(1,.one (.d (.sl (Xzn m)))),(5,vi (0:Nat))]) ?_
  refine Km (fun mz sz=>∃ i:Nat,i<=l.length/\mz=l.length - i/\(l.take i=m.take i)/\sz=⟨fr 26 [(0,.one (.d (.sl (Xzn l)))),(1,.one (.d (.sl (Xzn m)))),(5,vi i)],[]⟩) (l.length) ⟨0,Nat.zero_le _,(Nat.sub_zero _).symm,?_,rfl⟩ ?_
  ·simp
  rintro _ _ ⟨i,hi,rfl,hz,rfl⟩
  simp only[List.length_map] at hl
  simp only[go_sem]
  by_cases hil:i < l.length
  ·obtain⟨x,hx⟩:=Xaq hil
   obtain⟨y,hy⟩:=Xaq (l:=m) (i:=i) (by omega)
   repeat' first|refine Kn rfl ?_|((first|refine Kw ?_|refine Kv ?_);simp only[go_sem])|refine Kf ?_|refine⟨_,⟨Kq _,(by first|exact Xae hx|(rw[Int.toNat_natCast];exact Xae hx)),rfl⟩,Kg ?_⟩|refine⟨_,⟨Kq _,(by first|exact Xae hy|(rw[Int.toNat_natCast];exact Xae hy)),rfl⟩,Kg ?_⟩|apply Kp<;>intro _
   ·rename_i h;simp[Yl4 hx hy (by simpa using h)]
   ·refine⟨Xat hil hl,?_⟩
    rename_i h
    refine Kt (fr 26 [(0,.one (.d (.sl (Xzn l)))),(1,.one (.d (.sl (Xzn m)))),(5,vi (i+1))]) ?_
    refine Kl ⟨l.length - (i+1),by omega,i+1,by omega,rfl,?_,rfl⟩
    exact Xpk hz hx hy (by simpa using h)
   ·omega
  ·repeat' (first|refine Kn rfl ?_|((first|refine Kw ?_|refine Kv ?_);simp only[go_sem])|refine Kf ?_|apply Kp<;>intro _)
   ·omega
   ·rw[List.take_of_length_le (by omega),List.take_of_length_le (by omega)] at hz
    simp[hz]
def Xbe (g:Gr) (n:Int):Gr:=if g.l.length > n then ⟨-1,[]⟩ else g.cut
theorem Whj (g:Gr) (n:Int):Xao QP gp 24 [g.v,vi n] (Xbe g n).v:=by
 refine Wxd ?_
 simp only[go_sem]
 by_cases h:(g.l.length:Int) > n
 ·have e:Xbe g n=⟨-1,[]⟩:=by unfold Xbe;rw[if_pos h]
  rw[e]
  repeat' first|refine Kn rfl ?_|((first|refine Kw ?_|refine Kv ?_);simp only[go_sem])|refine Kf ?_|(apply Kp<;>intro _<;>try (exfalso;omega))
  all_goals exact⟨rfl,rfl⟩
 ·have e:Xbe g n=g.cut:=by unfold Xbe;rw[if_neg h]
  rw[e]
  repeat' first|refine Kn rfl ?_|((first|refine Kw ?_|refine Kv ?_);simp only[go_sem])|refine Kf ?_|refine⟨_,Yvp g,Kg ?_⟩|refine⟨_,⟨Yvp g,rfl⟩,Kg ?_⟩|(apply Kp<;>intro _<;>try (exfalso;omega))
abbrev Yyy:Sc:=⟨2,5,⟨#[]⟩⟩
abbrev g18:Gr:=⟨0,[⟨1,⟨0,0,⟨#[]⟩⟩,[],[0,1]⟩,⟨0,Yyy,[],[]⟩]⟩
abbrev Wic (n:ByteArray):Tr:=.mk 3 n ⟨0,0,⟨#[]⟩⟩ [] []
abbrev W1h (x:Sc):Tr:=.mk 0 ⟨#[]⟩ x [] []
abbrev W1y (n:ByteArray) (l:List Tr):Tr:=.mk 1 n ⟨0,0,⟨#[]⟩⟩ [] l
abbrev W1z (keys:List Sc) (l:List Tr):Tr:=.mk 2 ⟨#[]⟩ ⟨0,0,⟨#[]⟩⟩ keys l
abbrev t18:Tr:=W1y ⟨#[120]⟩ [Wic ⟨#[120]⟩,W1h Yyy]
abbrev u18:Tr:=W1y ⟨#[97,49]⟩ [Wic ⟨#[97,49]⟩,W1h Yyy]
theorem X1m {g:Gr} (h:(g.l.all fun x=>decide (x.keys.length<=12/\x.kids.length<=12))=true):Xe3 g:=by
 intro x hx
 have:=List.all_eq_true.1 h x hx
 simpa using this
theorem Ypi:Good g18:=⟨by kernel_rfl,X1m (by kernel_rfl)⟩
theorem Wxf:kd g18 0=[0,1]:=by kernel_rfl
theorem Wxg:kd g18 1=[]:=by kernel_rfl
theorem Ypj:Xbn g18=[0,1]:=by
 have:Walks (kd g18) [0] [] [0,1]:=by
  refine .step (by simp) ?_
  rw[Wxf]
  refine .skip (by simp) (.step (by simp) ?_)
  rw[Wxg]
  exact .nil _
 exact this.eq
theorem Yhs:(⟨0,[0,1].map fun i=>Xbt [0,1] (Xbc g18.l i)⟩:Gr)=g18:=by kernel_rfl
theorem Ypk:Xbl g18=g18:=by
 have:Xbl g18=⟨0,[0,1].map fun i=>Xbt [0,1] (Xbc g18.l i)⟩:=by rw[<- Ypj];rfl
 rw[this,Yhs]
theorem Whk:Tdy g18:=by have:=Ypi.tdy;rwa [Ypk] at this
theorem Whl:Xuz g18=[1,0]:=by kernel_rfl
theorem Whm:Xgi g18=[1,2]:=by
 have h0:DepW (kd g18) 1 [((0:Nat):Int)] [0,0] [1,2]:=by
  refine .step (x:=0) rfl (by omega) (b:=[1,2]) ?_ (.nil _ _)
  rw[show kd g18 ((0:Nat):Int)=[((0:Nat):Int),((1:Nat):Int)] from Wxf]
  refine .skip (x:=1) rfl (by omega) (.step (x:=0) rfl (by omega) (b:=[1,2]) ?_ (.nil _ _))
  rw[show kd g18 ((1:Nat):Int)=[] from Wxg]
  exact .nil _ _
 exact h0.eq
theorem Ypl:Xos g18:=by
 intro i x d hx hd
 rw[Whm] at hd
 match i,hd with
 | 0,h=>simp at h;subst h;omega
 | 1,h=>simp at h;subst h;omega
theorem Whn:Xbd 1=⟨#[97,49]⟩:=by
 unfold Xbd
 rw[if_pos (by omega),show Lib.itoa 1=[49] from by unfold Lib.itoa;rw[if_neg (by omega)];show Lib.decDigits 1=[49];unfold Lib.decDigits;simp]
 rfl
theorem Wxh:ofF g18 (Xuz g18) 4 0 []=some (u18,[0,1]):=by
 rw[Whl]
 have a0:Xbd 0=⟨#[]⟩:=by unfold Xbd;rw[if_neg (by omega)]
 simp[ofF,ofL,Whn,Xtc,a0]
theorem Yht:Xh1 Xag t18=(g18,0):=by kernel_rfl
theorem Yhu:Xh1 Xag (Wic ⟨#[120]⟩)=(⟨0,[]⟩,100):=by kernel_rfl
theorem Yhv:Xh1 Xag (W1z [Yyy,Yyy] [Tr0,Tr0])=(⟨0,[]⟩,101):=by kernel_rfl
theorem Yhw:Xm5 t18=[⟨#[120]⟩]:=by kernel_rfl
theorem X1n (h:Env18 gp ua):Xao QP gp 9 [] (vb true):=by
 have c1:=Xqi h t18 (by simp[smT,smL])
 have c2:=Xqi h (Wic ⟨#[120]⟩) (by simp[smT,smL])
 have c3:=Xqi h (W1z [Yyy,Yyy] [Tr0,Tr0]) (by simp[smT,smL])
 have c4:=Yhr h Whk Ypl Wxh
 have c5:=Xzx h.e (g:=⟨0,[]⟩) (by intro x hx;cases hx) (fun hh=>by have:=hh.1;revert this;decide)
 have c6:=Xmf (gp:=gp) g18 g18
 have c7:=Wf6 (gp:=gp) t18 (by simp[Xgf,Ygm])
 have c8:=Whi (gp:=gp) [⟨#[120]⟩] [⟨#[120]⟩]
 rw[Yht] at c1
 rw[Yhu] at c2
 rw[Yhv] at c3
 rw[Yhw] at c7
 simp only[decide_true] at c6 c8
 refine Wyt ?_
 simp only[go_sem]
 have hl1:(2:Int)*((104:Nat):Int)<=140737488355328:=by decide
 have hl2:(2:Int) < (Xad:Int):=by unfold Xad;decide
 have e1:u18.name=⟨#[97,49]⟩:=rfl
 have e2:u18.kids=[Wic ⟨#[97,49]⟩,W1h Yyy]:=rfl
 have e3:(Wic ⟨#[97,49]⟩).ds=[.int .i64 3,.str ⟨#[97,49]⟩,.int .i64 0,.int .i64 0,.str ⟨#[]⟩,.sl [],.sl []]:=by rw[Tr.ds_eq];rfl
 repeat' first|refine Kn rfl ?_|((first|refine Ka ?_|refine Kv ?_);simp only[e1,e2,e3,go_sem])|refine Kf ?_|refine⟨_,c1,Kg ?_⟩|refine⟨_,⟨c1,rfl⟩,Kg ?_⟩|refine⟨_,c2,Kg ?_⟩|refine⟨_,⟨c2,rfl⟩,Kg ?_⟩|refine⟨_,c3,Kg ?_⟩|refine⟨_,⟨c3,rfl⟩,Kg ?_⟩|refine⟨_,c4,Kg ?_⟩|refine⟨_,⟨c4,rfl⟩,Kg ?_⟩|refine⟨_,c5,Kg ?_⟩|refine⟨_,⟨c5,rfl⟩,Kg ?_⟩|refine⟨_,c6,Kg ?_⟩|refine⟨_,⟨c6,rfl⟩,Kg ?_⟩|refine⟨_,c7,Kg ?_⟩|refine⟨_,⟨c7,rfl⟩,Kg ?_⟩|refine⟨_,c8,Kg ?_⟩|refine⟨_,⟨c8,rfl⟩,Kg ?_⟩|refine⟨_,⟨rfl,rfl⟩,Kg ?_⟩|refine⟨hl1,hl2,?_⟩|(apply Kp<;>intro _<;>try (exfalso;omega))
 repeat' first|refine Kn rfl ?_|((first|refine Kw ?_|refine Kv ?_);simp only[go_sem])|refine Kf ?_|(apply Kp<;>intro _<;>try (exfalso;omega))
end Go.Fw.L07
