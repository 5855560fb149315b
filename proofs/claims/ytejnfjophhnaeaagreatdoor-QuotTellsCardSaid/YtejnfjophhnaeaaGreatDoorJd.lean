/- Chapter 11: errors.As at quotients' errors (M.t,turned). -/
import Derived.Test.YtejnfjophhnaeaaGreatDoorLc
import Derived.Test.YtejnfjophhnaeaaGreatDoorL07L11Mini
import Derived.Test.YtejnfjophhnaeaaGreatDoorJc
import Derived.Test.YtejnfjophhnaeaaGreatDoorJa
import Derived.Test.YtejnfjophhnaeaaGreatDoorEa
set_option linter.all false
namespace Go.Fw.L07
open Go Go.Proofs Go.RowKit Go.Extern.Stop Go.Stop Go.Extern
theorem Xt7 (t:Addr) (w:World):(ReflectliteValue.unpack (.iface 134 (.pointer (some t)))).run Tryz.prog w
  = .ok (.agg #[.pointer (some ⟨7,134,none⟩),.pointer (some ⟨w.heap.size,0,none⟩),.int .u64 150]) (w.alloc (.cells #[.pointer (some t)] 134)):=by kernel_rfl
theorem Yr9 (a : Addr) (w : World) : (ReflectliteValue.methodAny (ReflectliteValue.valueError "reflectlite.Value.Type" 0) (fun t _ _ _ => ReflectliteType.toType t) #[.agg #[.pointer (some ⟨7, 134, none⟩), .pointer (some a), .int .u64 150]]).run Tryz.prog w
  = .ok (.iface 211 (.agg #[.pointer (some ⟨7,134,none⟩)])) w:=by kernel_rfl
theorem Ysa (w:World):((ReflectliteType.abiMethod fun t=>(fun a:Nat=>Value.int IntKind.u8 (a:Int)) <$> Rtype.kind t) #[.pointer (some ⟨7,134,none⟩)]).run Tryz.prog w=.ok (.int .u8 22) w:=by kernel_rfl
theorem Ysb (w:World):((ReflectliteType.abiMethod fun t=>(fun a:Nat=>Value.int IntKind.u8 (a:Int)) <$> Rtype.kind t) #[.pointer (some ⟨7,132,none⟩)]).run Tryz.prog w=.ok (.int .u8 25) w:=by kernel_rfl
theorem Xsi (a:Addr) (w:World):(ReflectliteValue.parts (.agg #[.pointer (some ⟨7,134,none⟩),.pointer (some a),.int .u64 150])).run Tryz.prog w=.ok (some (134,a,150)) w:=by kernel_rfl
theorem Yjo:Tryz.prog.underlying 134=some (.pointer 132):=by kernel_rfl
theorem Ysc (a p:Addr) (W:World) (ha:W.cell? a=some (.pointer (some p))) :
  (ReflectliteValue.method (ReflectliteValue.valueError "reflectlite.Value.IsNil" 0) ReflectliteValue.isNil #[.agg #[.pointer (some ⟨7, 134, none⟩), .pointer (some a), .int .u64 150]]).run Tryz.prog W = .ok (.bool false) W := by
 rw[Yn8]
 simp only[Sem.run_bind,Xsi,Result.andThen]
 simp[ReflectliteValue.isNil,loadVar,isAgg,underlying,Yjo,ha,Result.andThen]
theorem Ysd (w:World):(ReflectliteType.method ReflectliteType.elem #[.agg #[.pointer (some ⟨7,134,none⟩)]]).run Tryz.prog w=.ok (.iface 211 (.agg #[.pointer (some ⟨7,132,none⟩)])) w:=by kernel_rfl
theorem Yse (w : World) : (ReflectliteType.relation "Implements" ReflectliteType.implements_ #[.agg #[.pointer (some ⟨7, 132, none⟩)], .iface 211 (.agg #[.pointer (some ⟨7, 93, none⟩)])]).run Tryz.prog w = .ok (.bool true) w := by kernel_rfl
theorem X1f (v:Value) (w:World):(ReflectliteType.typeOf #[.iface 132 v]).run Tryz.prog w=.ok (.iface 211 (.agg #[.pointer (some ⟨7,132,none⟩)])) w:=by kernel_rfl
theorem X1g (w : World) : (ReflectliteType.relation "AssignableTo" ReflectliteType.assignableTo #[.agg #[.pointer (some ⟨7, 132, none⟩)], .iface 211 (.agg #[.pointer (some ⟨7, 132, none⟩)])]).run Tryz.prog w = .ok (.bool true) w := by kernel_rfl
theorem Xt8 (x:Value) (w:World):(ReflectliteValue.unpack (.iface 132 (.agg #[x]))).run Tryz.prog w
  = .ok (.agg #[.pointer (some ⟨7,132,none⟩),.pointer (some ⟨w.heap.size,0,none⟩),.int .u64 153]) (w.alloc (.cells #[x] 132)):=by kernel_rfl
theorem Yjp (w:World):(Rtype.elem? 134).run Tryz.prog w=.ok (some 132) w:=by kernel_rfl
theorem W63 (p:Addr) (w:World):(ReflectliteValue.mk 132 p ReflectliteValue.flagAddr).run Tryz.prog w=.ok (.agg #[.pointer (some ⟨7,132,none⟩),.pointer (some p),.int .u64 409]) w:=by kernel_rfl
theorem Ysf (a p:Addr) (W:World) (ha:W.cell? a=some (.pointer (some p))) :
  (ReflectliteValue.method (ReflectliteValue.valueError "reflectlite.Value.Elem" 0) ReflectliteValue.elem #[.agg #[.pointer (some ⟨7, 134, none⟩), .pointer (some a), .int .u64 150]]).run Tryz.prog W
   = .ok (.agg #[.pointer (some ⟨7,132,none⟩),.pointer (some p),.int .u64 409]) W:=by
 rw[Yn8]
 simp only[Sem.run_bind,Xsi,Result.andThen]
 simp[ReflectliteValue.elem,loadVar,isAgg,underlying,Yjo,ha,Result.andThen,Yjp,W63]
theorem X1h (a:Addr) (w:World):(ReflectliteValue.parts (.agg #[.pointer (some ⟨7,132,none⟩),.pointer (some a),.int .u64 409])).run Tryz.prog w=.ok (some (132,a,409)) w:=by kernel_rfl
theorem Yjq (a:Addr) (w:World):(ReflectliteValue.parts (.agg #[.pointer (some ⟨7,132,none⟩),.pointer (some a),.int .u64 153])).run Tryz.prog w=.ok (some (132,a,153)) w:=by kernel_rfl
theorem Yjr (w:World):(Rtype.directlyAssignable 132 132).run Tryz.prog w=.ok true w:=by kernel_rfl
theorem W3n:Fw.szOf Tryz.prog 132=some 1:=by kernel_rfl
theorem Y14:Fw.isAggB Tryz.prog 132=true:=by kernel_rfl
theorem W3o (tb b:Nat) (x p:Value) (T:TypeId) (W:World) (hx:x.oneCell'=true) (hb:W.cell? ⟨b,0,none⟩=some x) (ht:W.heap[tb]?=some (.cells #[p] T (0,0))) :
  ∃ W',(ReflectliteValue.set #[.agg #[.pointer (some ⟨7,132,none⟩),.pointer (some ⟨tb,0,none⟩),.int .u64 409],.agg #[.pointer (some ⟨7,132,none⟩),.pointer (some ⟨b,0,none⟩),.int .u64 153]]).run Tryz.prog W=.ok (.tuple #[]) W' /\
   Fw.WKeep W W' (fun z=>z=tb)/\W'.heap[tb]?=some (.cells #[x] T (0,0)):=by
 have hl:=Fw.run_loadVar' (P:=Tryz.prog) (w:=W) W3n (.inl Y14) b 0 [x] rfl (fun j v hv=>by
  match j,hv with
  | 0,hv=>simp at hv;subst hv;exact hb
  | j+1,hv=>simp at hv)
 rw[if_pos Y14] at hl
 obtain⟨W',hs,hk,hh⟩:=Fw.run_storeVar' (P:=Tryz.prog) (w:=W) W3n tb 0 (.agg #[x]) [x] [p] T rfl rfl (by simp[hx]) ht (by simp)
 refine⟨W',?_,hk,by simpa using hh⟩
 rw[Wux]
 simp only[Sem.run_bind,X1h,Yjq,Result.andThen]
 simp[ReflectliteValue.flagAddr,hl,Yjr,Result.andThen,hs]
set_option maxHeartbeats 4000000 in
set_option maxRecDepth 1000000 in
theorem Wnb (tb:Nat) (x p:Value) (T:TypeId) (w:World) (hx:x.oneCell'=true) (hg:w.cell? ⟨0,0,none⟩=some (.iface 211 (.agg #[.pointer (some ⟨7,93,none⟩)])))
  (ht0:w.heap[tb]?=some (.cells #[p] T (0,0))) :
  Calls Tryz.prog 87 #[.iface 132 (.agg #[x]),.iface 134 (.pointer (some ⟨tb,0,none⟩))] w fun ev w'=>ev=.returned (.bool true)/\Fw.WKeep w w' (fun z=>z=tb)/\w'.heap[tb]?=some (.cells #[x] T (0,0)):=by
 have h6:=@run_callFunc_extern Tryz.prog 109 _ (fun args=>ReflectliteValue.unpack (args.getD 0 (.tuple #[]))) Tryz.func109 (by kernel_rfl) (by kernel_rfl) (by kernel_rfl) (by kernel_rfl)
 have h7 := @run_callFunc_extern Tryz.prog 110 _ (ReflectliteValue.methodAny (ReflectliteValue.valueError "reflectlite.Value.Type" 0) (fun t _ _ _ => ReflectliteType.toType t)) Tryz.func110 (by kernel_rfl) (by kernel_rfl) (by kernel_rfl) (by kernel_rfl)
 have h8 := @run_callFunc_extern Tryz.prog 111 _ (ReflectliteValue.method (ReflectliteValue.valueError "reflectlite.Value.IsNil" 0) ReflectliteValue.isNil) Tryz.func111 (by kernel_rfl) (by kernel_rfl) (by kernel_rfl) (by kernel_rfl)
 have h27:=@run_callFunc_extern Tryz.prog 204 _ (ReflectliteType.abiMethod fun t=>do pure (.int .u8 (<- Rtype.kind t))) Tryz.func204 (by kernel_rfl) (by kernel_rfl) (by kernel_rfl) (by kernel_rfl)
 have h37:=@run_callFunc_extern Tryz.prog 216 _ (ReflectliteType.method ReflectliteType.elem) Tryz.func216 (by kernel_rfl) (by kernel_rfl) (by kernel_rfl) (by kernel_rfl)
 have h38 := @run_callFunc_extern Tryz.prog 217 _ (ReflectliteType.relation "Implements" ReflectliteType.implements_) Tryz.func217 (by kernel_rfl) (by kernel_rfl) (by kernel_rfl) (by kernel_rfl)
 have h10:=@run_callFunc_extern Tryz.prog 138 _ ReflectliteType.typeOf Tryz.func138 (by kernel_rfl) (by kernel_rfl) (by kernel_rfl) (by kernel_rfl)
 have h35 := @run_callFunc_extern Tryz.prog 214 _ (ReflectliteType.relation "AssignableTo" ReflectliteType.assignableTo) Tryz.func214 (by kernel_rfl) (by kernel_rfl) (by kernel_rfl) (by kernel_rfl)
 have h11 := @run_callFunc_extern Tryz.prog 139 _ (ReflectliteValue.method (ReflectliteValue.valueError "reflectlite.Value.Elem" 0) ReflectliteValue.elem) Tryz.func139 (by kernel_rfl) (by kernel_rfl) (by kernel_rfl) (by kernel_rfl)
 have h12:=@run_callFunc_extern Tryz.prog 140 _ ReflectliteValue.set Tryz.func140 (by kernel_rfl) (by kernel_rfl) (by kernel_rfl) (by kernel_rfl)
 have tO:=X1f
 have mA:=Xrn
 have a25:=X1g
 have v25:=Xt8
 have f6:=Xt7
 have f7:=Yr9
 have mK:=Yac
 have mE:=Yad
 have mI:=Yae
 have k27:=Ysa
 have k25:=Ysb
 have e27:=Ysd
 have i25:=Yse
 have n8:=Ysc ⟨w.heap.size,0,none⟩ ⟨tb,0,none⟩ ((w.alloc (.cells #[.pointer (some ⟨tb,0,none⟩)] 134)).alloc (.cells #[.pointer (some ⟨7,134,none⟩),.pointer (some ⟨w.heap.size,0,none⟩),.int .u64 150] 182)) (by simp)
 have hlt:0 < w.heap.size:=by
  rcases Nat.lt_or_ge 0 w.heap.size with h|h
  ·exact h
  ·simp[World.cell?,Array.getElem?_eq_none h] at hg
 have hg2:((w.alloc (.cells #[.pointer (some ⟨tb,0,none⟩)] 134)).alloc (.cells #[.pointer (some ⟨7,134,none⟩),.pointer (some ⟨w.heap.size,0,none⟩),.int .u64 150] 182)).cell? ⟨0,0,none⟩=some (.iface 211 (.agg #[.pointer (some ⟨7,93,none⟩)])):=by
  rw[World.cell?_alloc_lt _ _ ⟨0,0,none⟩ (by first|(simp;omega)|simp),World.cell?_alloc_lt _ _ ⟨0,0,none⟩ hlt];exact hg
 have htl:tb < w.heap.size:=(Array.getElem?_eq_some_iff.1 ht0).1
 have el:=Ysf ⟨w.heap.size,0,none⟩ ⟨tb,0,none⟩ (((w.alloc (.cells #[.pointer (some ⟨tb,0,none⟩)] 134)).alloc (.cells #[.pointer (some ⟨7,134,none⟩),.pointer (some ⟨w.heap.size,0,none⟩),.int .u64 150] 182)).alloc (.cells #[.pointer (some ⟨7,134,none⟩),.pointer (some ⟨w.heap.size,0,none⟩),.int .u64 150] 182)) (by rw[World.cell?_alloc_lt _ _ ⟨w.heap.size,0,none⟩ (by simp;omega)];simp)
 obtain⟨W',st,hk,hh⟩:=W3o tb (w.heap.size+1+1+1) x p T ((((w.alloc (.cells #[.pointer (some ⟨tb,0,none⟩)] 134)).alloc (.cells #[.pointer (some ⟨7,134,none⟩),.pointer (some ⟨w.heap.size,0,none⟩),.int .u64 150] 182)).alloc (.cells #[.pointer (some ⟨7,134,none⟩),.pointer (some ⟨w.heap.size,0,none⟩),.int .u64 150] 182)).alloc (.cells #[x] 132)) hx
  (by rw[World.cell?_alloc_at _ _ _ _ (by simp)];try rfl)
  (by rw[Xbn _ _ (by simp;omega),Xbn _ _ (by simp;omega),Xbn _ _ (by simp;omega),Xbn _ _ htl];exact ht0)
 go_enter Tryz.func87,Xtm
 go_wp2
 refine wp_loop_rounds 1 ?_
 rw[rounds_succ]
 go_wp2
 go_ret
 refine⟨rfl,?_,hh⟩
 exact⟨hk.os,hk.tape,hk.output,by have:=hk.size;simp at this;omega,fun b hb hn=>by
  rw[hk.block b (by simp;omega) hn]
  rw[Xbn _ _ (by simp;omega),Xbn _ _ (by simp;omega),Xbn _ _ (by simp;omega),Xbn _ _ hb]⟩
open Go.Fw
def Ysg:Option Int->D
 | none=>.nilI
 | some e=>.ifc 132 true [.int .i64 e]
theorem W3p {gp:Xal} (hE:Yoc gp) (e:Option Int):Tri Go.Proofs.Tryz.prog gp 87 [.one (.d (Ysg e)),.one (.ifo 134 (.ptr 0 0))] [.cells [.d (.int .i64 0)]] fun r post=>r=vb e.isSome/\post=[.cells [.d (.int .i64 (e.getD 0))]]:=by
 intro H w an F us hgp hmod hanc hown hF hdj hargs
 obtain⟨u1,u2,rfl,h1,h2⟩:∃ u1 u2,us=[u1,u2]/\Den H (Ysg e) u1/\Xcx H an (.ifo 134 (.ptr 0 0)) u2:=by
  match us,hargs with
  | [u1,u2],h=>exact⟨u1,u2,rfl,h.1,h.2.1⟩
 obtain⟨pv,rfl,b,rfl,p,hp,hpb⟩:=h2
 obtain⟨q,hq,h0,b',T,vs,hqv,hFb,hheap,hden⟩:=hown 0 _ rfl
 rw[hp] at hq;cases hq
 have hbb:b=b':=hpb b' hqv
 subst hbb
 obtain⟨x0,rfl,hx0⟩:∃ x,vs=[x]/\Den H (.int .i64 0) x:=by
  match vs,hden with
  | [x],h=>exact⟨x,rfl,h.1⟩
 cases e with
 | none =>
  cases h1
  intro cs
  obtain⟨e,w',fr,⟨rfl,rfl⟩,g2,g3,g4⟩:=Ywq (.iface 134 (.pointer (some ⟨b,0,none⟩))) w cs
  refine⟨_,w',fr,⟨_,_,_,H,an,F,rfl,⟨rfl,rfl⟩,WKeep.refl _ _,Xal.Le.refl _,hmod,fun b o hb=>.inl hb,Anc.Le.refl _,hanc,hown,fun i b hb=>?_,hdj,Den.bool _⟩,g2,g3,g4⟩
  obtain⟨k1,k2,k3⟩:=hF i b hb
  exact⟨k1,k2,k3,.inr ⟨i,hb⟩⟩
 | some e =>
  obtain⟨x,rfl,hx⟩:∃ x,u1=.iface 132 (.agg #[x])/\Den H (.int .i64 e) x:=by
   cases h1 with
   | ifcA t cs vs hlen hd =>
    match vs,hlen,hd with
    | [x],_,hd=>exact⟨x,rfl,hd 0 _ _ rfl rfl⟩
  intro cs
  obtain⟨e',w',fr,⟨rfl,hk,hh⟩,g2,g3,g4⟩:=Wnb b x x0 T w hx.oneCell (hE H w hgp hmod) hheap cs
  have hFall:∀ i z,F i z->z=b:=fun i z hz=>by
   have hi:=(hF i z hz).1
   have:i=0:=by simp at hi;exact hi
   subst this
   exact (hFb z).1 hz
  refine⟨_,w',fr,⟨_,_,_,H,an,F,rfl,⟨rfl,rfl⟩,hk.mono fun z hz=>⟨0,(hFb z).2 hz⟩,Xal.Le.refl _,fun z o hz=>?_,fun b o hb=>.inl hb,Anc.Le.refl _,hanc,fun i c hc=>?_,fun i z hz=>?_,hdj,Den.bool _⟩,g2,g3,g4⟩
  ·have h3:=hmod z o hz
   refine (hk.block z (Array.getElem?_eq_some_iff.1 h3).1 fun e=>?_).trans h3
   subst e
   have:=(hF 0 z ((hFb z).2 rfl)).2.2
   rw[this] at hz;cases hz
  ·match i,hc with
   | 0,hc =>
    cases hc
    exact⟨p,hp,h0,b,T,[x],hqv,hFb,hh,hx,trivial⟩
  ·obtain⟨k1,k2,k3⟩:=hF i z hz
   exact⟨k1,Nat.lt_of_lt_of_le k2 hk.size,k3,.inr ⟨i,hz⟩⟩
end Go.Fw.L07
namespace Go.Fw.L07
open Go Go.Fw
open Go.Fw.Sh renaming intro->Kg
open Go.Fw renaming Xhj->Ka,Xev->Kb,Xhm->Kv,Xew->Ke,Xex->Kf,Xhl->Kh,Xhk->Ki,Xdt->Kt,Xmi->Kk,Xfn->Ku,Xdr->Kl,Xfh->Km,Gx->Kn,Gw->Ko
open Int renaming natCast_nonneg->Kq
open And renaming intro->Kp
open Go.Proofs.Tryz renaming prog->QP
open Go.Fw.V.one renaming injEq->Qs
open Go.Fw.V.agg renaming injEq->Qt
open Go.Fw.V.tup renaming injEq->Qu
open Go.Fw.A.d renaming injEq->Qv
open Go.Fw.D.bool renaming injEq->Qw
open Go.Fw.D.int renaming injEq->Qx
open Go.Fw.D.str renaming injEq->Qy
open Go.Fw.D.sl renaming injEq->Qz
open List.cons renaming injEq->Za
set_option maxRecDepth 4000
variable {gp:Xal}
theorem W3q (hE:Yoc gp) (e:Option Int):Xak QP gp 55 [.one (.d (Ysg e))] (vi (e.getD 0)):=by
 refine W2t ?_
 simp only[go_sem]
 repeat' first|refine Kn rfl ?_|((first|refine Ka ?_|refine Kb ?_|refine Kv ?_|refine Ke ?_);simp only[go_sem])|refine Kf ?_|refine Kg ?_|apply Kp<;>intro _|((first|refine Kh ?_|refine Ki rfl ?_);simp only[or_self,Qs,Qt,Qu,Qv,Qw,Qx,Qy,Qz,Za,go_sem])
 refine Or.inr ⟨[0],vb e.isSome,[.cells [.d (.int .i64 (e.getD 0))]],(by simp only[Xbo,go_sem];exact⟨by kernel_rfl,W3p hE e⟩),Kg ?_⟩
 simp only[go_sem]
 repeat' first|refine Kn rfl ?_|((first|refine Ka ?_|refine Kb ?_|refine Kv ?_|refine Ke ?_);simp only[go_sem])|refine Kf ?_|refine Kg ?_|apply Kp<;>intro _|((first|refine Kh ?_|refine Ki rfl ?_);simp only[or_self,Qs,Qt,Qu,Qv,Qw,Qx,Qy,Qz,Za,go_sem])
 rename_i h
 cases e with
 | none=>rfl
 | some e=>simp at h
abbrev qD (g:Gr):D:=.bx [.int .i64 g.root,.sl (nds g.l),.sl (Xag (Xaz g.l))]
theorem qof (h:Env10 gp) (g:Gr) (hs:Xc7 g) (hst:∀ x∈g.l,x.short):Xak QP gp 54 [g.v] (if chk g=none then .tup [.one (.d (qD g)),.one (.d (Ysg none))] else .tup [.one (.d .nilP),.one (.d (Ysg (some (Xfw g))))]):=by
 refine W2m ?_
 simp only[go_sem]
 have c1:=Yie h g hs hst
 by_cases hc:chk g=none
 ·have hg:Good g:=⟨hc,hs⟩
  rw[Xhh hg,Xbv hc] at c1
  rw[if_pos hc]
  repeat' first|refine Kn rfl ?_|((first|refine Ka ?_|refine Kb ?_|refine Kv ?_|refine Ke ?_);simp only[go_sem])|refine Kf ?_|refine Kg ?_|refine⟨_,c1,Kg ?_⟩|refine⟨_,⟨c1,rfl⟩,Kg ?_⟩|apply Kp<;>intro _|((first|refine Kh ?_|refine Ki rfl ?_);simp only[or_self,Qs,Qt,Qu,Qv,Qw,Qx,Qy,Qz,Za,go_sem])
  all_goals rfl
 ·have he:=Xdc hc
  rw[if_neg hc]
  generalize Xfw g=e at *
  generalize cOf g=l at *
  have e1:(e != 0)=true:=by simpa using he
  repeat' first|refine Kn rfl ?_|((first|refine Ka ?_|refine Kb ?_|refine Kv ?_|refine Ke ?_);simp only[e1,go_sem])|refine Kf ?_|refine Kg ?_|refine⟨_,c1,Kg ?_⟩|refine⟨_,⟨c1,rfl⟩,Kg ?_⟩|apply Kp<;>intro _|((first|refine Kh ?_|refine Ki rfl ?_);simp only[e1,or_self,Qs,Qt,Qu,Qv,Qw,Qx,Qy,Qz,Za,go_sem])
  all_goals rfl
theorem Ysh (g:Gr) (c l:List Int) (hl:l.length<=1000) (hc:∀ j∈l,0<=j/\∃ x,c[j.toNat]?=some x/\okI x):Xak QP gp 89 [pD g c,.one (.d (.sl (Xag l)))] (.one (.d (.sl (Xag (l.map (Xer c)))))):=by
 refine W3l ?_
 simp only[go_sem]
 repeat' first|refine Kn rfl ?_|((first|refine Ka ?_|refine Kb ?_|refine Kv ?_|refine Ke ?_);simp only[Xji,Xjj,Xjk,Xhx,Xjl,Xjm,Xgg,Xgh,go_sem])|refine Kf ?_|refine Kg ?_|apply Kp<;>intro _|((first|refine Kh ?_|refine Ki rfl ?_);simp only[Xji,Xjj,Xjk,Xhx,Xjl,Xjm,Xgg,Xgh,or_self,Qs,Qt,Qu,Qv,Qw,Qx,Qy,Qz,Za,go_sem])
 refine Xds 5 1 (by decide) rfl ?_
 simp only[go_sem]
 refine Kt (fr 26 [(0,pD g c),(5,.one (.own 0 (0:Nat))),(8,.one (.d (.sl (Xag l)))),(9,vi l.length),(10,vi (0:Nat))]) ?_
 refine Km (fun mz sz=>∃ i:Nat,i<=l.length/\mz=l.length - i/\(0<=i)/\sz=⟨fr 26 [(0,pD g c),(5,.one (.own 0 i)),(8,.one (.d (.sl (Xag l)))),(9,vi l.length),(10,vi i)],[.row 1 i (Xag ((l.map (Xer c)).take i))]⟩) (l.length) ⟨0,Nat.zero_le _,(Nat.sub_zero _).symm,?_,rfl⟩ ?_
 ·exact Nat.zero_le _
 rintro _ _ ⟨i,hi,rfl,-,rfl⟩
 simp only[go_sem]
 by_cases hil:i < l.length
 ·obtain⟨j,hj⟩:=Xai hil
  obtain⟨hj0,y,hy,_⟩:=hc j (List.mem_of_getElem? hj)
  have e1:decide ((i:Int) < (l.length:Int))=true:=decide_eq_true (by omega)
  have hcy:Xer c j=y:=by unfold Xer;rw[hy];rfl
  have hsn:Xag ((l.map (Xer c)).take i)++[[.int .i64 y]]=Xag ((l.map (Xer c)).take (i+1)):=Xcv (by rw[List.getElem?_map,hj,<- hcy];rfl)
  repeat' first|refine Kn rfl ?_|((first|refine Ka ?_|refine Kb ?_|refine Kv ?_|refine Ke ?_);simp only[Xji,Xjj,Xjk,Xhx,Xjl,Xjm,Xgg,Xgh,e1,go_sem])|refine Kf ?_|refine Kg ?_|refine⟨_,⟨Kq _,Xd2 hj,rfl⟩,Kg ?_⟩|refine⟨_,⟨hj0,Xd2 hy,rfl⟩,Kg ?_⟩|apply Kp<;>intro _|((first|refine Kh ?_|refine Ki rfl ?_);simp only[Xji,Xjj,Xjk,Xhx,Xjl,Xjm,Xgg,Xgh,e1,or_self,Qs,Qt,Qu,Qv,Qw,Qx,Qy,Qz,Za,go_sem])
  refine⟨by simp,by simp;omega,by simp[Xac];omega,?_⟩
  rw[hsn]
  repeat' first|refine Kn rfl ?_|((first|refine Ka ?_|refine Kb ?_|refine Kv ?_|refine Ke ?_);simp only[Xji,Xjj,Xjk,Xhx,Xjl,Xjm,Xgg,Xgh,go_sem])|refine Kf ?_|refine Kg ?_|apply Kp<;>intro _|((first|refine Kh ?_|refine Ki rfl ?_);simp only[Xji,Xjj,Xjk,Xhx,Xjl,Xjm,Xgg,Xgh,or_self,Qs,Qt,Qu,Qv,Qw,Qx,Qy,Qz,Za,go_sem])
  refine⟨Xah hil (by unfold Xac;omega),?_⟩
  refine Kt (fr 26 [(0,pD g c),(5,.one (.own 0 (i+1))),(8,.one (.d (.sl (Xag l)))),(9,vi l.length),(10,vi (i+1))]) ?_
  refine Ku 1 ?_
  simp only[go_sem]
  refine Kl ⟨l.length - (i+1),by omega,i+1,by omega,rfl,?_,rfl⟩
  exact Nat.zero_le _
 ·repeat refine Ko rfl ?_
  refine Ka ?_
  simp only[Xhx,go_sem]
  repeat refine Ko rfl ?_
  refine Ke ?_
  simp only[go_sem]
  refine⟨fun h=>by exfalso;omega,fun _=>Xc1 rfl ?_⟩
  obtain rfl:i=l.length:=by omega
  rw[List.take_of_length_le (by simp)]
  refine Xar 0 ?_
  simp only[go_sem]
  repeat' first|refine Kn rfl ?_|((first|refine Ka ?_|refine Kb ?_|refine Kv ?_|refine Ke ?_);simp only[Xji,Xjj,Xjk,Xhx,Xjl,Xjm,Xgg,Xgh,go_sem])|refine Kf ?_|refine Kg ?_|apply Kp<;>intro _|((first|refine Kh ?_|refine Ki rfl ?_);simp only[Xji,Xjj,Xjk,Xhx,Xjl,Xjm,Xgg,Xgh,or_self,Qs,Qt,Qu,Qv,Qw,Qx,Qy,Qz,Za,go_sem])
theorem Xt9:∀ (l:List Int) (k:Nat),k<=Xeq l k
 | [],k=>Nat.le_refl _
 | c::r,k=>by
  have:=Xt9 r (if c < k then k else k+1)
  simp only[Xeq]
  split at this
  ·rename_i h;rw[if_pos h];omega
  ·rename_i h;rw[if_neg h];omega
theorem Xua:∀ {r:List Int} {k i0 m:Nat} {c:Int},r[m]?=some c->¬ c < Xeq (r.take m) k->(Xr4 r k i0)[Xeq (r.take m) k - k]?=some ((i0+m:Nat):Int)
 | x::r,k,i0,0,c,h,hc=>by
  obtain rfl:x=c:=by simpa using h
  simp only[List.take_zero,Xeq] at hc ⊢
  simp only[Xr4]
  rw[if_neg hc]
  simp
 | x::r,k,i0,m+1,c,h,hc=>by
  simp only[List.take_succ_cons,Xeq] at hc ⊢
  have h':r[m]?=some c:=by simpa using h
  have ih:=Xua (i0:=i0+1) h' hc
  simp only[Xr4]
  split at ih
  ·rename_i hx
   simp only[if_pos hx]
   rw[ih];congr 2;omega
  ·rename_i hx
   simp only[if_neg hx]
   have hg:=Xt9 (r.take m) (k+1)
   rw[show Xeq (r.take m) (k+1) - k=(Xeq (r.take m) (k+1) - (k+1))+1 by omega,List.getElem?_cons_succ,ih]
   congr 2;omega
theorem Xnj:∀ (r:List Int) (k i0:Nat),(Xr4 r k i0).length=Xeq r k - k
 | [],k,_=>by simp[Xr4,Xeq]
 | x::r,k,i0=>by
  simp only[Xr4,Xeq]
  split
  ·exact Xnj r k (i0+1)
  ·rw[List.length_cons,Xnj r (k+1) (i0+1)]
   have:=Xt9 r (k+1)
   omega
def upI (n:Nat):List Int:=(List.range n).map fun m:Nat=>(m:Int)
theorem Xub {n:Nat} {c:Int}:c∈upI n↔0<=c/\c < n:=by
 unfold upI
 rw[List.mem_map]
 constructor
 ·rintro⟨m,hm,rfl⟩;rw[List.mem_range] at hm;omega
 ·rintro⟨h1,h2⟩;exact⟨c.toNat,List.mem_range.2 (by omega),by omega⟩
theorem Ysi (n:Nat):upI (n+1)=upI n++[(n:Int)]:=by simp[upI,List.range_succ]
abbrev W31 (n:Nat):List (V × V):=(upI n).map fun a=>(vi a,vb true)
theorem Yjs (n:Nat):(Ch.map (W31 n)).refs=[]:=by
 simp only[Ch.refs]
 rw[List.flatMap_eq_nil_iff]
 intro e he
 obtain⟨a,_,rfl⟩:=List.mem_map.1 he
 rfl
theorem Ysj (q:D):Xak QP gp 88 [.one (.d q)] (.one (.d (.fn (.func 113) [.bx [q]]))):=by
 refine W3d ?_
 simp only[go_sem]
 repeat' first|refine Kn rfl ?_|((first|refine Ka ?_|refine Kb ?_|refine Kv ?_|refine Ke ?_);simp only[go_sem])|refine Kf ?_|refine Kg ?_|apply Kp<;>intro _|((first|refine Kh ?_|refine Ki rfl ?_);simp only[or_self,Qs,Qt,Qu,Qv,Qw,Qx,Qy,Qz,Za,go_sem])
set_option maxHeartbeats 2000000 in
theorem Yjt {g:Gr} (hg:Good g):Xak QP gp 56 [.one (.d (qD g))] (Xat g).v:=by
 have hcl:=Xd1 hg.fine
 have hord:=Xkd hg.fine
 have hroot:=Xg8 hg.fine hg.root
 have hr0:=hg.root
 have hgl:=hg.len
 have hnew:∀ (i:Nat) (c:Int),(Xaz g.l)[i]?=some c->¬ c < Xeq ((Xaz g.l).take i) 0->(Xat g).l[Xeq ((Xaz g.l).take i) 0]?=some (Xgo (Xfa g.l) (Xau g.l i)):=fun i c h1 h2=>by
  have:=Xua (i0:=0) h1 h2
  simp only[Xat,List.getElem?_map]
  unfold Xzm
  rw[show Xeq ((Xaz g.l).take i) 0=Xeq ((Xaz g.l).take i) 0 - 0 by omega,this]
  simp
 have hend:(Xat g).l.length=Xeq (Xaz g.l) 0:=by
  rw[Xc9];unfold Xzm;rw[Xnj];omega
 have hWlen:(Xat g).l.length<=200:=hg.whole.len
 have hWlen:(Xat g).l.length<=200:=hg.whole.len
 have hwr:(Xat g).root=Xfa g.l g.root:=rfl
 have hkc:∀ i:Int,∀ j∈Xaf (Xau g.l i),0<=j/\∃ x,(Xaz g.l)[j.toNat]?=some x/\okI x:=fun i j hj=>by
  have h1:=hg.kid i j hj
  have h2:=Xke hg.fine (i:=j) h1
  have h3:=Xi8 (Xaz g.l) 0 0
  refine⟨h1.1,_,Xg8 hg.fine h1,?_⟩
  rw[show (Xzm g.l).length=(Xr4 (Xaz g.l) 0 0).length from rfl] at h2
  unfold okI;omega
 have hca:∀ i:Int,(Xaf (Xau g.l i)).map (Xer (Xaz g.l))=(Xaf (Xau g.l i)).map (Xfa g.l):=fun _=>rfl
 generalize Xat g=W at *
 rw[show W=⟨W.root,W.l⟩ from rfl,hwr]
 refine W22 ?_
 simp only[go_sem]
 have cf:=Ysj (gp:=gp) (qD g)
 repeat' first|refine Kn rfl ?_|((first|refine Ka ?_|refine Kb ?_|refine Kv ?_|refine Ke ?_);simp only[go_sem])|refine Kf ?_|refine Kg ?_|refine⟨_,cf,Kg ?_⟩|refine⟨_,⟨cf,rfl⟩,Kg ?_⟩|refine⟨_,⟨hr0.1,Xd2 hroot,rfl⟩,Kg ?_⟩|apply Kp<;>intro _|((first|refine Kh ?_|refine Ki rfl ?_);simp only[or_self,Qs,Qt,Qu,Qv,Qw,Qx,Qy,Qz,Za,go_sem])
 refine Xfm 1 1 6 (by decide) rfl rfl ?_
 simp only[go_sem]
 refine Woa (f2:=113) (caps:=[.one (.d (.bx [qD g]))]) (fun pd own'=>pd=none/\∃ rest,own'=.cells [.d (.int .i64 0),.nil]::.cells [.d (.int .i64 (Xfa g.l g.root)),.own 2 W.l.length]::.row 6 W.l.length (nds W.l)::rest) rfl ?_ Wna ?_ ?_ ?_
 ·intro y;simp only[go_sem]
 ·rintro b rc hps ⟨hs,hta,htb⟩
  refine Yr8 ?_
  simp only[go_sem]
  repeat' first|refine Kn rfl ?_|((first|refine Ka ?_|refine Kb ?_|refine Kv ?_|refine Ke ?_);simp only[go_sem])|refine Kf ?_|refine Kg ?_|apply Kp<;>intro _|((first|refine Kh ?_|refine Ki rfl ?_);simp only[or_self,Qs,Qt,Qu,Qv,Qw,Qx,Qy,Qz,Za,go_sem])
  refine Kt (fr 28 [(0,.one (.d (.raw (.func (.yield b) #[] #[])))),(1,.one (.d (.bx [qD g]))),(3,.one (.own 4 0)),(10,.one (.d (.sl (Xag (Xaz g.l))))),(11,vi (Xaz g.l).length),(12,vi (0:Nat))]) ?_
  refine Km (fun mz sz=>∃ i:Nat,i<=(Xaz g.l).length/\mz=(Xaz g.l).length - i/\(0<=i)/\sz=⟨fr 28 [(0,.one (.d (.raw (.func (.yield b) #[] #[])))),(1,.one (.d (.bx [qD g]))),(3,.one (.own 4 0)),(10,.one (.d (.sl (Xag (Xaz g.l))))),(11,vi (Xaz g.l).length),(12,vi i)],[.cells [.d (.int .i64 0),.nil],.cells [.d (.int .i64 (Xfa g.l g.root)),.own 2 (Xeq ((Xaz g.l).take i) 0)],.row 6 (Xeq ((Xaz g.l).take i) 0) (nds (W.l.take (Xeq ((Xaz g.l).take i) 0))),.lp b _ rc .ready none,.map (W31 (Xeq ((Xaz g.l).take i) 0))]⟩) ((Xaz g.l).length) ⟨0,Nat.zero_le _,(Nat.sub_zero _).symm,?_,rfl⟩ ?_
  ·exact Nat.zero_le _
  rintro _ _ ⟨i,hi,rfl,-,rfl⟩
  simp only[go_sem]
  by_cases hil:i < (Xaz g.l).length
  ·obtain⟨c,hc⟩:=Xai hil
   obtain⟨x,hx⟩:=Xai (l:=g.l) (i:=i) (by omega)
   obtain⟨hin,hnd⟩:=Xr2 hx
   have e1:decide ((i:Int) < ((Xaz g.l).length:Int))=true:=decide_eq_true (by omega)
   obtain⟨h1,h2,h3⟩:=Xnc hord hc
   have hn:=hnew i c hc
   have hf:=Xmn (v:=vb true) Xpw (upI (Xeq ((Xaz g.l).take i) 0)) c
   generalize hk:Xeq ((Xaz g.l).take i) 0=k at *
   generalize hk2:Xeq ((Xaz g.l).take (i+1)) 0=k2 at *
   by_cases hlt:c < k
   ·rw[if_pos hlt] at h3
    subst h3
    rw[if_pos (Xub.2 ⟨h1,hlt⟩)] at hf
    repeat' first|refine Kn rfl ?_|((first|refine Ka ?_|refine Kb ?_|refine Kv ?_|refine Ke ?_);simp only[e1,go_sem])|refine Kf ?_|refine Kg ?_|refine⟨_,⟨Kq _,Xd2 hc,rfl⟩,Kg ?_⟩|refine⟨_,⟨hf,rfl⟩,Kg ?_⟩|(apply Kp<;>intro _<;>try (exfalso;omega))|((first|refine Kh ?_|refine Ki rfl ?_);simp only[e1,or_self,Qs,Qt,Qu,Qv,Qw,Qx,Qy,Qz,Za,go_sem])
    refine⟨Xah hil (by unfold Xac;omega),?_⟩
    refine Kt (fr 28 [(0,.one (.d (.raw (.func (.yield b) #[] #[])))),(1,.one (.d (.bx [qD g]))),(3,.one (.own 4 0)),(10,.one (.d (.sl (Xag (Xaz g.l))))),(11,vi (Xaz g.l).length),(12,vi (i+1))]) ?_
    exact Kl ⟨(Xaz g.l).length - (i+1),by omega,i+1,by omega,rfl,Nat.zero_le _,by rw[hk2];rfl⟩
   ·rw[if_neg hlt] at h3
    subst h3
    obtain rfl:c=(k:Int):=by omega
    rw[if_neg (fun h=>by have:=(Xub.1 h).2;omega)] at hf
    have hput:=Xph (v:=vb true) Xpw (upI k) (k:Int) (fun h=>by have:=(Xub.1 h).2;omega)
    rw[<- Ysi] at hput
    have hW:=hn (by omega)
    have hWl:=(List.getElem?_eq_some_iff.1 hW).1
    have hsn:=Xi1 hW
    have ck:=keys (gp:=gp) g i hg.s
    have ckd:=kids (gp:=gp) g i hg.s
    have hkl:=Xdk (Xau g.l i) 12 (hg.s.at i)
    have cc:=Ysh (gp:=gp) g (Xaz g.l) (Xaf (Xau g.l i)) (by omega) (hkc i)
    rw[hca] at cc
    have hx':g.l[i]?=some (Xau g.l i):=by rw[hnd];exact hx
    unfold Xgo at hsn
    generalize Xau g.l i=y at *
    have htl:(W.l.take k).length=k:=by simp;omega
    have hWb:=hWlen
    repeat' first|refine Kn rfl ?_|((first|refine Ka ?_|refine Kb ?_|refine Kv ?_|refine Ke ?_);simp only[e1,go_sem])|refine Kf ?_|refine Kg ?_|refine⟨_,⟨Kq _,Xd2 hc,rfl⟩,Kg ?_⟩|refine⟨_,⟨hf,rfl⟩,Kg ?_⟩|refine⟨_,hput,Kg ?_⟩|(apply Kp<;>intro _<;>try (exfalso;omega))|((first|refine Kh ?_|refine Ki rfl ?_);simp only[e1,or_self,Qs,Qt,Qu,Qv,Qw,Qx,Qy,Qz,Za,go_sem])
    refine⟨[.cells [.d (.int .i64 0),.nil],.cells [.d (.int .i64 (Xfa g.l g.root)),.own 2 (k+1)],.row 6 (k+1) (nds (W.l.take (k+1))),.lp b _ rc .ready none,.map (W31 (k+1))],true,by simp,⟨3,_,rc,hs,_,_,[.cells [.d (.int .i64 0),.nil],.cells [.d (.int .i64 (Xfa g.l g.root)),.own 2 (k+1)],.row 6 (k+1) (nds (W.l.take (k+1))),.dead,.map (W31 (k+1))],none,rfl,by rw[<- Array.length_toList,hps];rfl,hta,htb,?_,rfl,rfl⟩,Kg ?_⟩
    ·rw[hps]
     simp only[go_sem]
     repeat' first|refine Kn rfl ?_|((first|refine Ka ?_|refine Kb ?_|refine Kv ?_|refine Ke ?_);simp only[go_sem])|refine Kf ?_|refine Kg ?_|apply Kp<;>intro _|((first|refine Kh ?_|refine Ki rfl ?_);simp only[or_self,Qs,Qt,Qu,Qv,Qw,Qx,Qy,Qz,Za,go_sem])
     refine Xjy ⟨rfl,?_⟩
     repeat' first|refine Kn rfl ?_|((first|refine Ka ?_|refine Kb ?_|refine Kv ?_|refine Ke ?_);simp only[go_sem])|refine Kf ?_|refine Kg ?_|refine⟨_,ck,Kg ?_⟩|refine⟨_,⟨ck,rfl⟩,Kg ?_⟩|refine⟨_,ckd,Kg ?_⟩|refine⟨_,⟨ckd,rfl⟩,Kg ?_⟩|refine⟨_,cc,Kg ?_⟩|refine⟨_,⟨cc,rfl⟩,Kg ?_⟩|refine⟨_,⟨Kq _,Xt5 hx',rfl⟩,Kg ?_⟩|refine⟨_,⟨Kq _,Xt5 hx',rfl⟩,Kg ?_⟩|apply Kp<;>intro _|((first|refine Kh ?_|refine Ki rfl ?_);simp only[or_self,Qs,Qt,Qu,Qv,Qw,Qx,Qy,Qz,Za,go_sem])
     refine⟨by simp,by simp[nds];omega,by simp[Xac,nds];omega,?_⟩
     rw[hsn]
     repeat' first|refine Kn rfl ?_|((first|refine Ka ?_|refine Kb ?_|refine Kv ?_|refine Ke ?_);simp only[go_sem])|refine Kf ?_|refine Kg ?_|apply Kp<;>intro _|((first|refine Kh ?_|refine Ki rfl ?_);simp only[or_self,Qs,Qt,Qu,Qv,Qw,Qx,Qy,Qz,Za,go_sem])
     exact Xjy ⟨⟨rfl,rfl⟩,rfl⟩
    ·simp only[go_sem]
     repeat' first|refine Kn rfl ?_|((first|refine Ka ?_|refine Kb ?_|refine Kv ?_|refine Ke ?_);simp only[go_sem])|refine Kf ?_|refine Kg ?_|apply Kp<;>intro _|((first|refine Kh ?_|refine Ki rfl ?_);simp only[or_self,Qs,Qt,Qu,Qv,Qw,Qx,Qy,Qz,Za,go_sem])
     refine⟨Xah hil (by unfold Xac;omega),?_⟩
     refine Kt (fr 28 [(0,.one (.d (.raw (.func (.yield b) #[] #[])))),(1,.one (.d (.bx [qD g]))),(3,.one (.own 4 0)),(10,.one (.d (.sl (Xag (Xaz g.l))))),(11,vi (Xaz g.l).length),(12,vi (i+1))]) ?_
     refine Kk 5 (by simp only[List.length_nil,List.length_cons];decide) (by simp only[go_sem]) (by simp only[List.take_succ_cons,List.take_zero,List.all_cons,List.all_nil,Yjs];simp only[go_sem]) ?_
     simp only[go_sem]
     exact Kl ⟨(Xaz g.l).length - (i+1),by omega,i+1,by omega,rfl,Nat.zero_le _,by rw[hk2];rfl⟩
  ·obtain rfl:i=(Xaz g.l).length:=by omega
   have e1:decide (((Xaz g.l).length:Int) < ((Xaz g.l).length:Int))=false:=decide_eq_false (by omega)
   rw[List.take_of_length_le (Nat.le_refl _),<- hend,List.take_of_length_le (Nat.le_refl _)]
   repeat' first|refine Kn rfl ?_|((first|refine Ka ?_|refine Kb ?_|refine Kv ?_|refine Ke ?_);simp only[e1,go_sem])|refine Kf ?_|refine Kg ?_|apply Kp<;>intro _|((first|refine Kh ?_|refine Ki rfl ?_);simp only[e1,or_self,Qs,Qt,Qu,Qv,Qw,Qx,Qy,Qz,Za,go_sem])
   exact⟨.ready,none,rfl,by simp,rfl,_,rfl⟩
 ·rintro own' ⟨_,rest,rfl⟩
  simp only[go_sem]
  refine Kt (fr 73 [(2,.one (.ptr 0 0)),(3,.one (.ptr 1 0))]) ?_
  refine Ku 3 ?_
  simp only[go_sem]
  refine Xar 2 ?_
  simp only[go_sem]
  repeat' first|refine Kn rfl ?_|((first|refine Ka ?_|refine Kb ?_|refine Kv ?_|refine Ke ?_);simp only[go_sem])|refine Kf ?_|refine Kg ?_|apply Kp<;>intro _|((first|refine Kh ?_|refine Ki rfl ?_);simp only[or_self,Qs,Qt,Qu,Qv,Qw,Qx,Qy,Qz,Za,go_sem])
  all_goals trace_state
 ·rintro _ _ ⟨h,_⟩;cases h
noncomputable def qOf (g:Gr):Gr:=if chk g=none then Xc0 g else ⟨0,[]⟩
theorem Xjn {g:Gr} (h:Good g):qOf g=Xc0 g:=by unfold qOf;rw[if_pos h.c]
theorem Xz4 (h:Env10 gp) (g:Gr) (hs:Xc7 g) (hst:∀ x∈g.l,x.short):Xak QP gp 25 [g.v] (.tup [(qOf g).v,vi (Xfw g)]):=by
 refine W1h ?_
 simp only[go_sem]
 have c1:=qof h g hs hst
 have c2:=fun e=>W3q (gp:=gp) h.e.e e
 by_cases hc:chk g=none
 ·have hg:Good g:=⟨hc,hs⟩
  rw[if_pos hc] at c1
  rw[Xjn hg,Xbv hc]
  have c3:=Yjt (gp:=gp) hg
  have c4:=Wh4 h.e (Xat g) hg.whole.s
  rw[Xpx hg.whole,Xbv hg.whole.c] at c4
  unfold Xc0
  simp only[Ysg] at c1
  repeat' first|refine Kn rfl ?_|((first|refine Ka ?_|refine Kb ?_|refine Kv ?_|refine Ke ?_);simp only[go_sem])|refine Kf ?_|refine Kg ?_|refine⟨_,c1,Kg ?_⟩|refine⟨_,⟨c1,rfl⟩,Kg ?_⟩|refine⟨_,c3,Kg ?_⟩|refine⟨_,⟨c3,rfl⟩,Kg ?_⟩|refine⟨_,c4,Kg ?_⟩|refine⟨_,⟨c4,rfl⟩,Kg ?_⟩|apply Kp<;>intro _|((first|refine Kh ?_|refine Ki rfl ?_);simp only[or_self,Qs,Qt,Qu,Qv,Qw,Qx,Qy,Qz,Za,go_sem])
  all_goals trace_state
 ·rw[if_neg hc] at c1
  have e0:qOf g=⟨0,[]⟩:=by unfold qOf;rw[if_neg hc]
  rw[e0]
  have c3:=c2 (some (Xfw g))
  generalize Xfw g=e at *
  simp only[Ysg,Option.getD_some] at c1 c3
  repeat' first|refine Kn rfl ?_|((first|refine Ka ?_|refine Kb ?_|refine Kv ?_|refine Ke ?_);simp only[go_sem])|refine Kf ?_|refine Kg ?_|refine⟨_,c1,Kg ?_⟩|refine⟨_,⟨c1,rfl⟩,Kg ?_⟩|refine⟨_,c3,Kg ?_⟩|refine⟨_,⟨c3,rfl⟩,Kg ?_⟩|apply Kp<;>intro _|((first|refine Kh ?_|refine Ki rfl ?_);simp only[or_self,Qs,Qt,Qu,Qv,Qw,Qx,Qy,Qz,Za,go_sem])
  all_goals trace_state
theorem Xuc (h:Env10 gp) (g:Gr) (hs:Xc7 g) (hst:∀ x∈g.l,x.short):Xak QP gp 30 [g.v] (vb (decide (chk g=none/\g=Xc0 g))):=by
 refine W17 ?_
 simp only[go_sem]
 have c1:=Xz4 h g hs hst
 by_cases hc:chk g=none
 ·rw[Xjn ⟨hc,hs⟩,Xbv hc] at c1
  repeat' first|refine Kn rfl ?_|((first|refine Ka ?_|refine Kb ?_|refine Kv ?_|refine Ke ?_);simp only[go_sem])|refine Kf ?_|refine Kg ?_|refine⟨_,c1,Kg ?_⟩|refine⟨_,⟨c1,rfl⟩,Kg ?_⟩|refine⟨_,Xml g (Xc0 g),Kg ?_⟩|refine⟨_,⟨Xml g (Xc0 g),rfl⟩,Kg ?_⟩|apply Kp<;>intro _|((first|refine Kh ?_|refine Ki rfl ?_);simp only[or_self,Qs,Qt,Qu,Qv,Qw,Qx,Qy,Qz,Za,go_sem])
  simp[hc]
 ·have he:=Xdc hc
  generalize Xfw g=e at *
  have e1:(e==0)=false:=by simpa using he
  repeat' first|refine Kn rfl ?_|((first|refine Ka ?_|refine Kb ?_|refine Kv ?_|refine Ke ?_);simp only[e1,go_sem])|refine Kf ?_|refine Kg ?_|refine⟨_,c1,Kg ?_⟩|refine⟨_,⟨c1,rfl⟩,Kg ?_⟩|refine⟨_,Xml g (qOf g),Kg ?_⟩|refine⟨_,⟨Xml g (qOf g),rfl⟩,Kg ?_⟩|apply Kp<;>intro _|((first|refine Kh ?_|refine Ki rfl ?_);simp only[e1,or_self,Qs,Qt,Qu,Qv,Qw,Qx,Qy,Qz,Za,go_sem])
  all_goals simp_all
noncomputable def pOf (g:Gr):List Int:=if chk g=none then Wnq g else []
set_option maxHeartbeats 1000000 in
theorem Xz5 (h:Env10 gp) (g:Gr) (hs:Xc7 g) (hst:∀ x∈g.l,x.short):Xak QP gp 27 [g.v] (.tup [.one (.d (.sl (Xag (pOf g)))),vi (Xfw g)]):=by
 refine W1v ?_
 simp only[go_sem]
 have c1:=qof h g hs hst
 by_cases hc:chk g=none
 ·have hg:Good g:=⟨hc,hs⟩
  have hcl:=Xd1 hg.fine
  have hgl:=hg.len
  have hwn:=hg.whole.wnodup
  have hwl:=hg.whole.wlen
  have hwk:=hg.whole.len
  rw[if_pos hc] at c1
  have e0:pOf g=Wnq g:=by unfold pOf;rw[if_pos hc]
  rw[e0,Xbv hc]
  have c3:=Yjt (gp:=gp) hg
  have c4:=Wh2 h.e (Xat g) hg.whole.s
  rw[Xld hg.whole,Xbv hg.whole.c] at c4
  simp only[Ysg] at c1
  unfold Wnq
  generalize Xat g=W at *
  generalize Xav W=w at *
  repeat' first|refine Kn rfl ?_|((first|refine Ka ?_|refine Kb ?_|refine Kv ?_|refine Ke ?_);simp only[Xd3,Xd4,Xd5,Xd6,Xd7,Xce,Xcf,Xcg,Xch,Xci,Xcj,Xck,Xcl,Xcm,Xb4,Xcn,Xco,Xcp,Xcq,Xcr,Xcs,Xct,go_sem])|refine Kf ?_|refine Kg ?_|refine⟨_,c1,Kg ?_⟩|refine⟨_,⟨c1,rfl⟩,Kg ?_⟩|refine⟨_,c3,Kg ?_⟩|refine⟨_,⟨c3,rfl⟩,Kg ?_⟩|refine⟨_,c4,Kg ?_⟩|refine⟨_,⟨c4,rfl⟩,Kg ?_⟩|apply Kp<;>intro _|((first|refine Kh ?_|refine Ki rfl ?_);simp only[Xd3,Xd4,Xd5,Xd6,Xd7,Xce,Xcf,Xcg,Xch,Xci,Xcj,Xck,Xcl,Xcm,Xb4,Xcn,Xco,Xcp,Xcq,Xcr,Xcs,Xct,or_self,Qs,Qt,Qu,Qv,Qw,Qx,Qy,Qz,Za,go_sem])
  have hPl:((Xaz g.l).map fun c=>if c∈w then (w.idxOf c:Int) else -1).length=(Xaz g.l).length:=by simp
  have hPa:∀ (i:Nat) (c:Int),(Xaz g.l)[i]?=some c->((Xaz g.l).map fun c=>if c∈w then (w.idxOf c:Int) else -1)[i]?=some (if c∈w then (w.idxOf c:Int) else -1):=fun i c h=>by rw[List.getElem?_map,h];rfl
  generalize ((Xaz g.l).map fun c=>if c∈w then (w.idxOf c:Int) else -1)=P at *
  refine Kt (fr 70 [(4,.one (.d (qD g))),(8,vi 0),(9,.one (.own 0 0)),(35,.one (.d (.sl (Xag w)))),(36,vi w.length),(37,vi ((0:Nat):Int))]) ?_
  rw[show Ch.map []=Ch.map (ent (w.take 0)) from rfl]
  refine Kt (fr 70 [(4,.one (.d (qD g))),(8,vi 0),(9,.one (.own 0 0)),(35,.one (.d (.sl (Xag w)))),(36,vi w.length),(37,vi (0:Nat))]) ?_
  refine Km (fun mz sz=>∃ i:Nat,i<=w.length/\mz=w.length - i/\(0<=i)/\sz=⟨fr 70 [(4,.one (.d (qD g))),(8,vi 0),(9,.one (.own 0 0)),(35,.one (.d (.sl (Xag w)))),(36,vi w.length),(37,vi i)],[.map (ent (w.take i))]⟩) (w.length) ⟨0,Nat.zero_le _,(Nat.sub_zero _).symm,?_,rfl⟩ ?_
  ·exact Nat.zero_le _
  rintro _ _ ⟨i,hi,rfl,-,rfl⟩
  simp only[go_sem]
  by_cases hil:i < w.length
  ·obtain⟨x,hx⟩:=Xai hil
   have e1:decide ((i:Int) < (w.length:Int))=true:=decide_eq_true (by omega)
   have hput:=Yfa (l:=w.take i) (x:=x) (fun hm=>Xxf hx hm hwn)
   rw[Xen hx,show (w.take i).length=i by simp;omega] at hput
   repeat' first|refine Kn rfl ?_|((first|refine Ka ?_|refine Kb ?_|refine Kv ?_|refine Ke ?_);simp only[Xd3,Xd4,Xd5,Xd6,Xd7,Xce,Xcf,Xcg,Xch,Xci,Xcj,Xck,Xcl,Xcm,Xb4,Xcn,Xco,Xcp,Xcq,Xcr,Xcs,Xct,e1,go_sem])|refine Kf ?_|refine Kg ?_|refine⟨_,⟨Kq _,Xd2 hx,rfl⟩,Kg ?_⟩|refine⟨_,hput,Kg ?_⟩|apply Kp<;>intro _|((first|refine Kh ?_|refine Ki rfl ?_);simp only[Xd3,Xd4,Xd5,Xd6,Xd7,Xce,Xcf,Xcg,Xch,Xci,Xcj,Xck,Xcl,Xcm,Xb4,Xcn,Xco,Xcp,Xcq,Xcr,Xcs,Xct,e1,or_self,Qs,Qt,Qu,Qv,Qw,Qx,Qy,Qz,Za,go_sem])
   refine⟨Xah hil (by unfold Xac;omega),?_⟩
   refine Kt (fr 70 [(4,.one (.d (qD g))),(8,vi 0),(9,.one (.own 0 0)),(35,.one (.d (.sl (Xag w)))),(36,vi w.length),(37,vi (i+1))]) ?_
   refine Kl ⟨w.length - (i+1),by omega,i+1,by omega,rfl,?_,rfl⟩
   exact Nat.zero_le _
  ·obtain rfl:i=w.length:=by omega
   have e1:decide ((w.length:Int) < (w.length:Int))=false:=decide_eq_false (by omega)
   rw[List.take_of_length_le (Nat.le_refl _)]
   repeat' first|refine Kn rfl ?_|((first|refine Ka ?_|refine Kb ?_|refine Kv ?_|refine Ke ?_);simp only[Xd3,Xd4,Xd5,Xd6,Xd7,Xce,Xcf,Xcg,Xch,Xci,Xcj,Xck,Xcl,Xcm,Xb4,Xcn,Xco,Xcp,Xcq,Xcr,Xcs,Xct,e1,go_sem])|refine Kf ?_|refine Kg ?_|apply Kp<;>intro _|((first|refine Kh ?_|refine Ki rfl ?_);simp only[Xd3,Xd4,Xd5,Xd6,Xd7,Xce,Xcf,Xcg,Xch,Xci,Xcj,Xck,Xcl,Xcm,Xb4,Xcn,Xco,Xcp,Xcq,Xcr,Xcs,Xct,e1,or_self,Qs,Qt,Qu,Qv,Qw,Qx,Qy,Qz,Za,go_sem])
   refine Xds 12 1 (by decide) rfl ?_
   simp only[go_sem]
   refine Kt (fr 70 [(8,vi 0),(9,.one (.own 0 0)),(12,.one (.own 1 (0:Nat))),(49,.one (.d (.sl (Xag (Xaz g.l))))),(50,vi (Xaz g.l).length),(51,vi (0:Nat))]) ?_
   refine Km (fun mz sz=>∃ i:Nat,i<=(Xaz g.l).length/\mz=(Xaz g.l).length - i/\(0<=i)/\sz=⟨fr 70 [(8,vi 0),(9,.one (.own 0 0)),(12,.one (.own 1 i)),(49,.one (.d (.sl (Xag (Xaz g.l))))),(50,vi (Xaz g.l).length),(51,vi i)],[.map (ent w),.row 1 i (Xag (P.take i))]⟩) ((Xaz g.l).length) ⟨0,Nat.zero_le _,(Nat.sub_zero _).symm,?_,rfl⟩ ?_
   ·exact Nat.zero_le _
   rintro _ _ ⟨i,hi,rfl,-,rfl⟩
   simp only[go_sem]
   by_cases hil:i < (Xaz g.l).length
   ·obtain⟨c,hx⟩:=Xai hil
    have e1:decide ((i:Int) < ((Xaz g.l).length:Int))=true:=decide_eq_true (by omega)
    have hPi:=hPa i c hx
    have hsn:=Xcv hPi
    have hf:=Xlb w c
    by_cases hm:c∈w
    ·rw[if_pos hm] at hsn hf
     repeat' first|refine Kn rfl ?_|((first|refine Ka ?_|refine Kb ?_|refine Kv ?_|refine Ke ?_);simp only[Xd3,Xd4,Xd5,Xd6,Xd7,Xce,Xcf,Xcg,Xch,Xci,Xcj,Xck,Xcl,Xcm,Xb4,Xcn,Xco,Xcp,Xcq,Xcr,Xcs,Xct,e1,go_sem])|refine Kf ?_|refine Kg ?_|refine⟨_,⟨Kq _,Xd2 hx,rfl⟩,Kg ?_⟩|refine⟨_,⟨hf,rfl⟩,Kg ?_⟩|apply Kp<;>intro _|((first|refine Kh ?_|refine Ki rfl ?_);simp only[Xd3,Xd4,Xd5,Xd6,Xd7,Xce,Xcf,Xcg,Xch,Xci,Xcj,Xck,Xcl,Xcm,Xb4,Xcn,Xco,Xcp,Xcq,Xcr,Xcs,Xct,e1,or_self,Qs,Qt,Qu,Qv,Qw,Qx,Qy,Qz,Za,go_sem])
     refine⟨by simp,by simp;omega,by simp[Xac];omega,?_⟩
     rw[hsn]
     repeat' first|refine Kn rfl ?_|((first|refine Ka ?_|refine Kb ?_|refine Kv ?_|refine Ke ?_);simp only[Xd3,Xd4,Xd5,Xd6,Xd7,Xce,Xcf,Xcg,Xch,Xci,Xcj,Xck,Xcl,Xcm,Xb4,Xcn,Xco,Xcp,Xcq,Xcr,Xcs,Xct,go_sem])|refine Kf ?_|refine Kg ?_|apply Kp<;>intro _|((first|refine Kh ?_|refine Ki rfl ?_);simp only[Xd3,Xd4,Xd5,Xd6,Xd7,Xce,Xcf,Xcg,Xch,Xci,Xcj,Xck,Xcl,Xcm,Xb4,Xcn,Xco,Xcp,Xcq,Xcr,Xcs,Xct,or_self,Qs,Qt,Qu,Qv,Qw,Qx,Qy,Qz,Za,go_sem])
     refine⟨Xah hil (by unfold Xac;omega),?_⟩
     refine Kt (fr 70 [(8,vi 0),(9,.one (.own 0 0)),(12,.one (.own 1 (i+1))),(49,.one (.d (.sl (Xag (Xaz g.l))))),(50,vi (Xaz g.l).length),(51,vi (i+1))]) ?_
     refine Kk 2 (by simp only[List.length_nil,List.length_cons];decide) (by simp only[go_sem]) (by simp only[List.take_succ_cons,List.take_zero,List.all_cons,List.all_nil,Xd0];try simp only[go_sem]) ?_
     simp only[go_sem]
     refine Kl ⟨(Xaz g.l).length - (i+1),by omega,i+1,by omega,rfl,?_,rfl⟩
     exact Nat.zero_le _
    ·rw[if_neg hm] at hsn hf
     repeat' first|refine Kn rfl ?_|((first|refine Ka ?_|refine Kb ?_|refine Kv ?_|refine Ke ?_);simp only[Xd3,Xd4,Xd5,Xd6,Xd7,Xce,Xcf,Xcg,Xch,Xci,Xcj,Xck,Xcl,Xcm,Xb4,Xcn,Xco,Xcp,Xcq,Xcr,Xcs,Xct,e1,go_sem])|refine Kf ?_|refine Kg ?_|refine⟨_,⟨Kq _,Xd2 hx,rfl⟩,Kg ?_⟩|refine⟨_,⟨hf,rfl⟩,Kg ?_⟩|apply Kp<;>intro _|((first|refine Kh ?_|refine Ki rfl ?_);simp only[Xd3,Xd4,Xd5,Xd6,Xd7,Xce,Xcf,Xcg,Xch,Xci,Xcj,Xck,Xcl,Xcm,Xb4,Xcn,Xco,Xcp,Xcq,Xcr,Xcs,Xct,e1,or_self,Qs,Qt,Qu,Qv,Qw,Qx,Qy,Qz,Za,go_sem])
     refine⟨by simp,by simp;omega,by simp[Xac];omega,?_⟩
     rw[hsn]
     repeat' first|refine Kn rfl ?_|((first|refine Ka ?_|refine Kb ?_|refine Kv ?_|refine Ke ?_);simp only[Xd3,Xd4,Xd5,Xd6,Xd7,Xce,Xcf,Xcg,Xch,Xci,Xcj,Xck,Xcl,Xcm,Xb4,Xcn,Xco,Xcp,Xcq,Xcr,Xcs,Xct,go_sem])|refine Kf ?_|refine Kg ?_|apply Kp<;>intro _|((first|refine Kh ?_|refine Ki rfl ?_);simp only[Xd3,Xd4,Xd5,Xd6,Xd7,Xce,Xcf,Xcg,Xch,Xci,Xcj,Xck,Xcl,Xcm,Xb4,Xcn,Xco,Xcp,Xcq,Xcr,Xcs,Xct,or_self,Qs,Qt,Qu,Qv,Qw,Qx,Qy,Qz,Za,go_sem])
     refine⟨Xah hil (by unfold Xac;omega),?_⟩
     refine Kt (fr 70 [(8,vi 0),(9,.one (.own 0 0)),(12,.one (.own 1 (i+1))),(49,.one (.d (.sl (Xag (Xaz g.l))))),(50,vi (Xaz g.l).length),(51,vi (i+1))]) ?_
     refine Kk 2 (by simp only[List.length_nil,List.length_cons];decide) (by simp only[go_sem]) (by simp only[List.take_succ_cons,List.take_zero,List.all_cons,List.all_nil,Xd0];try simp only[go_sem]) ?_
     simp only[go_sem]
     refine Kl ⟨(Xaz g.l).length - (i+1),by omega,i+1,by omega,rfl,?_,rfl⟩
     exact Nat.zero_le _
   ·repeat refine Ko rfl ?_
    refine Ka ?_
    simp only[Xb4,go_sem]
    repeat refine Ko rfl ?_
    refine Ke ?_
    simp only[go_sem]
    refine⟨fun h=>by exfalso;omega,fun _=>Xc1 rfl ?_⟩
    obtain rfl:i=(Xaz g.l).length:=by omega
    rw[List.take_of_length_le (by omega)]
    refine Xar 1 ?_
    simp only[Ysu,Xao,List.map_cons,List.map_nil,Xlc]
    simp only[go_sem]
    repeat' first|refine Kn rfl ?_|((first|refine Ka ?_|refine Kb ?_|refine Kv ?_|refine Ke ?_);simp only[Xd3,Xd4,Xd5,Xd6,Xd7,Xce,Xcf,Xcg,Xch,Xci,Xcj,Xck,Xcl,Xcm,Xb4,Xcn,Xco,Xcp,Xcq,Xcr,Xcs,Xct,go_sem])|refine Kf ?_|refine Kg ?_|apply Kp<;>intro _|((first|refine Kh ?_|refine Ki rfl ?_);simp only[Xd3,Xd4,Xd5,Xd6,Xd7,Xce,Xcf,Xcg,Xch,Xci,Xcj,Xck,Xcl,Xcm,Xb4,Xcn,Xco,Xcp,Xcq,Xcr,Xcs,Xct,or_self,Qs,Qt,Qu,Qv,Qw,Qx,Qy,Qz,Za,go_sem])
    all_goals trace_state
 ·rw[if_neg hc] at c1
  have e0:pOf g=[]:=by unfold pOf;rw[if_neg hc]
  rw[e0]
  have c3:=W3q (gp:=gp) h.e.e (some (Xfw g))
  generalize Xfw g=e at *
  simp only[Ysg,Option.getD_some] at c1 c3
  repeat' first|refine Kn rfl ?_|((first|refine Ka ?_|refine Kb ?_|refine Kv ?_|refine Ke ?_);simp only[Xd3,Xd4,Xd5,Xd6,Xd7,Xce,Xcf,Xcg,Xch,Xci,Xcj,Xck,Xcl,Xcm,Xb4,Xcn,Xco,Xcp,Xcq,Xcr,Xcs,Xct,go_sem])|refine Kf ?_|refine Kg ?_|refine⟨_,c1,Kg ?_⟩|refine⟨_,⟨c1,rfl⟩,Kg ?_⟩|refine⟨_,c3,Kg ?_⟩|refine⟨_,⟨c3,rfl⟩,Kg ?_⟩|apply Kp<;>intro _|((first|refine Kh ?_|refine Ki rfl ?_);simp only[Xd3,Xd4,Xd5,Xd6,Xd7,Xce,Xcf,Xcg,Xch,Xci,Xcj,Xck,Xcl,Xcm,Xb4,Xcn,Xco,Xcp,Xcq,Xcr,Xcs,Xct,or_self,Qs,Qt,Qu,Qv,Qw,Qx,Qy,Qz,Za,go_sem])
  all_goals trace_state
end Go.Fw.L07
