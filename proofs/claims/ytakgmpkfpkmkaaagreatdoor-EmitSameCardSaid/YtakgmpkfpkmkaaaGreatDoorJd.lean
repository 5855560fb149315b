/- Chapter 11: errors.As at quotients' errors (M.t,turned). -/
import Derived.Test.YtakgmpkfpkmkaaaGreatDoorLc
import Derived.Test.YtakgmpkfpkmkaaaGreatDoorL07L11Mini
import Derived.Test.YtakgmpkfpkmkaaaGreatDoorJc
import Derived.Test.YtakgmpkfpkmkaaaGreatDoorJa
import Derived.Test.YtakgmpkfpkmkaaaGreatDoorEa
set_option linter.all false
namespace Go.Fw.L07
open Go Go.Proofs Go.RowKit Go.Extern.Stop Go.Stop Go.Extern
theorem Xuq (t:Addr) (w:World):(ReflectliteValue.unpack (.iface 112 (.pointer (some t)))).run Tryz.prog w
  = .ok (.agg #[.pointer (some ⟨7,112,none⟩),.pointer (some ⟨w.heap.size,0,none⟩),.int .u64 150]) (w.alloc (.cells #[.pointer (some t)] 112)):=by kernel_rfl
theorem Yqh (a : Addr) (w : World) : (ReflectliteValue.methodAny (ReflectliteValue.valueError "reflectlite.Value.Type" 0) (fun t _ _ _ => ReflectliteType.toType t) #[.agg #[.pointer (some ⟨7, 112, none⟩), .pointer (some a), .int .u64 150]]).run Tryz.prog w
  = .ok (.iface 208 (.agg #[.pointer (some ⟨7,112,none⟩)])) w:=by kernel_rfl
theorem Yqi (w:World):((ReflectliteType.abiMethod fun t=>(fun a:Nat=>Value.int IntKind.u8 (a:Int)) <$> Rtype.kind t) #[.pointer (some ⟨7,112,none⟩)]).run Tryz.prog w=.ok (.int .u8 22) w:=by kernel_rfl
theorem Yqj (w:World):((ReflectliteType.abiMethod fun t=>(fun a:Nat=>Value.int IntKind.u8 (a:Int)) <$> Rtype.kind t) #[.pointer (some ⟨7,108,none⟩)]).run Tryz.prog w=.ok (.int .u8 25) w:=by kernel_rfl
theorem Xsu (a:Addr) (w:World):(ReflectliteValue.parts (.agg #[.pointer (some ⟨7,112,none⟩),.pointer (some a),.int .u64 150])).run Tryz.prog w=.ok (some (112,a,150)) w:=by kernel_rfl
theorem Yij:Tryz.prog.underlying 112=some (.pointer 108):=by kernel_rfl
theorem Yqk (a p:Addr) (W:World) (ha:W.cell? a=some (.pointer (some p))) :
  (ReflectliteValue.method (ReflectliteValue.valueError "reflectlite.Value.IsNil" 0) ReflectliteValue.isNil #[.agg #[.pointer (some ⟨7, 112, none⟩), .pointer (some a), .int .u64 150]]).run Tryz.prog W = .ok (.bool false) W := by
 rw[Ym3]
 simp only[Sem.run_bind,Xsu,Result.andThen]
 simp[ReflectliteValue.isNil,loadVar,isAgg,underlying,Yij,ha,Result.andThen]
theorem Yql (w:World):(ReflectliteType.method ReflectliteType.elem #[.agg #[.pointer (some ⟨7,112,none⟩)]]).run Tryz.prog w=.ok (.iface 208 (.agg #[.pointer (some ⟨7,108,none⟩)])) w:=by kernel_rfl
theorem Yqm (w : World) : (ReflectliteType.relation "Implements" ReflectliteType.implements_ #[.agg #[.pointer (some ⟨7, 108, none⟩)], .iface 208 (.agg #[.pointer (some ⟨7, 58, none⟩)])]).run Tryz.prog w = .ok (.bool true) w := by kernel_rfl
theorem X17 (v:Value) (w:World):(ReflectliteType.typeOf #[.iface 108 v]).run Tryz.prog w=.ok (.iface 208 (.agg #[.pointer (some ⟨7,108,none⟩)])) w:=by kernel_rfl
theorem X18 (w : World) : (ReflectliteType.relation "AssignableTo" ReflectliteType.assignableTo #[.agg #[.pointer (some ⟨7, 108, none⟩)], .iface 208 (.agg #[.pointer (some ⟨7, 108, none⟩)])]).run Tryz.prog w = .ok (.bool true) w := by kernel_rfl
theorem Xur (x:Value) (w:World):(ReflectliteValue.unpack (.iface 108 (.agg #[x]))).run Tryz.prog w
  = .ok (.agg #[.pointer (some ⟨7,108,none⟩),.pointer (some ⟨w.heap.size,0,none⟩),.int .u64 153]) (w.alloc (.cells #[x] 108)):=by kernel_rfl
theorem Yik (w:World):(Rtype.elem? 112).run Tryz.prog w=.ok (some 108) w:=by kernel_rfl
theorem Wzn (p:Addr) (w:World):(ReflectliteValue.mk 108 p ReflectliteValue.flagAddr).run Tryz.prog w=.ok (.agg #[.pointer (some ⟨7,108,none⟩),.pointer (some p),.int .u64 409]) w:=by kernel_rfl
theorem Yqn (a p:Addr) (W:World) (ha:W.cell? a=some (.pointer (some p))) :
  (ReflectliteValue.method (ReflectliteValue.valueError "reflectlite.Value.Elem" 0) ReflectliteValue.elem #[.agg #[.pointer (some ⟨7, 112, none⟩), .pointer (some a), .int .u64 150]]).run Tryz.prog W
   = .ok (.agg #[.pointer (some ⟨7,108,none⟩),.pointer (some p),.int .u64 409]) W:=by
 rw[Ym3]
 simp only[Sem.run_bind,Xsu,Result.andThen]
 simp[ReflectliteValue.elem,loadVar,isAgg,underlying,Yij,ha,Result.andThen,Yik,Wzn]
theorem X19 (a:Addr) (w:World):(ReflectliteValue.parts (.agg #[.pointer (some ⟨7,108,none⟩),.pointer (some a),.int .u64 409])).run Tryz.prog w=.ok (some (108,a,409)) w:=by kernel_rfl
theorem Yil (a:Addr) (w:World):(ReflectliteValue.parts (.agg #[.pointer (some ⟨7,108,none⟩),.pointer (some a),.int .u64 153])).run Tryz.prog w=.ok (some (108,a,153)) w:=by kernel_rfl
theorem Yim (w:World):(Rtype.directlyAssignable 108 108).run Tryz.prog w=.ok true w:=by kernel_rfl
theorem Wvw:Fw.szOf Tryz.prog 108=some 1:=by kernel_rfl
theorem Yzf:Fw.isAggB Tryz.prog 108=true:=by kernel_rfl
theorem Wvx (tb b:Nat) (x p:Value) (T:TypeId) (W:World) (hx:x.oneCell'=true) (hb:W.cell? ⟨b,0,none⟩=some x) (ht:W.heap[tb]?=some (.cells #[p] T (0,0))) :
  ∃ W',(ReflectliteValue.set #[.agg #[.pointer (some ⟨7,108,none⟩),.pointer (some ⟨tb,0,none⟩),.int .u64 409],.agg #[.pointer (some ⟨7,108,none⟩),.pointer (some ⟨b,0,none⟩),.int .u64 153]]).run Tryz.prog W=.ok (.tuple #[]) W' /\
   Fw.WKeep W W' (fun z=>z=tb)/\W'.heap[tb]?=some (.cells #[x] T (0,0)):=by
 have hl:=Fw.run_loadVar' (P:=Tryz.prog) (w:=W) Wvw (.inl Yzf) b 0 [x] rfl (fun j v hv=>by
  match j,hv with
  | 0,hv=>simp at hv;subst hv;exact hb
  | j+1,hv=>simp at hv)
 rw[if_pos Yzf] at hl
 obtain⟨W',hs,hk,hh⟩:=Fw.run_storeVar' (P:=Tryz.prog) (w:=W) Wvw tb 0 (.agg #[x]) [x] [p] T rfl rfl (by simp[hx]) ht (by simp)
 refine⟨W',?_,hk,by simpa using hh⟩
 rw[Wo4]
 simp only[Sem.run_bind,X19,Yil,Result.andThen]
 simp[ReflectliteValue.flagAddr,hl,Yim,Result.andThen,hs]
set_option maxHeartbeats 4000000 in
set_option maxRecDepth 1000000 in
theorem Wg4 (tb:Nat) (x p:Value) (T:TypeId) (w:World) (hx:x.oneCell'=true) (hg:w.cell? ⟨0,0,none⟩=some (.iface 208 (.agg #[.pointer (some ⟨7,58,none⟩)])))
  (ht0:w.heap[tb]?=some (.cells #[p] T (0,0))) :
  Calls Tryz.prog 68 #[.iface 108 (.agg #[x]),.iface 112 (.pointer (some ⟨tb,0,none⟩))] w fun ev w'=>ev=.returned (.bool true)/\Fw.WKeep w w' (fun z=>z=tb)/\w'.heap[tb]?=some (.cells #[x] T (0,0)):=by
 have h6:=@run_callFunc_extern Tryz.prog 103 _ (fun args=>ReflectliteValue.unpack (args.getD 0 (.tuple #[]))) Tryz.func103 (by kernel_rfl) (by kernel_rfl) (by kernel_rfl) (by kernel_rfl)
 have h7 := @run_callFunc_extern Tryz.prog 104 _ (ReflectliteValue.methodAny (ReflectliteValue.valueError "reflectlite.Value.Type" 0) (fun t _ _ _ => ReflectliteType.toType t)) Tryz.func104 (by kernel_rfl) (by kernel_rfl) (by kernel_rfl) (by kernel_rfl)
 have h8 := @run_callFunc_extern Tryz.prog 105 _ (ReflectliteValue.method (ReflectliteValue.valueError "reflectlite.Value.IsNil" 0) ReflectliteValue.isNil) Tryz.func105 (by kernel_rfl) (by kernel_rfl) (by kernel_rfl) (by kernel_rfl)
 have h27:=@run_callFunc_extern Tryz.prog 223 _ (ReflectliteType.abiMethod fun t=>do pure (.int .u8 (<- Rtype.kind t))) Tryz.func223 (by kernel_rfl) (by kernel_rfl) (by kernel_rfl) (by kernel_rfl)
 have h37:=@run_callFunc_extern Tryz.prog 237 _ (ReflectliteType.method ReflectliteType.elem) Tryz.func237 (by kernel_rfl) (by kernel_rfl) (by kernel_rfl) (by kernel_rfl)
 have h38 := @run_callFunc_extern Tryz.prog 238 _ (ReflectliteType.relation "Implements" ReflectliteType.implements_) Tryz.func238 (by kernel_rfl) (by kernel_rfl) (by kernel_rfl) (by kernel_rfl)
 have h10:=@run_callFunc_extern Tryz.prog 138 _ ReflectliteType.typeOf Tryz.func138 (by kernel_rfl) (by kernel_rfl) (by kernel_rfl) (by kernel_rfl)
 have h35 := @run_callFunc_extern Tryz.prog 235 _ (ReflectliteType.relation "AssignableTo" ReflectliteType.assignableTo) Tryz.func235 (by kernel_rfl) (by kernel_rfl) (by kernel_rfl) (by kernel_rfl)
 have h11 := @run_callFunc_extern Tryz.prog 139 _ (ReflectliteValue.method (ReflectliteValue.valueError "reflectlite.Value.Elem" 0) ReflectliteValue.elem) Tryz.func139 (by kernel_rfl) (by kernel_rfl) (by kernel_rfl) (by kernel_rfl)
 have h12:=@run_callFunc_extern Tryz.prog 140 _ ReflectliteValue.set Tryz.func140 (by kernel_rfl) (by kernel_rfl) (by kernel_rfl) (by kernel_rfl)
 have tO:=X17
 have mA:=Xrn
 have a25:=X18
 have v25:=Xur
 have f6:=Xuq
 have f7:=Yqh
 have mK:=Ybg
 have mE:=Ybh
 have mI:=Ybi
 have k27:=Yqi
 have k25:=Yqj
 have e27:=Yql
 have i25:=Yqm
 have n8:=Yqk ⟨w.heap.size,0,none⟩ ⟨tb,0,none⟩ ((w.alloc (.cells #[.pointer (some ⟨tb,0,none⟩)] 112)).alloc (.cells #[.pointer (some ⟨7,112,none⟩),.pointer (some ⟨w.heap.size,0,none⟩),.int .u64 150] 165)) (by simp)
 have hlt:0 < w.heap.size:=by
  rcases Nat.lt_or_ge 0 w.heap.size with h|h
  ·exact h
  ·simp[World.cell?,Array.getElem?_eq_none h] at hg
 have hg2:((w.alloc (.cells #[.pointer (some ⟨tb,0,none⟩)] 112)).alloc (.cells #[.pointer (some ⟨7,112,none⟩),.pointer (some ⟨w.heap.size,0,none⟩),.int .u64 150] 165)).cell? ⟨0,0,none⟩=some (.iface 208 (.agg #[.pointer (some ⟨7,58,none⟩)])):=by
  rw[World.cell?_alloc_lt _ _ ⟨0,0,none⟩ (by first|(simp;omega)|simp),World.cell?_alloc_lt _ _ ⟨0,0,none⟩ hlt];exact hg
 have htl:tb < w.heap.size:=(Array.getElem?_eq_some_iff.1 ht0).1
 have el:=Yqn ⟨w.heap.size,0,none⟩ ⟨tb,0,none⟩ (((w.alloc (.cells #[.pointer (some ⟨tb,0,none⟩)] 112)).alloc (.cells #[.pointer (some ⟨7,112,none⟩),.pointer (some ⟨w.heap.size,0,none⟩),.int .u64 150] 165)).alloc (.cells #[.pointer (some ⟨7,112,none⟩),.pointer (some ⟨w.heap.size,0,none⟩),.int .u64 150] 165)) (by rw[World.cell?_alloc_lt _ _ ⟨w.heap.size,0,none⟩ (by simp;omega)];simp)
 obtain⟨W',st,hk,hh⟩:=Wvx tb (w.heap.size+1+1+1) x p T ((((w.alloc (.cells #[.pointer (some ⟨tb,0,none⟩)] 112)).alloc (.cells #[.pointer (some ⟨7,112,none⟩),.pointer (some ⟨w.heap.size,0,none⟩),.int .u64 150] 165)).alloc (.cells #[.pointer (some ⟨7,112,none⟩),.pointer (some ⟨w.heap.size,0,none⟩),.int .u64 150] 165)).alloc (.cells #[x] 108)) hx
  (by rw[World.cell?_alloc_at _ _ _ _ (by simp)];try rfl)
  (by rw[Xbi _ _ (by simp;omega),Xbi _ _ (by simp;omega),Xbi _ _ (by simp;omega),Xbi _ _ htl];exact ht0)
 go_enter Tryz.func68,Xt2
 go_wp2
 refine wp_loop_rounds 1 ?_
 rw[rounds_succ]
 go_wp2
 go_ret
 refine⟨rfl,?_,hh⟩
 exact⟨hk.os,hk.tape,hk.output,by have:=hk.size;simp at this;omega,fun b hb hn=>by
  rw[hk.block b (by simp;omega) hn]
  rw[Xbi _ _ (by simp;omega),Xbi _ _ (by simp;omega),Xbi _ _ (by simp;omega),Xbi _ _ hb]⟩
open Go.Fw
def Wg5:Option Int->D
 | none=>.nilI
 | some e=>.ifc 108 true [.int .i64 e]
theorem Wvy {gp:Heap} (hE:Ym7 gp) (e:Option Int):Tri Go.Proofs.Tryz.prog gp 68 [.one (.d (Wg5 e)),.one (.ifo 112 (.ptr 0 0))] [.cells [.d (.int .i64 0)]] fun r post=>r=vb e.isSome/\post=[.cells [.d (.int .i64 (e.getD 0))]]:=by
 intro H w an F us hgp hmod hanc hown hF hdj hargs
 obtain⟨u1,u2,rfl,h1,h2⟩:∃ u1 u2,us=[u1,u2]/\Den H (Wg5 e) u1/\Xb8 H an (.ifo 112 (.ptr 0 0)) u2:=by
  match us,hargs with
  | [u1,u2],h=>exact⟨u1,u2,rfl,h.1,h.2.1⟩
 obtain⟨pv,rfl,b,rfl,p,hp,hpb⟩:=h2
 obtain⟨q,hq,h0,b',T,vs,hqv,hFb,hheap,hden⟩:=hown 0 _ rfl
 rw[hp] at hq;cases hq
 have hbb:b=b':=hpb b' hqv
 subst hbb
 obtain⟨x0,rfl,hx0⟩:∃ x,vs=[x]/\Den H (.int .i64 0) x:=by
  match vs,hden with
  | [x],h=>exact⟨x,rfl,h.1⟩
 cases e with
 | none =>
  cases h1
  intro cs
  obtain⟨e,w',fr,⟨rfl,rfl⟩,g2,g3,g4⟩:=Yu5 (.iface 112 (.pointer (some ⟨b,0,none⟩))) w cs
  refine⟨_,w',fr,⟨_,_,_,H,an,F,rfl,⟨rfl,rfl⟩,WKeep.refl _ _,Heap.Le.refl _,hmod,fun b o hb=>.inl hb,Anc.Le.refl _,hanc,hown,fun i b hb=>?_,hdj,Den.bool _⟩,g2,g3,g4⟩
  obtain⟨k1,k2,k3⟩:=hF i b hb
  exact⟨k1,k2,k3,.inr ⟨i,hb⟩⟩
 | some e =>
  obtain⟨x,rfl,hx⟩:∃ x,u1=.iface 108 (.agg #[x])/\Den H (.int .i64 e) x:=by
   cases h1 with
   | ifcA t cs vs hlen hd =>
    match vs,hlen,hd with
    | [x],_,hd=>exact⟨x,rfl,hd 0 _ _ rfl rfl⟩
  intro cs
  obtain⟨e',w',fr,⟨rfl,hk,hh⟩,g2,g3,g4⟩:=Wg4 b x x0 T w hx.oneCell (hE H w hgp hmod) hheap cs
  have hFall:∀ i z,F i z->z=b:=fun i z hz=>by
   have hi:=(hF i z hz).1
   have:i=0:=by simp at hi;exact hi
   subst this
   exact (hFb z).1 hz
  refine⟨_,w',fr,⟨_,_,_,H,an,F,rfl,⟨rfl,rfl⟩,hk.mono fun z hz=>⟨0,(hFb z).2 hz⟩,Heap.Le.refl _,fun z o hz=>?_,fun b o hb=>.inl hb,Anc.Le.refl _,hanc,fun i c hc=>?_,fun i z hz=>?_,hdj,Den.bool _⟩,g2,g3,g4⟩
  ·have h3:=hmod z o hz
   refine (hk.block z (Array.getElem?_eq_some_iff.1 h3).1 fun e=>?_).trans h3
   subst e
   have:=(hF 0 z ((hFb z).2 rfl)).2.2
   rw[this] at hz;cases hz
  ·match i,hc with
   | 0,hc =>
    cases hc
    exact⟨p,hp,h0,b,T,[x],hqv,hFb,hh,hx,trivial⟩
  ·obtain⟨k1,k2,k3⟩:=hF i z hz
   exact⟨k1,Nat.lt_of_lt_of_le k2 hk.size,k3,.inr ⟨i,hz⟩⟩
end Go.Fw.L07
namespace Go.Fw.L07
open Go Go.Fw
open Go.Fw.Sh renaming intro->Kg
open Go.Fw renaming Xkl->Ka,Xfi->Kb,Xko->Kv,Xfj->Ke,Xfl->Kf,Xkn->Kh,Xkm->Ki,Xdx->Kt,Xkg->Kk,Xf0->Ku,Xdw->Kl,Xfz->Km,Gx->Kn,Gw->Ko
open Int renaming natCast_nonneg->Kq
open And renaming intro->Kp
open Go.Proofs.Tryz renaming prog->QP
open Go.Fw.V.one renaming injEq->Qs
open Go.Fw.V.agg renaming injEq->Qt
open Go.Fw.V.tup renaming injEq->Qu
open Go.Fw.A.d renaming injEq->Qv
open Go.Fw.D.bool renaming injEq->Qw
open Go.Fw.D.int renaming injEq->Qx
open Go.Fw.D.str renaming injEq->Qy
open Go.Fw.D.sl renaming injEq->Qz
open List.cons renaming injEq->Za
set_option maxRecDepth 4000
variable {gp:Heap}
theorem Wzo (hE:Ym7 gp) (e:Option Int):Does QP gp 41 [.one (.d (Wg5 e))] (vi (e.getD 0)):=by
 refine Wu9 ?_
 simp only[go_sem]
 repeat' first|refine Kn rfl ?_|((first|refine Ka ?_|refine Kb ?_|refine Kv ?_|refine Ke ?_);simp only[go_sem])|refine Kf ?_|refine Kg ?_|apply Kp<;>intro _|((first|refine Kh ?_|refine Ki rfl ?_);simp only[or_self,Qs,Qt,Qu,Qv,Qw,Qx,Qy,Qz,Za,go_sem])
 refine Or.inr ⟨[0],vb e.isSome,[.cells [.d (.int .i64 (e.getD 0))]],(by simp only[Xaw,go_sem];exact⟨by kernel_rfl,Wvy hE e⟩),Kg ?_⟩
 simp only[go_sem]
 repeat' first|refine Kn rfl ?_|((first|refine Ka ?_|refine Kb ?_|refine Kv ?_|refine Ke ?_);simp only[go_sem])|refine Kf ?_|refine Kg ?_|apply Kp<;>intro _|((first|refine Kh ?_|refine Ki rfl ?_);simp only[or_self,Qs,Qt,Qu,Qv,Qw,Qx,Qy,Qz,Za,go_sem])
 rename_i h
 cases e with
 | none=>rfl
 | some e=>simp at h
abbrev qD (g:Gr):D:=.bx [.int .i64 g.root,.sl (nds g.l),.sl (Xaf (Xcb g.l))]
theorem qof (h:Env10 gp) (g:Gr) (hs:Xc4 g) (hst:∀ x∈g.l,x.short):Does QP gp 40 [g.v] (if chk g=none then .tup [.one (.d (qD g)),.one (.d (Wg5 none))] else .tup [.one (.d .nilP),.one (.d (Wg5 (some (Xnf g))))]):=by
 refine Wu2 ?_
 simp only[go_sem]
 have c1:=Yhy h g hs hst
 by_cases hc:chk g=none
 ·have hg:Good g:=⟨hc,hs⟩
  rw[Xz4 hg,Xhi hc] at c1
  rw[if_pos hc]
  repeat' first|refine Kn rfl ?_|((first|refine Ka ?_|refine Kb ?_|refine Kv ?_|refine Ke ?_);simp only[go_sem])|refine Kf ?_|refine Kg ?_|refine⟨_,c1,Kg ?_⟩|refine⟨_,⟨c1,rfl⟩,Kg ?_⟩|apply Kp<;>intro _|((first|refine Kh ?_|refine Ki rfl ?_);simp only[or_self,Qs,Qt,Qu,Qv,Qw,Qx,Qy,Qz,Za,go_sem])
  all_goals rfl
 ·have he:=Xio hc
  rw[if_neg hc]
  generalize Xnf g=e at *
  generalize cOf g=l at *
  have e1:(e != 0)=true:=by simpa using he
  repeat' first|refine Kn rfl ?_|((first|refine Ka ?_|refine Kb ?_|refine Kv ?_|refine Ke ?_);simp only[e1,go_sem])|refine Kf ?_|refine Kg ?_|refine⟨_,c1,Kg ?_⟩|refine⟨_,⟨c1,rfl⟩,Kg ?_⟩|apply Kp<;>intro _|((first|refine Kh ?_|refine Ki rfl ?_);simp only[e1,or_self,Qs,Qt,Qu,Qv,Qw,Qx,Qy,Qz,Za,go_sem])
  all_goals rfl
theorem Yqo (g:Gr) (c l:List Int) (hl:l.length<=1000) (hc:∀ j∈l,0<=j/\∃ x,c[j.toNat]?=some x/\okI x):Does QP gp 70 [pD g c,.one (.d (.sl (Xaf l)))] (.one (.d (.sl (Xaf (l.map (Xdi c)))))):=by
 refine Wvu ?_
 simp only[go_sem]
 repeat' first|refine Kn rfl ?_|((first|refine Ka ?_|refine Kb ?_|refine Kv ?_|refine Ke ?_);simp only[Xi0,Xi1,Xi2,Xg8,Xi3,Xi4,Xfc,Xfd,go_sem])|refine Kf ?_|refine Kg ?_|apply Kp<;>intro _|((first|refine Kh ?_|refine Ki rfl ?_);simp only[Xi0,Xi1,Xi2,Xg8,Xi3,Xi4,Xfc,Xfd,or_self,Qs,Qt,Qu,Qv,Qw,Qx,Qy,Qz,Za,go_sem])
 refine Xh9 5 1 (by decide) rfl ?_
 simp only[go_sem]
 refine Kt (fr 26 [(0,pD g c),(5,.one (.own 0 (0:Nat))),(8,.one (.d (.sl (Xaf l)))),(9,vi l.length),(10,vi (0:Nat))]) ?_
 refine Km (fun mz sz=>∃ i:Nat,i<=l.length/\mz=l.length - i/\(0<=i)/\sz=⟨fr 26 [(0,pD g c),(5,.one (.own 0 i)),(8,.one (.d (.sl (Xaf l)))),(9,vi l.length),(10,vi i)],[.row 1 i (Xaf ((l.map (Xdi c)).take i))]⟩) (l.length) ⟨0,Nat.zero_le _,(Nat.sub_zero _).symm,?_,rfl⟩ ?_
 ·exact Nat.zero_le _
 rintro _ _ ⟨i,hi,rfl,-,rfl⟩
 simp only[go_sem]
 by_cases hil:i < l.length
 ·obtain⟨j,hj⟩:=Xal hil
  obtain⟨hj0,y,hy,_⟩:=hc j (List.mem_of_getElem? hj)
  have e1:decide ((i:Int) < (l.length:Int))=true:=decide_eq_true (by omega)
  have hcy:Xdi c j=y:=by unfold Xdi;rw[hy];rfl
  have hsn:Xaf ((l.map (Xdi c)).take i)++[[.int .i64 y]]=Xaf ((l.map (Xdi c)).take (i+1)):=Xes (by rw[List.getElem?_map,hj,<- hcy];rfl)
  repeat' first|refine Kn rfl ?_|((first|refine Ka ?_|refine Kb ?_|refine Kv ?_|refine Ke ?_);simp only[Xi0,Xi1,Xi2,Xg8,Xi3,Xi4,Xfc,Xfd,e1,go_sem])|refine Kf ?_|refine Kg ?_|refine⟨_,⟨Kq _,Xef hj,rfl⟩,Kg ?_⟩|refine⟨_,⟨hj0,Xef hy,rfl⟩,Kg ?_⟩|apply Kp<;>intro _|((first|refine Kh ?_|refine Ki rfl ?_);simp only[Xi0,Xi1,Xi2,Xg8,Xi3,Xi4,Xfc,Xfd,e1,or_self,Qs,Qt,Qu,Qv,Qw,Qx,Qy,Qz,Za,go_sem])
  refine⟨by simp,by simp;omega,by simp[lenMax];omega,?_⟩
  rw[hsn]
  repeat' first|refine Kn rfl ?_|((first|refine Ka ?_|refine Kb ?_|refine Kv ?_|refine Ke ?_);simp only[Xi0,Xi1,Xi2,Xg8,Xi3,Xi4,Xfc,Xfd,go_sem])|refine Kf ?_|refine Kg ?_|apply Kp<;>intro _|((first|refine Kh ?_|refine Ki rfl ?_);simp only[Xi0,Xi1,Xi2,Xg8,Xi3,Xi4,Xfc,Xfd,or_self,Qs,Qt,Qu,Qv,Qw,Qx,Qy,Qz,Za,go_sem])
  refine⟨Xaq hil (by unfold lenMax;omega),?_⟩
  refine Kt (fr 26 [(0,pD g c),(5,.one (.own 0 (i+1))),(8,.one (.d (.sl (Xaf l)))),(9,vi l.length),(10,vi (i+1))]) ?_
  refine Ku 1 ?_
  simp only[go_sem]
  refine Kl ⟨l.length - (i+1),by omega,i+1,by omega,rfl,?_,rfl⟩
  exact Nat.zero_le _
 ·repeat refine Ko rfl ?_
  refine Ka ?_
  simp only[Xg8,go_sem]
  repeat refine Ko rfl ?_
  refine Ke ?_
  simp only[go_sem]
  refine⟨fun h=>by exfalso;omega,fun _=>Xg4 rfl ?_⟩
  obtain rfl:i=l.length:=by omega
  rw[List.take_of_length_le (by simp)]
  refine Xa6 0 ?_
  simp only[go_sem]
  repeat' first|refine Kn rfl ?_|((first|refine Ka ?_|refine Kb ?_|refine Kv ?_|refine Ke ?_);simp only[Xi0,Xi1,Xi2,Xg8,Xi3,Xi4,Xfc,Xfd,go_sem])|refine Kf ?_|refine Kg ?_|apply Kp<;>intro _|((first|refine Kh ?_|refine Ki rfl ?_);simp only[Xi0,Xi1,Xi2,Xg8,Xi3,Xi4,Xfc,Xfd,or_self,Qs,Qt,Qu,Qv,Qw,Qx,Qy,Qz,Za,go_sem])
theorem Xus:∀ (l:List Int) (k:Nat),k<=Xhl l k
 | [],k=>Nat.le_refl _
 | c::r,k=>by
  have:=Xus r (if c < k then k else k+1)
  simp only[Xhl]
  split at this
  ·rename_i h;rw[if_pos h];omega
  ·rename_i h;rw[if_neg h];omega
theorem Yin:∀ {r:List Int} {k i0 m:Nat} {c:Int},r[m]?=some c->¬ c < Xhl (r.take m) k->(Xr3 r k i0)[Xhl (r.take m) k - k]?=some ((i0+m:Nat):Int)
 | x::r,k,i0,0,c,h,hc=>by
  obtain rfl:x=c:=by simpa using h
  simp only[List.take_zero,Xhl] at hc ⊢
  simp only[Xr3]
  rw[if_neg hc]
  simp
 | x::r,k,i0,m+1,c,h,hc=>by
  simp only[List.take_succ_cons,Xhl] at hc ⊢
  have h':r[m]?=some c:=by simpa using h
  have ih:=Yin (i0:=i0+1) h' hc
  simp only[Xr3]
  split at ih
  ·rename_i hx
   simp only[if_pos hx]
   rw[ih];congr 2;omega
  ·rename_i hx
   simp only[if_neg hx]
   have hg:=Xus (r.take m) (k+1)
   rw[show Xhl (r.take m) (k+1) - k=(Xhl (r.take m) (k+1) - (k+1))+1 by omega,List.getElem?_cons_succ,ih]
   congr 2;omega
theorem Xut:∀ (r:List Int) (k i0:Nat),(Xr3 r k i0).length=Xhl r k - k
 | [],k,_=>by simp[Xr3,Xhl]
 | x::r,k,i0=>by
  simp only[Xr3,Xhl]
  split
  ·exact Xut r k (i0+1)
  ·rw[List.length_cons,Xut r (k+1) (i0+1)]
   have:=Xus r (k+1)
   omega
def upI (n:Nat):List Int:=(List.range n).map fun m:Nat=>(m:Int)
theorem Xuu {n:Nat} {c:Int}:c∈upI n↔0<=c/\c < n:=by
 unfold upI
 rw[List.mem_map]
 constructor
 ·rintro⟨m,hm,rfl⟩;rw[List.mem_range] at hm;omega
 ·rintro⟨h1,h2⟩;exact⟨c.toNat,List.mem_range.2 (by omega),by omega⟩
theorem Yqp (n:Nat):upI (n+1)=upI n++[(n:Int)]:=by simp[upI,List.range_succ]
abbrev Wwh (n:Nat):List (V × V):=(upI n).map fun a=>(vi a,vb true)
theorem Yio (n:Nat):(Ch.map (Wwh n)).refs=[]:=by
 simp only[Ch.refs]
 rw[List.flatMap_eq_nil_iff]
 intro e he
 obtain⟨a,_,rfl⟩:=List.mem_map.1 he
 rfl
theorem Yqq (q:D):Does QP gp 69 [.one (.d q)] (.one (.d (.fn (.func 107) [.bx [q]]))):=by
 refine Wvm ?_
 simp only[go_sem]
 repeat' first|refine Kn rfl ?_|((first|refine Ka ?_|refine Kb ?_|refine Kv ?_|refine Ke ?_);simp only[go_sem])|refine Kf ?_|refine Kg ?_|apply Kp<;>intro _|((first|refine Kh ?_|refine Ki rfl ?_);simp only[or_self,Qs,Qt,Qu,Qv,Qw,Qx,Qy,Qz,Za,go_sem])
set_option maxHeartbeats 2000000 in
theorem Wg6 {g:Gr} (hg:Good g):Does QP gp 42 [.one (.d (qD g))] (Xbg g).v:=by
 have hcl:=Xk3 hg.fine
 have hord:=Xue hg.fine
 have hroot:=Xjy hg.fine hg.root
 have hr0:=hg.root
 have hgl:=hg.len
 have hnew:∀ (i:Nat) (c:Int),(Xcb g.l)[i]?=some c->¬ c < Xhl ((Xcb g.l).take i) 0->(Xbg g).l[Xhl ((Xcb g.l).take i) 0]?=some (Xf9 (Xgp g.l) (Xbb g.l i)):=fun i c h1 h2=>by
  have:=Yin (i0:=0) h1 h2
  simp only[Xbg,List.getElem?_map]
  unfold Yen
  rw[show Xhl ((Xcb g.l).take i) 0=Xhl ((Xcb g.l).take i) 0 - 0 by omega,this]
  simp
 have hend:(Xbg g).l.length=Xhl (Xcb g.l) 0:=by
  rw[Xd1];unfold Yen;rw[Xut];omega
 have hWlen:(Xbg g).l.length<=200:=hg.whole.len
 have hWlen:(Xbg g).l.length<=200:=hg.whole.len
 have hwr:(Xbg g).root=Xgp g.l g.root:=rfl
 have hkc:∀ i:Int,∀ j∈Xae (Xbb g.l i),0<=j/\∃ x,(Xcb g.l)[j.toNat]?=some x/\okI x:=fun i j hj=>by
  have h1:=hg.kid i j hj
  have h2:=Xjz hg.fine (i:=j) h1
  have h3:=Xk4 (Xcb g.l) 0 0
  refine⟨h1.1,_,Xjy hg.fine h1,?_⟩
  rw[show (Yen g.l).length=(Xr3 (Xcb g.l) 0 0).length from rfl] at h2
  unfold okI;omega
 have hca:∀ i:Int,(Xae (Xbb g.l i)).map (Xdi (Xcb g.l))=(Xae (Xbb g.l i)).map (Xgp g.l):=fun _=>rfl
 generalize Xbg g=W at *
 rw[show W=⟨W.root,W.l⟩ from rfl,hwr]
 refine Wvi ?_
 simp only[go_sem]
 have cf:=Yqq (gp:=gp) (qD g)
 repeat' first|refine Kn rfl ?_|((first|refine Ka ?_|refine Kb ?_|refine Kv ?_|refine Ke ?_);simp only[go_sem])|refine Kf ?_|refine Kg ?_|refine⟨_,cf,Kg ?_⟩|refine⟨_,⟨cf,rfl⟩,Kg ?_⟩|refine⟨_,⟨hr0.1,Xef hroot,rfl⟩,Kg ?_⟩|apply Kp<;>intro _|((first|refine Kh ?_|refine Ki rfl ?_);simp only[or_self,Qs,Qt,Qu,Qv,Qw,Qx,Qy,Qz,Za,go_sem])
 refine Xhf 1 1 6 (by decide) rfl rfl ?_
 simp only[go_sem]
 refine Y0b (f2:=107) (caps:=[.one (.d (.bx [qD g]))]) (fun pd own'=>pd=none/\∃ rest,own'=.cells [.d (.int .i64 0),.nil]::.cells [.d (.int .i64 (Xgp g.l g.root)),.own 2 W.l.length]::.row 6 W.l.length (nds W.l)::rest) rfl ?_ Wg3 ?_ ?_ ?_
 ·intro y;simp only[go_sem]
 ·rintro b rc hps ⟨hs,hta,htb⟩
  refine Yqg ?_
  simp only[go_sem]
  repeat' first|refine Kn rfl ?_|((first|refine Ka ?_|refine Kb ?_|refine Kv ?_|refine Ke ?_);simp only[go_sem])|refine Kf ?_|refine Kg ?_|apply Kp<;>intro _|((first|refine Kh ?_|refine Ki rfl ?_);simp only[or_self,Qs,Qt,Qu,Qv,Qw,Qx,Qy,Qz,Za,go_sem])
  refine Kt (fr 28 [(0,.one (.d (.raw (.func (.yield b) #[] #[])))),(1,.one (.d (.bx [qD g]))),(3,.one (.own 4 0)),(10,.one (.d (.sl (Xaf (Xcb g.l))))),(11,vi (Xcb g.l).length),(12,vi (0:Nat))]) ?_
  refine Km (fun mz sz=>∃ i:Nat,i<=(Xcb g.l).length/\mz=(Xcb g.l).length - i/\(0<=i)/\sz=⟨fr 28 [(0,.one (.d (.raw (.func (.yield b) #[] #[])))),(1,.one (.d (.bx [qD g]))),(3,.one (.own 4 0)),(10,.one (.d (.sl (Xaf (Xcb g.l))))),(11,vi (Xcb g.l).length),(12,vi i)],[.cells [.d (.int .i64 0),.nil],.cells [.d (.int .i64 (Xgp g.l g.root)),.own 2 (Xhl ((Xcb g.l).take i) 0)],.row 6 (Xhl ((Xcb g.l).take i) 0) (nds (W.l.take (Xhl ((Xcb g.l).take i) 0))),.lp b _ rc .ready none,.map (Wwh (Xhl ((Xcb g.l).take i) 0))]⟩) ((Xcb g.l).length) ⟨0,Nat.zero_le _,(Nat.sub_zero _).symm,?_,rfl⟩ ?_
  ·exact Nat.zero_le _
  rintro _ _ ⟨i,hi,rfl,-,rfl⟩
  simp only[go_sem]
  by_cases hil:i < (Xcb g.l).length
  ·obtain⟨c,hc⟩:=Xal hil
   obtain⟨x,hx⟩:=Xal (l:=g.l) (i:=i) (by omega)
   obtain⟨hin,hnd⟩:=Xr1 hx
   have e1:decide ((i:Int) < ((Xcb g.l).length:Int))=true:=decide_eq_true (by omega)
   obtain⟨h1,h2,h3⟩:=Yem hord hc
   have hn:=hnew i c hc
   have hf:=Xik (v:=vb true) Xhh (upI (Xhl ((Xcb g.l).take i) 0)) c
   generalize hk:Xhl ((Xcb g.l).take i) 0=k at *
   generalize hk2:Xhl ((Xcb g.l).take (i+1)) 0=k2 at *
   by_cases hlt:c < k
   ·rw[if_pos hlt] at h3
    subst h3
    rw[if_pos (Xuu.2 ⟨h1,hlt⟩)] at hf
    repeat' first|refine Kn rfl ?_|((first|refine Ka ?_|refine Kb ?_|refine Kv ?_|refine Ke ?_);simp only[e1,go_sem])|refine Kf ?_|refine Kg ?_|refine⟨_,⟨Kq _,Xef hc,rfl⟩,Kg ?_⟩|refine⟨_,⟨hf,rfl⟩,Kg ?_⟩|(apply Kp<;>intro _<;>try (exfalso;omega))|((first|refine Kh ?_|refine Ki rfl ?_);simp only[e1,or_self,Qs,Qt,Qu,Qv,Qw,Qx,Qy,Qz,Za,go_sem])
    refine⟨Xaq hil (by unfold lenMax;omega),?_⟩
    refine Kt (fr 28 [(0,.one (.d (.raw (.func (.yield b) #[] #[])))),(1,.one (.d (.bx [qD g]))),(3,.one (.own 4 0)),(10,.one (.d (.sl (Xaf (Xcb g.l))))),(11,vi (Xcb g.l).length),(12,vi (i+1))]) ?_
    exact Kl ⟨(Xcb g.l).length - (i+1),by omega,i+1,by omega,rfl,Nat.zero_le _,by rw[hk2];rfl⟩
   ·rw[if_neg hlt] at h3
    subst h3
    obtain rfl:c=(k:Int):=by omega
    rw[if_neg (fun h=>by have:=(Xuu.1 h).2;omega)] at hf
    have hput:=Xkz (v:=vb true) Xhh (upI k) (k:Int) (fun h=>by have:=(Xuu.1 h).2;omega)
    rw[<- Yqp] at hput
    have hW:=hn (by omega)
    have hWl:=(List.getElem?_eq_some_iff.1 hW).1
    have hsn:=Xpf hW
    have ck:=keys (gp:=gp) g i hg.s
    have ckd:=kids (gp:=gp) g i hg.s
    have hkl:=Xdt (Xbb g.l i) 12 (hg.s.at i)
    have cc:=Yqo (gp:=gp) g (Xcb g.l) (Xae (Xbb g.l i)) (by omega) (hkc i)
    rw[hca] at cc
    have hx':g.l[i]?=some (Xbb g.l i):=by rw[hnd];exact hx
    unfold Xf9 at hsn
    generalize Xbb g.l i=y at *
    have htl:(W.l.take k).length=k:=by simp;omega
    have hWb:=hWlen
    repeat' first|refine Kn rfl ?_|((first|refine Ka ?_|refine Kb ?_|refine Kv ?_|refine Ke ?_);simp only[e1,go_sem])|refine Kf ?_|refine Kg ?_|refine⟨_,⟨Kq _,Xef hc,rfl⟩,Kg ?_⟩|refine⟨_,⟨hf,rfl⟩,Kg ?_⟩|refine⟨_,hput,Kg ?_⟩|(apply Kp<;>intro _<;>try (exfalso;omega))|((first|refine Kh ?_|refine Ki rfl ?_);simp only[e1,or_self,Qs,Qt,Qu,Qv,Qw,Qx,Qy,Qz,Za,go_sem])
    refine⟨[.cells [.d (.int .i64 0),.nil],.cells [.d (.int .i64 (Xgp g.l g.root)),.own 2 (k+1)],.row 6 (k+1) (nds (W.l.take (k+1))),.lp b _ rc .ready none,.map (Wwh (k+1))],true,by simp,⟨3,_,rc,hs,_,_,[.cells [.d (.int .i64 0),.nil],.cells [.d (.int .i64 (Xgp g.l g.root)),.own 2 (k+1)],.row 6 (k+1) (nds (W.l.take (k+1))),.dead,.map (Wwh (k+1))],none,rfl,by rw[<- Array.length_toList,hps];rfl,hta,htb,?_,rfl,rfl⟩,Kg ?_⟩
    ·rw[hps]
     simp only[go_sem]
     repeat' first|refine Kn rfl ?_|((first|refine Ka ?_|refine Kb ?_|refine Kv ?_|refine Ke ?_);simp only[go_sem])|refine Kf ?_|refine Kg ?_|apply Kp<;>intro _|((first|refine Kh ?_|refine Ki rfl ?_);simp only[or_self,Qs,Qt,Qu,Qv,Qw,Qx,Qy,Qz,Za,go_sem])
     refine Xfy ⟨rfl,?_⟩
     repeat' first|refine Kn rfl ?_|((first|refine Ka ?_|refine Kb ?_|refine Kv ?_|refine Ke ?_);simp only[go_sem])|refine Kf ?_|refine Kg ?_|refine⟨_,ck,Kg ?_⟩|refine⟨_,⟨ck,rfl⟩,Kg ?_⟩|refine⟨_,ckd,Kg ?_⟩|refine⟨_,⟨ckd,rfl⟩,Kg ?_⟩|refine⟨_,cc,Kg ?_⟩|refine⟨_,⟨cc,rfl⟩,Kg ?_⟩|refine⟨_,⟨Kq _,Xul hx',rfl⟩,Kg ?_⟩|refine⟨_,⟨Kq _,Xul hx',rfl⟩,Kg ?_⟩|apply Kp<;>intro _|((first|refine Kh ?_|refine Ki rfl ?_);simp only[or_self,Qs,Qt,Qu,Qv,Qw,Qx,Qy,Qz,Za,go_sem])
     refine⟨by simp,by simp[nds];omega,by simp[lenMax,nds];omega,?_⟩
     rw[hsn]
     repeat' first|refine Kn rfl ?_|((first|refine Ka ?_|refine Kb ?_|refine Kv ?_|refine Ke ?_);simp only[go_sem])|refine Kf ?_|refine Kg ?_|apply Kp<;>intro _|((first|refine Kh ?_|refine Ki rfl ?_);simp only[or_self,Qs,Qt,Qu,Qv,Qw,Qx,Qy,Qz,Za,go_sem])
     exact Xfy ⟨⟨rfl,rfl⟩,rfl⟩
    ·simp only[go_sem]
     repeat' first|refine Kn rfl ?_|((first|refine Ka ?_|refine Kb ?_|refine Kv ?_|refine Ke ?_);simp only[go_sem])|refine Kf ?_|refine Kg ?_|apply Kp<;>intro _|((first|refine Kh ?_|refine Ki rfl ?_);simp only[or_self,Qs,Qt,Qu,Qv,Qw,Qx,Qy,Qz,Za,go_sem])
     refine⟨Xaq hil (by unfold lenMax;omega),?_⟩
     refine Kt (fr 28 [(0,.one (.d (.raw (.func (.yield b) #[] #[])))),(1,.one (.d (.bx [qD g]))),(3,.one (.own 4 0)),(10,.one (.d (.sl (Xaf (Xcb g.l))))),(11,vi (Xcb g.l).length),(12,vi (i+1))]) ?_
     refine Kk 5 (by simp only[List.length_nil,List.length_cons];decide) (by simp only[go_sem]) (by simp only[List.take_succ_cons,List.take_zero,List.all_cons,List.all_nil,Yio];simp only[go_sem]) ?_
     simp only[go_sem]
     exact Kl ⟨(Xcb g.l).length - (i+1),by omega,i+1,by omega,rfl,Nat.zero_le _,by rw[hk2];rfl⟩
  ·obtain rfl:i=(Xcb g.l).length:=by omega
   have e1:decide (((Xcb g.l).length:Int) < ((Xcb g.l).length:Int))=false:=decide_eq_false (by omega)
   rw[List.take_of_length_le (Nat.le_refl _),<- hend,List.take_of_length_le (Nat.le_refl _)]
   repeat' first|refine Kn rfl ?_|((first|refine Ka ?_|refine Kb ?_|refine Kv ?_|refine Ke ?_);simp only[e1,go_sem])|refine Kf ?_|refine Kg ?_|apply Kp<;>intro _|((first|refine Kh ?_|refine Ki rfl ?_);simp only[e1,or_self,Qs,Qt,Qu,Qv,Qw,Qx,Qy,Qz,Za,go_sem])
   exact⟨.ready,none,rfl,by simp,rfl,_,rfl⟩
 ·rintro own' ⟨_,rest,rfl⟩
  simp only[go_sem]
  refine Kt (fr 73 [(2,.one (.ptr 0 0)),(3,.one (.ptr 1 0))]) ?_
  refine Ku 3 ?_
  simp only[go_sem]
  refine Xa6 2 ?_
  simp only[go_sem]
  repeat' first|refine Kn rfl ?_|((first|refine Ka ?_|refine Kb ?_|refine Kv ?_|refine Ke ?_);simp only[go_sem])|refine Kf ?_|refine Kg ?_|apply Kp<;>intro _|((first|refine Kh ?_|refine Ki rfl ?_);simp only[or_self,Qs,Qt,Qu,Qv,Qw,Qx,Qy,Qz,Za,go_sem])
  all_goals trace_state
 ·rintro _ _ ⟨h,_⟩;cases h
noncomputable def qOf (g:Gr):Gr:=if chk g=none then Xfp g else ⟨0,[]⟩
theorem Xp7 {g:Gr} (h:Good g):qOf g=Xfp g:=by unfold qOf;rw[if_pos h.c]
theorem Xsv {g:Gr} (hs:Xc4 g):Xc4 (qOf g):=by
 unfold qOf
 split
 ·exact (Good.quot ⟨‹_›,hs⟩).s
 ·intro x hx;cases hx
theorem Yzg (h:Env10 gp) (g:Gr) (hs:Xc4 g) (hst:∀ x∈g.l,x.short):Does QP gp 21 [g.v] (.tup [(qOf g).v,vi (Xnf g)]):=by
 refine Wuv ?_
 simp only[go_sem]
 have c1:=qof h g hs hst
 have c2:=fun e=>Wzo (gp:=gp) h.e.e e
 by_cases hc:chk g=none
 ·have hg:Good g:=⟨hc,hs⟩
  rw[if_pos hc] at c1
  rw[Xp7 hg,Xhi hc]
  have c3:=Wg6 (gp:=gp) hg
  have c4:=Ydz h.e (Xbg g) hg.whole.s
  rw[Xyl hg.whole,Xhi hg.whole.c] at c4
  unfold Xfp
  simp only[Wg5] at c1
  repeat' first|refine Kn rfl ?_|((first|refine Ka ?_|refine Kb ?_|refine Kv ?_|refine Ke ?_);simp only[go_sem])|refine Kf ?_|refine Kg ?_|refine⟨_,c1,Kg ?_⟩|refine⟨_,⟨c1,rfl⟩,Kg ?_⟩|refine⟨_,c3,Kg ?_⟩|refine⟨_,⟨c3,rfl⟩,Kg ?_⟩|refine⟨_,c4,Kg ?_⟩|refine⟨_,⟨c4,rfl⟩,Kg ?_⟩|apply Kp<;>intro _|((first|refine Kh ?_|refine Ki rfl ?_);simp only[or_self,Qs,Qt,Qu,Qv,Qw,Qx,Qy,Qz,Za,go_sem])
  all_goals trace_state
 ·rw[if_neg hc] at c1
  have e0:qOf g=⟨0,[]⟩:=by unfold qOf;rw[if_neg hc]
  rw[e0]
  have c3:=c2 (some (Xnf g))
  generalize Xnf g=e at *
  simp only[Wg5,Option.getD_some] at c1 c3
  repeat' first|refine Kn rfl ?_|((first|refine Ka ?_|refine Kb ?_|refine Kv ?_|refine Ke ?_);simp only[go_sem])|refine Kf ?_|refine Kg ?_|refine⟨_,c1,Kg ?_⟩|refine⟨_,⟨c1,rfl⟩,Kg ?_⟩|refine⟨_,c3,Kg ?_⟩|refine⟨_,⟨c3,rfl⟩,Kg ?_⟩|apply Kp<;>intro _|((first|refine Kh ?_|refine Ki rfl ?_);simp only[or_self,Qs,Qt,Qu,Qv,Qw,Qx,Qy,Qz,Za,go_sem])
  all_goals trace_state
noncomputable def pOf (g:Gr):List Int:=if chk g=none then W0w g else []
end Go.Fw.L07
