/- Chapter 18: errors.As at trees' errors (M.t,turned); errors.Is at them (turned from the kit's worked proof SentryIs). -/
import Derived.Test.YtiklocoaghcliaaGreatDoorMa
import Derived.WalkKit
import Derived.LaidEql
import Derived.Stop.Asserts
import Derived.RowKitTokens
import Derived.Test.YtiklocoaghcliaaGreatDoorJb
set_option linter.all false
namespace Go.Fw.L07
open Go Go.Proofs Go.RowKit Go.Extern.Stop Go.Stop Go.Extern
theorem Xuw (t:Addr) (w:World):(ReflectliteValue.unpack (.iface 109 (.pointer (some t)))).run Tryz.prog w
  = .ok (.agg #[.pointer (some ⟨7,109,none⟩),.pointer (some ⟨w.heap.size,0,none⟩),.int .u64 150]) (w.alloc (.cells #[.pointer (some t)] 109)):=by kernel_rfl
theorem Yow (a : Addr) (w : World) : (ReflectliteValue.methodAny (ReflectliteValue.valueError "reflectlite.Value.Type" 0) (fun t _ _ _ => ReflectliteType.toType t) #[.agg #[.pointer (some ⟨7, 109, none⟩), .pointer (some a), .int .u64 150]]).run Tryz.prog w
  = .ok (.iface 196 (.agg #[.pointer (some ⟨7,109,none⟩)])) w:=by kernel_rfl
theorem Yox (w:World):((ReflectliteType.abiMethod fun t=>(fun a:Nat=>Value.int IntKind.u8 (a:Int)) <$> Rtype.kind t) #[.pointer (some ⟨7,109,none⟩)]).run Tryz.prog w=.ok (.int .u8 22) w:=by kernel_rfl
theorem Yoy (w:World):((ReflectliteType.abiMethod fun t=>(fun a:Nat=>Value.int IntKind.u8 (a:Int)) <$> Rtype.kind t) #[.pointer (some ⟨7,106,none⟩)]).run Tryz.prog w=.ok (.int .u8 25) w:=by kernel_rfl
theorem Xst (a:Addr) (w:World):(ReflectliteValue.parts (.agg #[.pointer (some ⟨7,109,none⟩),.pointer (some a),.int .u64 150])).run Tryz.prog w=.ok (some (109,a,150)) w:=by kernel_rfl
theorem Ygc:Tryz.prog.underlying 109=some (.pointer 106):=by kernel_rfl
theorem Yoz (a p:Addr) (W:World) (ha:W.cell? a=some (.pointer (some p))) :
  (ReflectliteValue.method (ReflectliteValue.valueError "reflectlite.Value.IsNil" 0) ReflectliteValue.isNil #[.agg #[.pointer (some ⟨7, 109, none⟩), .pointer (some a), .int .u64 150]]).run Tryz.prog W = .ok (.bool false) W := by
 rw[Ymd]
 simp only[Sem.run_bind,Xst,Result.andThen]
 simp[ReflectliteValue.isNil,loadVar,isAgg,underlying,Ygc,ha,Result.andThen]
theorem Yo0 (w:World):(ReflectliteType.method ReflectliteType.elem #[.agg #[.pointer (some ⟨7,109,none⟩)]]).run Tryz.prog w=.ok (.iface 196 (.agg #[.pointer (some ⟨7,106,none⟩)])) w:=by kernel_rfl
theorem Yo1 (w : World) : (ReflectliteType.relation "Implements" ReflectliteType.implements_ #[.agg #[.pointer (some ⟨7, 106, none⟩)], .iface 196 (.agg #[.pointer (some ⟨7, 69, none⟩)])]).run Tryz.prog w = .ok (.bool true) w := by kernel_rfl
theorem X1f (v:Value) (w:World):(ReflectliteType.typeOf #[.iface 106 v]).run Tryz.prog w=.ok (.iface 196 (.agg #[.pointer (some ⟨7,106,none⟩)])) w:=by kernel_rfl
theorem X1g (w : World) : (ReflectliteType.relation "AssignableTo" ReflectliteType.assignableTo #[.agg #[.pointer (some ⟨7, 106, none⟩)], .iface 196 (.agg #[.pointer (some ⟨7, 106, none⟩)])]).run Tryz.prog w = .ok (.bool true) w := by kernel_rfl
theorem Xux (x:Value) (w:World):(ReflectliteValue.unpack (.iface 106 (.agg #[x]))).run Tryz.prog w
  = .ok (.agg #[.pointer (some ⟨7,106,none⟩),.pointer (some ⟨w.heap.size,0,none⟩),.int .u64 153]) (w.alloc (.cells #[x] 106)):=by kernel_rfl
theorem Ygd (w:World):(Rtype.elem? 109).run Tryz.prog w=.ok (some 106) w:=by kernel_rfl
theorem W04 (p:Addr) (w:World):(ReflectliteValue.mk 106 p ReflectliteValue.flagAddr).run Tryz.prog w=.ok (.agg #[.pointer (some ⟨7,106,none⟩),.pointer (some p),.int .u64 409]) w:=by kernel_rfl
theorem Yo2 (a p:Addr) (W:World) (ha:W.cell? a=some (.pointer (some p))) :
  (ReflectliteValue.method (ReflectliteValue.valueError "reflectlite.Value.Elem" 0) ReflectliteValue.elem #[.agg #[.pointer (some ⟨7, 109, none⟩), .pointer (some a), .int .u64 150]]).run Tryz.prog W
   = .ok (.agg #[.pointer (some ⟨7,106,none⟩),.pointer (some p),.int .u64 409]) W:=by
 rw[Ymd]
 simp only[Sem.run_bind,Xst,Result.andThen]
 simp[ReflectliteValue.elem,loadVar,isAgg,underlying,Ygc,ha,Result.andThen,Ygd,W04]
theorem X1h (a:Addr) (w:World):(ReflectliteValue.parts (.agg #[.pointer (some ⟨7,106,none⟩),.pointer (some a),.int .u64 409])).run Tryz.prog w=.ok (some (106,a,409)) w:=by kernel_rfl
theorem Yge (a:Addr) (w:World):(ReflectliteValue.parts (.agg #[.pointer (some ⟨7,106,none⟩),.pointer (some a),.int .u64 153])).run Tryz.prog w=.ok (some (106,a,153)) w:=by kernel_rfl
theorem Ygf (w:World):(Rtype.directlyAssignable 106 106).run Tryz.prog w=.ok true w:=by kernel_rfl
theorem Wvn:Fw.szOf Tryz.prog 106=some 1:=by kernel_rfl
theorem Yxr:Fw.isAggB Tryz.prog 106=true:=by kernel_rfl
theorem Wvo (tb b:Nat) (x p:Value) (T:TypeId) (W:World) (hx:x.oneCell'=true) (hb:W.cell? ⟨b,0,none⟩=some x) (ht:W.heap[tb]?=some (.cells #[p] T (0,0))) :
  ∃ W',(ReflectliteValue.set #[.agg #[.pointer (some ⟨7,106,none⟩),.pointer (some ⟨tb,0,none⟩),.int .u64 409],.agg #[.pointer (some ⟨7,106,none⟩),.pointer (some ⟨b,0,none⟩),.int .u64 153]]).run Tryz.prog W=.ok (.tuple #[]) W' /\
   Fw.WKeep W W' (fun z=>z=tb)/\W'.heap[tb]?=some (.cells #[x] T (0,0)):=by
 have hl:=Fw.run_loadVar' (P:=Tryz.prog) (w:=W) Wvn (.inl Yxr) b 0 [x] rfl (fun j v hv=>by
  match j,hv with
  | 0,hv=>simp at hv;subst hv;exact hb
  | j+1,hv=>simp at hv)
 rw[if_pos Yxr] at hl
 obtain⟨W',hs,hk,hh⟩:=Fw.run_storeVar' (P:=Tryz.prog) (w:=W) Wvn tb 0 (.agg #[x]) [x] [p] T rfl rfl (by simp[hx]) ht (by simp)
 refine⟨W',?_,hk,by simpa using hh⟩
 rw[Wr0]
 simp only[Sem.run_bind,X1h,Yge,Result.andThen]
 simp[ReflectliteValue.flagAddr,hl,Ygf,Result.andThen,hs]
set_option maxHeartbeats 4000000 in
set_option maxRecDepth 1000000 in
theorem Wfx (tb:Nat) (x p:Value) (T:TypeId) (w:World) (hx:x.oneCell'=true) (hg:w.cell? ⟨1,0,none⟩=some (.iface 196 (.agg #[.pointer (some ⟨7,69,none⟩)])))
  (ht0:w.heap[tb]?=some (.cells #[p] T (0,0))) :
  Calls Tryz.prog 60 #[.iface 106 (.agg #[x]),.iface 109 (.pointer (some ⟨tb,0,none⟩))] w fun ev w'=>ev=.returned (.bool true)/\Fw.WKeep w w' (fun z=>z=tb)/\w'.heap[tb]?=some (.cells #[x] T (0,0)):=by
 have h6:=@run_callFunc_extern Tryz.prog 83 _ (fun args=>ReflectliteValue.unpack (args.getD 0 (.tuple #[]))) Tryz.func83 (by kernel_rfl) (by kernel_rfl) (by kernel_rfl) (by kernel_rfl)
 have h7 := @run_callFunc_extern Tryz.prog 84 _ (ReflectliteValue.methodAny (ReflectliteValue.valueError "reflectlite.Value.Type" 0) (fun t _ _ _ => ReflectliteType.toType t)) Tryz.func84 (by kernel_rfl) (by kernel_rfl) (by kernel_rfl) (by kernel_rfl)
 have h8 := @run_callFunc_extern Tryz.prog 85 _ (ReflectliteValue.method (ReflectliteValue.valueError "reflectlite.Value.IsNil" 0) ReflectliteValue.isNil) Tryz.func85 (by kernel_rfl) (by kernel_rfl) (by kernel_rfl) (by kernel_rfl)
 have h27:=@run_callFunc_extern Tryz.prog 185 _ (ReflectliteType.abiMethod fun t=>do pure (.int .u8 (<- Rtype.kind t))) Tryz.func185 (by kernel_rfl) (by kernel_rfl) (by kernel_rfl) (by kernel_rfl)
 have h37:=@run_callFunc_extern Tryz.prog 197 _ (ReflectliteType.method ReflectliteType.elem) Tryz.func197 (by kernel_rfl) (by kernel_rfl) (by kernel_rfl) (by kernel_rfl)
 have h38 := @run_callFunc_extern Tryz.prog 198 _ (ReflectliteType.relation "Implements" ReflectliteType.implements_) Tryz.func198 (by kernel_rfl) (by kernel_rfl) (by kernel_rfl) (by kernel_rfl)
 have h10:=@run_callFunc_extern Tryz.prog 81 _ ReflectliteType.typeOf Tryz.func81 (by kernel_rfl) (by kernel_rfl) (by kernel_rfl) (by kernel_rfl)
 have h35 := @run_callFunc_extern Tryz.prog 195 _ (ReflectliteType.relation "AssignableTo" ReflectliteType.assignableTo) Tryz.func195 (by kernel_rfl) (by kernel_rfl) (by kernel_rfl) (by kernel_rfl)
 have h11 := @run_callFunc_extern Tryz.prog 112 _ (ReflectliteValue.method (ReflectliteValue.valueError "reflectlite.Value.Elem" 0) ReflectliteValue.elem) Tryz.func112 (by kernel_rfl) (by kernel_rfl) (by kernel_rfl) (by kernel_rfl)
 have h12:=@run_callFunc_extern Tryz.prog 113 _ ReflectliteValue.set Tryz.func113 (by kernel_rfl) (by kernel_rfl) (by kernel_rfl) (by kernel_rfl)
 have tO:=X1f
 have mA:=Xr9
 have a25:=X1g
 have v25:=Xux
 have f6:=Xuw
 have f7:=Yow
 have mK:=Yav
 have mE:=Yaw
 have mI:=Yax
 have k27:=Yox
 have k25:=Yoy
 have e27:=Yo0
 have i25:=Yo1
 have n8:=Yoz ⟨w.heap.size,0,none⟩ ⟨tb,0,none⟩ ((w.alloc (.cells #[.pointer (some ⟨tb,0,none⟩)] 109)).alloc (.cells #[.pointer (some ⟨7,109,none⟩),.pointer (some ⟨w.heap.size,0,none⟩),.int .u64 150] 160)) (by simp)
 have hlt:1 < w.heap.size:=by
  rcases Nat.lt_or_ge 1 w.heap.size with h|h
  ·exact h
  ·simp[World.cell?,Array.getElem?_eq_none h] at hg
 have hg2:((w.alloc (.cells #[.pointer (some ⟨tb,0,none⟩)] 109)).alloc (.cells #[.pointer (some ⟨7,109,none⟩),.pointer (some ⟨w.heap.size,0,none⟩),.int .u64 150] 160)).cell? ⟨1,0,none⟩=some (.iface 196 (.agg #[.pointer (some ⟨7,69,none⟩)])):=by
  rw[World.cell?_alloc_lt _ _ ⟨1,0,none⟩ (by first|(simp;omega)|simp),World.cell?_alloc_lt _ _ ⟨1,0,none⟩ hlt];exact hg
 have htl:tb < w.heap.size:=(Array.getElem?_eq_some_iff.1 ht0).1
 have el:=Yo2 ⟨w.heap.size,0,none⟩ ⟨tb,0,none⟩ (((w.alloc (.cells #[.pointer (some ⟨tb,0,none⟩)] 109)).alloc (.cells #[.pointer (some ⟨7,109,none⟩),.pointer (some ⟨w.heap.size,0,none⟩),.int .u64 150] 160)).alloc (.cells #[.pointer (some ⟨7,109,none⟩),.pointer (some ⟨w.heap.size,0,none⟩),.int .u64 150] 160)) (by rw[World.cell?_alloc_lt _ _ ⟨w.heap.size,0,none⟩ (by simp;omega)];simp)
 obtain⟨W',st,hk,hh⟩:=Wvo tb (w.heap.size+1+1+1) x p T ((((w.alloc (.cells #[.pointer (some ⟨tb,0,none⟩)] 109)).alloc (.cells #[.pointer (some ⟨7,109,none⟩),.pointer (some ⟨w.heap.size,0,none⟩),.int .u64 150] 160)).alloc (.cells #[.pointer (some ⟨7,109,none⟩),.pointer (some ⟨w.heap.size,0,none⟩),.int .u64 150] 160)).alloc (.cells #[x] 106)) hx
  (by rw[World.cell?_alloc_at _ _ _ _ (by simp)];try rfl)
  (by rw[Xbh _ _ (by simp;omega),Xbh _ _ (by simp;omega),Xbh _ _ (by simp;omega),Xbh _ _ htl];exact ht0)
 go_enter Tryz.func60,Xue
 go_wp2
 refine wp_loop_rounds 1 ?_
 rw[rounds_succ]
 go_wp2
 go_ret
 refine⟨rfl,?_,hh⟩
 exact⟨hk.os,hk.tape,hk.output,by have:=hk.size;simp at this;omega,fun b hb hn=>by
  rw[hk.block b (by simp;omega) hn]
  rw[Xbh _ _ (by simp;omega),Xbh _ _ (by simp;omega),Xbh _ _ (by simp;omega),Xbh _ _ hb]⟩
open Go.Fw
def Wvp:Option Int->D
 | none=>.nilI
 | some e=>.ifc 106 true [.int .i64 e]
theorem Wvq {gp:Xaj} (hE:Y9m gp) (e:Option Int):Tri Go.Proofs.Tryz.prog gp 60 [.one (.d (Wvp e)),.one (.ifo 109 (.ptr 0 0))] [.cells [.d (.int .i64 0)]] fun r post=>r=vb e.isSome/\post=[.cells [.d (.int .i64 (e.getD 0))]]:=by
 intro H w an F us hgp hmod hanc hown hF hdj hargs
 obtain⟨u1,u2,rfl,h1,h2⟩:∃ u1 u2,us=[u1,u2]/\Den H (Wvp e) u1/\Xbw H an (.ifo 109 (.ptr 0 0)) u2:=by
  match us,hargs with
  | [u1,u2],h=>exact⟨u1,u2,rfl,h.1,h.2.1⟩
 obtain⟨pv,rfl,b,rfl,p,hp,hpb⟩:=h2
 obtain⟨q,hq,h0,b',T,vs,hqv,hFb,hheap,hden⟩:=hown 0 _ rfl
 rw[hp] at hq;cases hq
 have hbb:b=b':=hpb b' hqv
 subst hbb
 obtain⟨x0,rfl,hx0⟩:∃ x,vs=[x]/\Den H (.int .i64 0) x:=by
  match vs,hden with
  | [x],h=>exact⟨x,rfl,h.1⟩
 cases e with
 | none =>
  cases h1
  intro cs
  obtain⟨e,w',fr,⟨rfl,rfl⟩,g2,g3,g4⟩:=Yvr (.iface 109 (.pointer (some ⟨b,0,none⟩))) w cs
  refine⟨_,w',fr,⟨_,_,_,H,an,F,rfl,⟨rfl,rfl⟩,WKeep.refl _ _,Xaj.Le.refl _,hmod,fun b o hb=>.inl hb,Anc.Le.refl _,hanc,hown,fun i b hb=>?_,hdj,Den.bool _⟩,g2,g3,g4⟩
  obtain⟨k1,k2,k3⟩:=hF i b hb
  exact⟨k1,k2,k3,.inr ⟨i,hb⟩⟩
 | some e =>
  obtain⟨x,rfl,hx⟩:∃ x,u1=.iface 106 (.agg #[x])/\Den H (.int .i64 e) x:=by
   cases h1 with
   | ifcA t cs vs hlen hd =>
    match vs,hlen,hd with
    | [x],_,hd=>exact⟨x,rfl,hd 0 _ _ rfl rfl⟩
  intro cs
  obtain⟨e',w',fr,⟨rfl,hk,hh⟩,g2,g3,g4⟩:=Wfx b x x0 T w hx.oneCell (hE H w hgp hmod) hheap cs
  have hFall:∀ i z,F i z->z=b:=fun i z hz=>by
   have hi:=(hF i z hz).1
   have:i=0:=by simp at hi;exact hi
   subst this
   exact (hFb z).1 hz
  refine⟨_,w',fr,⟨_,_,_,H,an,F,rfl,⟨rfl,rfl⟩,hk.mono fun z hz=>⟨0,(hFb z).2 hz⟩,Xaj.Le.refl _,fun z o hz=>?_,fun b o hb=>.inl hb,Anc.Le.refl _,hanc,fun i c hc=>?_,fun i z hz=>?_,hdj,Den.bool _⟩,g2,g3,g4⟩
  ·have h3:=hmod z o hz
   refine (hk.block z (Array.getElem?_eq_some_iff.1 h3).1 fun e=>?_).trans h3
   subst e
   have:=(hF 0 z ((hFb z).2 rfl)).2.2
   rw[this] at hz;cases hz
  ·match i,hc with
   | 0,hc =>
    cases hc
    exact⟨p,hp,h0,b,T,[x],hqv,hFb,hh,hx,trivial⟩
  ·obtain⟨k1,k2,k3⟩:=hF i z hz
   exact⟨k1,Nat.lt_of_lt_of_le k2 hk.size,k3,.inr ⟨i,hz⟩⟩
abbrev cE (a:Addr):Value:=.iface 266 (.pointer (some a))
theorem Ygg (v:Value) (w:World):(Extern.ReflectliteType.typeOf #[.iface 266 v]).run Tryz.prog w=.ok (.iface 196 (.agg #[.pointer (some ⟨7,266,none⟩)])) w:=by kernel_rfl
theorem Xqf (w : World) : ((Extern.ReflectliteType.method fun t => do Extern.Rtype.noPackHeld "Comparable" t; (fun a => Value.bool a.comparable) <$> typeInfo t) #[.agg #[.pointer (some ⟨7, 266, none⟩)]]).run Tryz.prog w = .ok (.bool true) w := by kernel_rfl
theorem Xnm (v : Value) (w : World) : (Go.method 396 196 v "Comparable").run Tryz.prog w = .ok (196, v) w := by kernel_rfl
theorem Wfy:(Tryz.prog.info? 266).map (·.comparable)=some true:=by kernel_rfl
theorem Wfz:(Tryz.prog.info? 284).map (·.size)=some 1:=by kernel_rfl
theorem Ygh:∃ ms,Tryz.prog.underlying 69=some (.interface ms):=by
 have h:(match Tryz.prog.underlying 69 with|some (.interface _)=>true|_=>false)=true:=by kernel_rfl
 split at h
 ·rename_i ms e;exact⟨ms,e⟩
 ·cases h
theorem Ygi:Tryz.prog.underlying 266=some (.pointer 284):=by kernel_rfl
theorem Wf0 (v:Value) (xT:TypeId) (w:World):(Instr.typeAssert (.iface 106 v) xT 198 true).run Tryz.prog w=.ok (.tuple #[.nilIface,.bool false]) w:=by
 have h:(match Tryz.prog.underlying 198 with|some (.interface want)=>(Tryz.prog.info? 106).map (fun i=>(lacking want i.methods).isEmpty)|_=>none)=some false:=by kernel_rfl
 split at h
 ·rename_i want e
  exact run_typeAssert_lacksB e h (by kernel_rfl) v xT w
 ·cases h
theorem Yo3 (v:Value) (xT:TypeId) (w:World):(Instr.typeAssert (.iface 106 v) xT 201 true).run Tryz.prog w=.ok (.tuple #[.iface 106 v,.bool true]) w:=by
 have h:(match Tryz.prog.underlying 201 with|some (.interface want)=>(Tryz.prog.info? 106).map (fun i=>(lacking want i.methods).isEmpty)|_=>none)=some true:=by kernel_rfl
 split at h
 ·rename_i want e
  exact run_typeAssert_hasB e h v xT w
 ·cases h
theorem Wvr (v : Value) (w : World) : (Go.method 396 106 v "Unwrap").run Tryz.prog w = .ok (189, v) w := by kernel_rfl
set_option maxHeartbeats 4000000 in
set_option maxRecDepth 1000000 in
theorem Wf1 (x:Value) (a:Addr) (w:World) (hg:w.cell? ⟨0,0,none⟩=some (cE a)) :
  Calls Tryz.prog 59 #[.iface 106 (.agg #[x]),cE a] w fun e w'=>e=.returned (.bool true)/\w'=w.alloc (.cells #[x] 106):=by
 obtain⟨i,hi,hcmp⟩:=Option.map_eq_some_iff.1 Wfy
 obtain⟨j,hj,hjs⟩:=Option.map_eq_some_iff.1 Wfz
 obtain⟨ms,hms⟩:=Ygh
 have h8:=@run_callFunc_extern Tryz.prog 81 _ Extern.ReflectliteType.typeOf Tryz.func81 (by kernel_rfl) (by kernel_rfl) (by kernel_rfl) (by kernel_rfl)
 have h32 := @run_callFunc_extern Tryz.prog 196 _ (Extern.ReflectliteType.method fun t => do Extern.Rtype.noPackHeld "Comparable" t; pure (.bool (<- typeInfo t).comparable)) Tryz.func196 (by kernel_rfl) (by kernel_rfl) (by kernel_rfl) (by kernel_rfl)
 have tT:=Ygg
 have cT:=Xqf
 have mR:=Xnm
 have nW:=Wf0
 have uW:=Yo3
 have mU:=Wvr
 have hlt:0 < w.heap.size:=by
  rcases Nat.lt_or_ge 0 w.heap.size with h|h
  ·exact h
  ·simp[World.cell?,Array.getElem?_eq_none h] at hg
 have hg2:(w.alloc (.cells #[x] 106)).cell? ⟨0,0,none⟩=some (cE a):=by
  rw[World.cell?_alloc_lt _ _ ⟨0,0,none⟩ hlt];exact hg
 have heq:=run_eql_iface_ptr_same (P:=Tryz.prog) (w.alloc (.cells #[x] 106)) a hms Ygi hi hcmp hj
 have hty:=run_eql_iface_types (P:=Tryz.prog) 106 266 (.agg #[x]) (.pointer (some a)) hms (by decide) w
 go_enter Tryz.func59,Tryz.ntmps59
 go_wp2
 refine wp_loop_rounds 2 ?_
 rw[rounds_succ]
 go_wp2
 rw[rounds_succ]
 go_wp2
 go_ret
 exact⟨rfl,rfl⟩
end Go.Fw.L07
namespace Go.Fw.L07
open Go Go.Fw
open Go.Fw.Sh renaming intro->Kg
open Go.Fw renaming Xh9->Kv,Xel->Kf,Gx->Kn
open Go.Fw renaming Xec->Kw, Xbg->Kw, Xbk->Kw, Xbv->Kw, Xb3->Kw, Xh6->Kw, Xem->Kw
open Go.Fw.Sh renaming intro->Kf
open Go.Proofs.Tryz renaming prog->QP
set_option maxRecDepth 4000
variable {gp:Xaj} {ua:Addr}
structure Env18 (gp:Xaj) (a:Addr):Prop where
 e:Env gp
 p:Xnl gp
 g:∃ T fz,gp 0=some (.cells #[cE a] T fz)
theorem W2i (h:Env18 gp ua) (e:Int):Xao QP gp 59 [.one (.d (Wvp (some e))),.one (.d (.raw (cE ua)))] (vb true):=by
 refine⟨by kernel_rfl,?_⟩
 intro H w an F us hgp hmod hanc hown hF hdj hargs
 obtain⟨u1,u2,rfl,h1,h2⟩:∃ u1 u2,us=[u1,u2]/\Den H (Wvp (some e)) u1/\Den H (.raw (cE ua)) u2:=by
  match us,hargs with
  | [u1,u2],h=>exact⟨u1,u2,rfl,h.1,h.2.1⟩
 cases h2
 obtain⟨x,rfl,hx⟩:∃ x,u1=.iface 106 (.agg #[x])/\Den H (.int .i64 e) x:=by
  cases h1 with
  | ifcA t cs vs hlen hd =>
   match vs,hlen,hd with
   | [x],_,hd=>exact⟨x,rfl,hd 0 _ _ rfl rfl⟩
 obtain⟨T,fz,hg⟩:=h.g
 have hg1:w.cell? ⟨0,0,none⟩=some (cE ua):=by
  have:=hmod _ _ (hgp _ _ hg)
  simp[World.cell?,this]
 intro cs
 obtain⟨e',w',fr,⟨rfl,rfl⟩,g2,g3,g4⟩:=Wf1 x ua w hg1 cs
 have hk:WKeep w (w.alloc (.cells #[x] 106)) (fun b=>∃ i,F i b):=WKeep.push w _ _
 refine⟨_,_,fr,⟨_,_,[],H,an,F,rfl,⟨rfl,rfl⟩,hk,Xaj.Le.refl _,fun z o hz=>?_,fun b o hb=>.inl hb,Anc.Le.refl _,hanc,fun i c hc=>?_,fun i b hb=>?_,hdj,Den.bool _⟩,g2,g3,g4⟩
 ·have h3:=hmod z o hz
  refine (hk.block z (Array.getElem?_eq_some_iff.1 h3).1 fun ⟨i,hi⟩=>?_).trans h3
  rw[(hF i z hi).2.2] at hz;cases hz
 ·simp at hc
 ·obtain⟨k1,k2,k3⟩:=hF i b hb
  exact⟨k1,Nat.lt_of_lt_of_le k2 hk.size,k3,.inr ⟨i,hb⟩⟩
theorem Wvs {e:Int} (h:e≠0):Xtb e=.one (.d (Wvp (some e))):=by simp only[Xtb,if_neg h];rfl
theorem Wvt (h:Env18 gp ua) (e:Int) (he:e≠0):Xao QP gp 33 [Xtb e] (vi e):=by
 have c1:=W2i h e
 have c2:=Wvq h.e.e (some e)
 obtain⟨T,fz,hg⟩:=h.g
 rw[Wvs he]
 refine Wlw ?_
 simp only[go_sem]
 repeat' first|refine Kn rfl ?_|((first|refine Kw ?_|refine Kv ?_);simp only[go_sem])|refine Kf ?_|refine⟨_,c1,Kg ?_⟩|refine⟨_,⟨c1,rfl⟩,Kg ?_⟩|refine⟨#[cE ua],T,fz,[.raw (cE ua)],⟨hg,rfl,Nat.le_refl _⟩,Kg ?_⟩|(refine And.intro (fun _=>?_) (fun _=>?_) <;> try (exfalso;omega))
 refine Or.inr ⟨[0],vb true,[.cells [.d (.int .i64 e)]],(by simp only[Xa1,go_sem];exact⟨by kernel_rfl,c2⟩),Kg ?_⟩
 simp only[go_sem]
 repeat' first|refine Kn rfl ?_|((first|refine Kw ?_|refine Kv ?_);simp only[go_sem])|refine Kf ?_|(refine And.intro (fun _=>?_) (fun _=>?_) <;> try (exfalso;omega))
end Go.Fw.L07
