/- Chapter 7,part 11: errors.As at errors of the program's own make: a nil error; one that is the target's own. (Turned from the kit's worked proof ToyasAs.) -/
import Derived.Test.YtakgmpkfpkmkaaaGreatDoorLb
import Derived.WalkKit
import Derived.LaidEql
import Derived.Stop.Asserts
import Derived.RowKitTokens
import Derived.Lib.MinMaxS
set_option linter.all false
namespace Go.Fw.L07
open Go Go.Proofs Go.RowKit Go.Extern.Stop Go.Stop Go.Extern
theorem Yfu:Tryz.f68.ntmps=42:=by kernel_rfl
theorem W64 (t:Value) (w:World) :
  Calls Tryz.prog 68 #[.nilIface,t] w fun e w'=>e=.returned (.bool false)/\w'=w:=by
 go_enter Tryz.func68,Yfu
 go_wp2
 go_ret
 exact⟨rfl,rfl⟩
theorem X2h (t:Addr) (w:World):(ReflectliteValue.unpack (.iface 176 (.pointer (some t)))).run Tryz.prog w
  = .ok (.agg #[.pointer (some ⟨7,176,none⟩),.pointer (some ⟨w.heap.size,0,none⟩),.int .u64 150]) (w.alloc (.cells #[.pointer (some t)] 176)):=by kernel_rfl
theorem Wny (a : Addr) (w : World) : (ReflectliteValue.methodAny (ReflectliteValue.valueError "reflectlite.Value.Type" 0) (fun t _ _ _ => ReflectliteType.toType t) #[.agg #[.pointer (some ⟨7, 176, none⟩), .pointer (some a), .int .u64 150]]).run Tryz.prog w
  = .ok (.iface 208 (.agg #[.pointer (some ⟨7,176,none⟩)])) w:=by kernel_rfl
theorem Wnz (h : Value) (w : World) : (Go.method 415 208 (.agg #[h]) "Kind").run Tryz.prog w = .ok (223, h) w := by kernel_rfl
theorem Wn0 (w:World):((ReflectliteType.abiMethod fun t=>(fun a:Nat=>Value.int IntKind.u8 (a:Int)) <$> Rtype.kind t) #[.pointer (some ⟨7,176,none⟩)]).run Tryz.prog w=.ok (.int .u8 22) w:=by kernel_rfl
theorem Wn1 (w:World):((ReflectliteType.abiMethod fun t=>(fun a:Nat=>Value.int IntKind.u8 (a:Int)) <$> Rtype.kind t) #[.pointer (some ⟨7,175,none⟩)]).run Tryz.prog w=.ok (.int .u8 25) w:=by kernel_rfl
theorem W65 (z:Sem Value) (f:TypeId->Addr->Nat->Nat->Sem Value) (v:Value) :
  ReflectliteValue.method z f #[v]=(do match <- ReflectliteValue.parts v with|none=>z|some (t,a,fl)=>f t a fl (fl % 32)):=rfl
theorem Xy5 (a:Addr) (w:World):(ReflectliteValue.parts (.agg #[.pointer (some ⟨7,176,none⟩),.pointer (some a),.int .u64 150])).run Tryz.prog w=.ok (some (176,a,150)) w:=by kernel_rfl
theorem Y39:Tryz.prog.underlying 176=some (.pointer 175):=by kernel_rfl
theorem Wn2 (a p:Addr) (W:World) (ha:W.cell? a=some (.pointer (some p))) :
  (ReflectliteValue.method (ReflectliteValue.valueError "reflectlite.Value.IsNil" 0) ReflectliteValue.isNil #[.agg #[.pointer (some ⟨7, 176, none⟩), .pointer (some a), .int .u64 150]]).run Tryz.prog W = .ok (.bool false) W := by
 rw[W65]
 simp only[Sem.run_bind,Xy5,Result.andThen]
 simp[ReflectliteValue.isNil,loadVar,isAgg,underlying,Y39,ha,Result.andThen]
theorem Wn3 (h : Value) (w : World) : (Go.method 415 208 (.agg #[h]) "Elem").run Tryz.prog w = .ok (237, .agg #[h]) w := by kernel_rfl
theorem Wn4 (h : Value) (w : World) : (Go.method 415 208 (.agg #[h]) "Implements").run Tryz.prog w = .ok (238, .agg #[h]) w := by kernel_rfl
theorem Yfv (h : Value) (w : World) : (Go.method 415 208 (.agg #[h]) "AssignableTo").run Tryz.prog w = .ok (235, .agg #[h]) w := by kernel_rfl
theorem Wn5 (w:World):(ReflectliteType.method ReflectliteType.elem #[.agg #[.pointer (some ⟨7,176,none⟩)]]).run Tryz.prog w=.ok (.iface 208 (.agg #[.pointer (some ⟨7,175,none⟩)])) w:=by kernel_rfl
theorem Wn6 (w : World) : (ReflectliteType.relation "Implements" ReflectliteType.implements_ #[.agg #[.pointer (some ⟨7, 175, none⟩)], .iface 208 (.agg #[.pointer (some ⟨7, 58, none⟩)])]).run Tryz.prog w = .ok (.bool true) w := by kernel_rfl
theorem Yfw (v:Value) (w:World):(ReflectliteType.typeOf #[.iface 175 v]).run Tryz.prog w=.ok (.iface 208 (.agg #[.pointer (some ⟨7,175,none⟩)])) w:=by kernel_rfl
theorem Yfx (w : World) : (ReflectliteType.relation "AssignableTo" ReflectliteType.assignableTo #[.agg #[.pointer (some ⟨7, 175, none⟩)], .iface 208 (.agg #[.pointer (some ⟨7, 175, none⟩)])]).run Tryz.prog w = .ok (.bool true) w := by kernel_rfl
theorem X2i (x y:Value) (w:World):(ReflectliteValue.unpack (.iface 175 (.agg #[x,y]))).run Tryz.prog w
  = .ok (.agg #[.pointer (some ⟨7,175,none⟩),.pointer (some ⟨w.heap.size,0,none⟩),.int .u64 153]) (w.alloc (.cells #[x,y] 175)):=by kernel_rfl
theorem Yuk (w:World):(Rtype.elem? 176).run Tryz.prog w=.ok (some 175) w:=by kernel_rfl
theorem Xdm (W:World) (o:Obj) {b:Nat} (h:b < W.heap.size):(W.alloc o).heap[b]?=W.heap[b]?:=by
 simp only[World.alloc,Array.getElem?_push]
 rw[if_neg (by omega)]
theorem Jjl (p:Addr) (w:World):(ReflectliteValue.mk 175 p ReflectliteValue.flagAddr).run Tryz.prog w=.ok (.agg #[.pointer (some ⟨7,175,none⟩),.pointer (some p),.int .u64 409]) w:=by kernel_rfl
theorem Wn7 (a p:Addr) (W:World) (ha:W.cell? a=some (.pointer (some p))) :
  (ReflectliteValue.method (ReflectliteValue.valueError "reflectlite.Value.Elem" 0) ReflectliteValue.elem #[.agg #[.pointer (some ⟨7, 176, none⟩), .pointer (some a), .int .u64 150]]).run Tryz.prog W
   = .ok (.agg #[.pointer (some ⟨7,175,none⟩),.pointer (some p),.int .u64 409]) W:=by
 rw[W65]
 simp only[Sem.run_bind,Xy5,Result.andThen]
 simp[ReflectliteValue.elem,loadVar,isAgg,underlying,Y39,ha,Result.andThen,Yuk,Jjl]
theorem Jgt (v x:Value):ReflectliteValue.set #[v,x]=(do
  let (some (dst,a,fl),some (src,b,_)):=(<- ReflectliteValue.parts v,<- ReflectliteValue.parts x)
   | unsupported (.noEntry "extern/(internal/reflectlite.Value).Set.zeroValue")
  if fl / ReflectliteValue.flagAddr % 2 == 0 then unsupported (.noEntry "extern/(internal/reflectlite.Value).Set.unaddressable")
  let val <- loadVar src b
  if <- Rtype.directlyAssignable dst src then storeVar dst a val
  else if <- Rtype.implements dst src then
   if (<- Rtype.kind src)==20 then
    match val with
    | .nilIface => unsupported (.noEntry "extern/reflectlite: a nil value of one interface type handed on as a value of another")
    | _=>storeVar dst a val
   else storeVar dst a (.iface src val)
  else panicString ("reflectlite.Set: value of type " ++ (<- Rtype.spelt src) ++ " is not assignable to type " ++ (<- Rtype.spelt dst))
  pure (.tuple #[])):=rfl
theorem Yfy (a:Addr) (w:World):(ReflectliteValue.parts (.agg #[.pointer (some ⟨7,175,none⟩),.pointer (some a),.int .u64 409])).run Tryz.prog w=.ok (some (175,a,409)) w:=by kernel_rfl
theorem Yul (a:Addr) (w:World):(ReflectliteValue.parts (.agg #[.pointer (some ⟨7,175,none⟩),.pointer (some a),.int .u64 153])).run Tryz.prog w=.ok (some (175,a,153)) w:=by kernel_rfl
theorem Yum (w:World):(Rtype.directlyAssignable 175 175).run Tryz.prog w=.ok true w:=by kernel_rfl
theorem Jiz:Fw.szOf Tryz.prog 175=some 2:=by kernel_rfl
theorem W66:Fw.isAggB Tryz.prog 175=true:=by kernel_rfl
theorem Jgu (tb b:Nat) (x y p q:Value) (T:TypeId) (W:World) (hx:x.oneCell'=true) (hy:y.oneCell'=true) (hb:W.cell? ⟨b,0,none⟩=some x) (hb1:W.cell? ⟨b,1,none⟩=some y) (ht:W.heap[tb]?=some (.cells #[p,q] T (0,0))) :
  ∃ W',(ReflectliteValue.set #[.agg #[.pointer (some ⟨7,175,none⟩),.pointer (some ⟨tb,0,none⟩),.int .u64 409],.agg #[.pointer (some ⟨7,175,none⟩),.pointer (some ⟨b,0,none⟩),.int .u64 153]]).run Tryz.prog W=.ok (.tuple #[]) W' /\
   Fw.WKeep W W' (fun z=>z=tb)/\W'.heap[tb]?=some (.cells #[x,y] T (0,0)):=by
 have hl:=Fw.run_loadVar' (P:=Tryz.prog) (w:=W) Jiz (.inl W66) b 0 [x,y] rfl (fun j v hv=>by
  match j,hv with
  | 0,hv=>simp at hv;subst hv;exact hb
  | 1,hv=>simp at hv;subst hv;exact hb1
  | j+2,hv=>simp at hv)
 rw[if_pos W66] at hl
 obtain⟨W',hs,hk,hh⟩:=Fw.run_storeVar' (P:=Tryz.prog) (w:=W) Jiz tb 0 (.agg #[x,y]) [x,y] [p,q] T rfl rfl (by simp[hx,hy]) ht (by simp)
 refine⟨W',?_,hk,by simpa using hh⟩
 rw[Jgt]
 simp only[Sem.run_bind,Yfy,Yul,Result.andThen]
 simp[ReflectliteValue.flagAddr,hl,Yum,Result.andThen,hs]
set_option maxHeartbeats 4000000 in
set_option maxRecDepth 1000000 in
theorem W67 (tb:Nat) (x y p q:Value) (T:TypeId) (w:World) (hx:x.oneCell'=true) (hy:y.oneCell'=true) (hg:w.cell? ⟨0,0,none⟩=some (.iface 208 (.agg #[.pointer (some ⟨7,58,none⟩)])))
  (ht0:w.heap[tb]?=some (.cells #[p,q] T (0,0))) :
  Calls Tryz.prog 68 #[.iface 175 (.agg #[x,y]),.iface 176 (.pointer (some ⟨tb,0,none⟩))] w fun ev w'=>ev=.returned (.bool true)/\Fw.WKeep w w' (fun z=>z=tb)/\w'.heap[tb]?=some (.cells #[x,y] T (0,0)):=by
 have h6:=@run_callFunc_extern Tryz.prog 103 _ (fun args=>ReflectliteValue.unpack (args.getD 0 (.tuple #[]))) Tryz.func103 (by kernel_rfl) (by kernel_rfl) (by kernel_rfl) (by kernel_rfl)
 have h7 := @run_callFunc_extern Tryz.prog 104 _ (ReflectliteValue.methodAny (ReflectliteValue.valueError "reflectlite.Value.Type" 0) (fun t _ _ _ => ReflectliteType.toType t)) Tryz.func104 (by kernel_rfl) (by kernel_rfl) (by kernel_rfl) (by kernel_rfl)
 have h8 := @run_callFunc_extern Tryz.prog 105 _ (ReflectliteValue.method (ReflectliteValue.valueError "reflectlite.Value.IsNil" 0) ReflectliteValue.isNil) Tryz.func105 (by kernel_rfl) (by kernel_rfl) (by kernel_rfl) (by kernel_rfl)
 have h27:=@run_callFunc_extern Tryz.prog 223 _ (ReflectliteType.abiMethod fun t=>do pure (.int .u8 (<- Rtype.kind t))) Tryz.func223 (by kernel_rfl) (by kernel_rfl) (by kernel_rfl) (by kernel_rfl)
 have h37:=@run_callFunc_extern Tryz.prog 237 _ (ReflectliteType.method ReflectliteType.elem) Tryz.func237 (by kernel_rfl) (by kernel_rfl) (by kernel_rfl) (by kernel_rfl)
 have h38 := @run_callFunc_extern Tryz.prog 238 _ (ReflectliteType.relation "Implements" ReflectliteType.implements_) Tryz.func238 (by kernel_rfl) (by kernel_rfl) (by kernel_rfl) (by kernel_rfl)
 have h10:=@run_callFunc_extern Tryz.prog 138 _ ReflectliteType.typeOf Tryz.func138 (by kernel_rfl) (by kernel_rfl) (by kernel_rfl) (by kernel_rfl)
 have h35 := @run_callFunc_extern Tryz.prog 235 _ (ReflectliteType.relation "AssignableTo" ReflectliteType.assignableTo) Tryz.func235 (by kernel_rfl) (by kernel_rfl) (by kernel_rfl) (by kernel_rfl)
 have h11 := @run_callFunc_extern Tryz.prog 139 _ (ReflectliteValue.method (ReflectliteValue.valueError "reflectlite.Value.Elem" 0) ReflectliteValue.elem) Tryz.func139 (by kernel_rfl) (by kernel_rfl) (by kernel_rfl) (by kernel_rfl)
 have h12:=@run_callFunc_extern Tryz.prog 140 _ ReflectliteValue.set Tryz.func140 (by kernel_rfl) (by kernel_rfl) (by kernel_rfl) (by kernel_rfl)
 have tO:=Yfw
 have mA:=Yfv
 have a25:=Yfx
 have v25:=X2i
 have f6:=X2h
 have f7:=Wny
 have mK:=Wnz
 have mE:=Wn3
 have mI:=Wn4
 have k27:=Wn0
 have k25:=Wn1
 have e27:=Wn5
 have i25:=Wn6
 have n8:=Wn2 ⟨w.heap.size,0,none⟩ ⟨tb,0,none⟩ ((w.alloc (.cells #[.pointer (some ⟨tb,0,none⟩)] 176)).alloc (.cells #[.pointer (some ⟨7,176,none⟩),.pointer (some ⟨w.heap.size,0,none⟩),.int .u64 150] 165)) (by simp)
 have hlt:0 < w.heap.size:=by
  rcases Nat.lt_or_ge 0 w.heap.size with h|h
  ·exact h
  ·simp[World.cell?,Array.getElem?_eq_none h] at hg
 have hg2:((w.alloc (.cells #[.pointer (some ⟨tb,0,none⟩)] 176)).alloc (.cells #[.pointer (some ⟨7,176,none⟩),.pointer (some ⟨w.heap.size,0,none⟩),.int .u64 150] 165)).cell? ⟨0,0,none⟩=some (.iface 208 (.agg #[.pointer (some ⟨7,58,none⟩)])):=by
  rw[World.cell?_alloc_lt _ _ ⟨0,0,none⟩ (by first|(simp;omega)|simp),World.cell?_alloc_lt _ _ ⟨0,0,none⟩ hlt];exact hg
 have htl:tb < w.heap.size:=(Array.getElem?_eq_some_iff.1 ht0).1
 have el:=Wn7 ⟨w.heap.size,0,none⟩ ⟨tb,0,none⟩ (((w.alloc (.cells #[.pointer (some ⟨tb,0,none⟩)] 176)).alloc (.cells #[.pointer (some ⟨7,176,none⟩),.pointer (some ⟨w.heap.size,0,none⟩),.int .u64 150] 165)).alloc (.cells #[.pointer (some ⟨7,176,none⟩),.pointer (some ⟨w.heap.size,0,none⟩),.int .u64 150] 165)) (by rw[World.cell?_alloc_lt _ _ ⟨w.heap.size,0,none⟩ (by simp;omega)];simp)
 obtain⟨W',st,hk,hh⟩:=Jgu tb (w.heap.size+1+1+1) x y p q T ((((w.alloc (.cells #[.pointer (some ⟨tb,0,none⟩)] 176)).alloc (.cells #[.pointer (some ⟨7,176,none⟩),.pointer (some ⟨w.heap.size,0,none⟩),.int .u64 150] 165)).alloc (.cells #[.pointer (some ⟨7,176,none⟩),.pointer (some ⟨w.heap.size,0,none⟩),.int .u64 150] 165)).alloc (.cells #[x,y] 175)) hx hy
  (by rw[World.cell?_alloc_at _ _ _ _ (by simp)];try rfl)
  (by rw[World.cell?_alloc_at _ _ _ _ (by simp)];try rfl)
  (by rw[Xdm _ _ (by simp;omega),Xdm _ _ (by simp;omega),Xdm _ _ (by simp;omega),Xdm _ _ htl];exact ht0)
 go_enter Tryz.func68,Yfu
 go_wp2
 refine wp_loop_rounds 1 ?_
 rw[rounds_succ]
 go_wp2
 go_ret
 refine⟨rfl,?_,hh⟩
 exact⟨hk.os,hk.tape,hk.output,by have:=hk.size;simp at this;omega,fun b hb hn=>by
  rw[hk.block b (by simp;omega) hn]
  rw[Xdm _ _ (by simp;omega),Xdm _ _ (by simp;omega),Xdm _ _ (by simp;omega),Xdm _ _ hb]⟩
open Go.Fw
def W68 (gp:Heap):Prop:=∀ H w,Heap.Le gp H->Xci w H->w.cell? ⟨0,0,none⟩=some (.iface 208 (.agg #[.pointer (some ⟨7,58,none⟩)]))
theorem Jgv {gp:Heap} (hE:W68 gp):Jix gp:=by
 intro e H w an F us hgp hmod hanc hown hF hdj hargs
 obtain⟨u1,u2,rfl,h1,h2⟩:∃ u1 u2,us=[u1,u2]/\Den H (Jiw e) u1/\Xb0 H an (.ifo 176 (.ptr 0 0)) u2:=by
  match us,hargs with
  | [u1,u2],h=>exact⟨u1,u2,rfl,h.1,h.2.1⟩
 obtain⟨pv,rfl,b,rfl,p,hp,hpb⟩:=h2
 obtain⟨q,hq,h0,b',T,vs,hqv,hFb,hheap,hden⟩:=hown 0 _ rfl
 rw[hp] at hq;cases hq
 have hbb:b=b':=hpb b' hqv
 subst hbb
 obtain⟨x0,y0,rfl,hx0,hy0⟩:∃ x y,vs=[x,y]/\Den H (.int .i64 0) x/\Den H (.int .i64 0) y:=by
  match vs,hden with
  | [x,y],h=>exact⟨x,y,rfl,h.1,h.2.1⟩
 cases e with
 | none =>
  cases h1
  intro cs
  obtain⟨e,w',fr,⟨rfl,rfl⟩,g2,g3,g4⟩:=W64 (.iface 176 (.pointer (some ⟨b,0,none⟩))) w cs
  refine⟨_,w',fr,⟨_,_,_,H,an,F,rfl,⟨rfl,rfl⟩,WKeep.refl _ _,Heap.Le.refl _,hmod,fun b o hb=>.inl hb,Anc.Le.refl _,hanc,hown,fun i b hb=>?_,hdj,Den.bool _⟩,g2,g3,g4⟩
  obtain⟨k1,k2,k3⟩:=hF i b hb
  exact⟨k1,k2,k3,.inr ⟨i,hb⟩⟩
 | some e =>
  obtain⟨a,ee⟩:=e
  obtain⟨x,y,rfl,hx,hy⟩:∃ x y,u1=.iface 175 (.agg #[x,y])/\Den H (.int .i64 a) x/\Den H (.int .i64 ee) y:=by
   cases h1 with
   | ifcA t cs vs hlen hd =>
    match vs,hlen,hd with
    | [x,y],_,hd=>exact⟨x,y,rfl,hd 0 _ _ rfl rfl,hd 1 _ _ rfl rfl⟩
  intro cs
  obtain⟨e,w',fr,⟨rfl,hk,hh⟩,g2,g3,g4⟩:=W67 b x y x0 y0 T w hx.oneCell hy.oneCell (hE H w hgp hmod) hheap cs
  have hFall:∀ i z,F i z->z=b:=fun i z hz=>by
   have hi:=(hF i z hz).1
   have:i=0:=by simp at hi;exact hi
   subst this
   exact (hFb z).1 hz
  refine⟨_,w',fr,⟨_,_,_,H,an,F,rfl,⟨rfl,rfl⟩,hk.mono fun z hz=>⟨0,(hFb z).2 hz⟩,Heap.Le.refl _,fun z o hz=>?_,fun b o hb=>.inl hb,Anc.Le.refl _,hanc,fun i c hc=>?_,fun i z hz=>?_,hdj,Den.bool _⟩,g2,g3,g4⟩
  ·have h3:=hmod z o hz
   refine (hk.block z (Array.getElem?_eq_some_iff.1 h3).1 fun e=>?_).trans h3
   subst e
   have:=(hF 0 z ((hFb z).2 rfl)).2.2
   rw[this] at hz;cases hz
  ·match i,hc with
   | 0,hc =>
    cases hc
    exact⟨p,hp,h0,b,T,[x,y],hqv,hFb,hh,hx,hy,trivial⟩
  ·obtain⟨k1,k2,k3⟩:=hF i z hz
   exact⟨k1,Nat.lt_of_lt_of_le k2 hk.size,k3,.inr ⟨i,hz⟩⟩
end Go.Fw.L07
namespace Go.Fw.L07
open Go Go.Fw
open List renaming getElem?_eq_some_iff->Kr
open Go.Proofs.Tryz renaming prog->QP
set_option maxRecDepth 4000
variable {gp:Heap}
structure Env (gp:Heap):Prop where
 u:X2g gp
 e:W68 gp
abbrev chk (g:Gr):Option (Int × Int):=Xei Xas g
theorem W69 (h:Env gp) (g:Gr):Does QP gp 47 [g.v] (.tup [vi ((chk g).getD (0,0)).1,vi ((chk g).getD (0,0)).2]) :=
 Yuj Xas (Xlr h.u) (Jgv h.e) (by kernel_rfl) g
theorem Xjo {g:Gr} (h:chk g=none):g.l.length<=200/\(0<=g.root/\g.root < g.l.length)/\∀ x∈g.l,Xa6 Xas x g.l.length=true:=by
 unfold chk Xei at h
 split at h
 ·cases h
 ·split at h
  ·cases h
  ·rename_i h1 h2
   refine⟨by omega,Classical.not_not.1 h2,?_⟩
   cases e:g.l.findIdx? fun x=>!Xa6 Xas x g.l.length with
   | none =>
    rw[List.findIdx?_eq_none_iff] at e
    intro x hx;simpa using e x hx
   | some i=>rw[e] at h;cases h
theorem Y4a {g:Gr} (h1:g.l.length<=200) (h2:0<=g.root/\g.root < g.l.length) (h3:∀ x∈g.l,Xa6 Xas x g.l.length=true):chk g=none:=by
 unfold chk Xei
 rw[if_neg (by omega),if_neg (Classical.not_not.2 h2),List.findIdx?_eq_none_iff.2 fun x hx=>by simp[h3 x hx]]
 rfl
theorem Yun {g:Gr} (h:chk g≠none):∃ a e,chk g=some (a,e)/\e≠0:=by
 unfold chk Xei at h ⊢
 split
 ·exact⟨_,_,rfl,by decide⟩
 ·split
  ·exact⟨_,_,rfl,by decide⟩
  ·cases e:g.l.findIdx? fun x=>!Xa6 Xas x g.l.length with
   | none=>rename_i h1 h2;rw[if_neg h1,if_neg h2,e] at h;exact absurd rfl h
   | some i=>exact⟨_,_,rfl,by decide⟩
def ltL (a b:List UInt8):Prop:=Op.bytesLess a b=true
theorem Yfz:∀ a:List UInt8,¬ ltL a a
 | []=>by simp[ltL,Op.bytesLess]
 | a::l=>by
  have:=Yfz l
  simp only[ltL] at this ⊢
  simp[Op.bytesLess,this]
theorem Xrd:∀ {a b c:List UInt8},ltL a b->ltL b c->ltL a c
 | [],[],_,h,_=>absurd h (by simp[ltL,Op.bytesLess])
 | [],_::_,[],_,h=>absurd h (by simp[ltL,Op.bytesLess])
 | [],_::_,_::_,_,_=>by simp[ltL,Op.bytesLess]
 | _::_,[],_,h,_=>absurd h (by simp[ltL,Op.bytesLess])
 | _::_,_::_,[],_,h=>absurd h (by simp[ltL,Op.bytesLess])
 | a::x,b::y,c::z,h,k=>by
  simp only[ltL,Op.bytesLess,Bool.or_eq_true,decide_eq_true_eq,Bool.and_eq_true,beq_iff_eq] at h k ⊢
  rcases h with h|⟨rfl,h⟩
  ·rcases k with k|⟨rfl,_⟩
   ·exact .inl (UInt8.lt_trans h k)
   ·exact .inl h
  ·rcases k with k|⟨rfl,k⟩
   ·exact .inl k
   ·exact .inr ⟨rfl,Xrd (a:=x) h k⟩
theorem Yf0:∀ a b:List UInt8,ltL a b\/a=b\/ltL b a
 | [],[]=>.inr (.inl rfl)
 | [],_::_=>.inl (by simp[ltL,Op.bytesLess])
 | _::_,[]=>.inr (.inr (by simp[ltL,Op.bytesLess]))
 | a::x,b::y=>by
  simp only[ltL,Op.bytesLess,Bool.or_eq_true,decide_eq_true_eq,Bool.and_eq_true,beq_iff_eq]
  rcases UInt8.lt_or_lt_of_ne (a:=a) (b:=b) |> (fun f=>if h:a=b then Or.inr h else Or.inl (f h)) with h|rfl
  ·rcases h with h|h
   ·exact .inl (.inl h)
   ·exact .inr (.inr (.inl h))
  ·rcases Yf0 x y with h|rfl|h
   ·exact .inl (.inr ⟨rfl,h⟩)
   ·exact .inr (.inl rfl)
   ·exact .inr (.inr (.inr ⟨rfl,h⟩))
theorem toList_inj {a b:ByteArray} (h:a.toList=b.toList):a=b:=by
 rw[Lib.toList_data,Lib.toList_data] at h
 cases a;cases b
 simp only[ByteArray.mk.injEq]
 exact Array.toList_inj.1 h
def lex (x y:Sc):Prop:=x.k < y.k\/(x.k=y.k/\(x.n < y.n\/(x.n=y.n/\ltL x.s.toList y.s.toList)))
theorem Xo2 (x:Sc):¬ lex x x:=by
 have:=Yfz x.s.toList
 unfold lex;simp only[true_and,not_or,Int.lt_irrefl,not_false_eq_true];exact this
theorem Xh9 {x y z:Sc} (h:lex x y) (k:lex y z):lex x z:=by
 unfold lex at *
 rcases h with h|⟨h1,h|⟨h2,h⟩⟩ <;> rcases k with k|⟨k1,k|⟨k2,k⟩⟩
 all_goals first
  | exact .inl (by omega)
  | exact .inr ⟨by omega,.inl (by omega)⟩
  | exact .inr ⟨by omega,.inr ⟨by omega,Xrd h k⟩⟩
theorem Xth (x y:Sc):lex x y\/x=y\/lex y x:=by
 unfold lex
 rcases Int.lt_trichotomy x.k y.k with h|h|h
 ·exact .inl (.inl h)
 ·rcases Int.lt_trichotomy x.n y.n with h2|h2|h2
  ·exact .inl (.inr ⟨h,.inl h2⟩)
  ·rcases Yf0 x.s.toList y.s.toList with h3|h3|h3
   ·exact .inl (.inr ⟨h,.inr ⟨h2,h3⟩⟩)
   ·refine .inr (.inl ?_)
    have:=toList_inj h3
    cases x;cases y
    simp_all
   ·exact .inr (.inr (.inr ⟨h.symm,.inr ⟨h2.symm,h3⟩⟩))
  ·exact .inr (.inr (.inr ⟨h.symm,.inl h2⟩))
 ·exact .inr (.inr (.inl h))
theorem Xy6 (a b:Int):Y3y a b < 0↔a < b:=by unfold Y3y;grind
theorem Xre (a b:Int):Y3y a b=0↔a=b:=by unfold Y3y;grind
theorem Yuo (a b:ByteArray):W6u a b < 0↔ltL a.toList b.toList:=by unfold W6u ltL;grind
theorem Yf1 (a b c:Int):orI [a,b,c]=if a=0 then (if b=0 then c else b) else a:=by
 unfold orI
 cases ea:(a==(0:Int)) <;> cases eb:(b==(0:Int)) <;> cases ec:(c==(0:Int)) <;> simp only[List.find?,bne,ea,eb,ec,Bool.not_true,Bool.not_false,Option.getD_some,Option.getD_none] <;> simp only[beq_eq_false_iff_ne,beq_iff_eq,ne_eq] at ea eb ec <;> simp[ea,eb,ec]
theorem Xls (x y:Sc):Xtd x y < 0↔lex x y:=by
 unfold Xtd
 split
 ·rename_i h;subst h
  exact⟨fun h=>absurd h (by decide),fun h=>absurd h (Xo2 x)⟩
 ·rw[Yf1]
  have k1:=Xy6 x.k y.k
  have k2:=Xre x.k y.k
  have n1:=Xy6 x.n y.n
  have n2:=Xre x.n y.n
  have s1:=Yuo x.s y.s
  unfold lex
  split
  ·rename_i h;have hk:=k2.1 h
   split
   ·rename_i h2;have hn:=n2.1 h2
    rw[s1]
    exact⟨fun h=>.inr ⟨hk,.inr ⟨hn,h⟩⟩,fun h=>by rcases h with h|⟨_,h|⟨_,h⟩⟩ <;> first|omega|exact h⟩
   ·rename_i h2
    rw[n1]
    exact⟨fun h=>.inr ⟨hk,.inl h⟩,fun h=>by rcases h with h|⟨_,h|⟨h,_⟩⟩ <;> first|omega|exact absurd (n2.2 h) h2⟩
  ·rename_i h
   rw[k1]
   exact⟨fun h=>.inl h,fun h1=>by rcases h1 with h1|⟨h1,_⟩ <;> first|exact h1|exact absurd (k2.2 h1) h⟩
abbrev le1 (a b:Pr):Prop:=¬ lex b.key a.key
theorem Yf2 {a b c:Pr} (h:le1 a b) (k:le1 b c):le1 a c:=by
 intro hl
 rcases Xth b.key a.key with e|e|e
 ·exact h e
 ·exact k (e ▸ hl)
 ·exact k (Xh9 hl e)
theorem Xlt (x:Pr) (p:List Pr):∀ j,j<=p.length->∃ i,i<=j/\Xps Xe4 x p j=p.take i++x::p.drop i/\(∀ y,y∈(p.take j).drop i->lex x.key y.key)/\(∀ m y,i=m+1->p[m]?=some y->¬ lex x.key y.key)
 | 0,_=>⟨0,Nat.le_refl _,by simp[Xps],by simp,fun m y h=>by omega⟩
 | j+1,h=>by
  obtain⟨y,hy⟩:=Xaf (l:=p) (i:=j) (by omega)
  by_cases hc:Xe4 x y < 0
  ·obtain⟨i,h1,h2,h3,h4⟩:=Xlt x p j (by omega)
   refine⟨i,by omega,by rw[Yfm hy hc,h2],fun z hz=>?_,h4⟩
   rw[List.take_succ,hy] at hz
   simp only[Option.toList_some] at hz
   rw[List.drop_append_of_le_length (by simp;omega)] at hz
   rcases List.mem_append.1 hz with hz|hz
   ·exact h3 z hz
   ·simp only[List.mem_singleton] at hz
    subst hz
    exact (Xls _ _).1 hc
  ·refine⟨j+1,Nat.le_refl _,Xrc hy hc,fun z hz=>?_,fun m z hm hz=>?_⟩
   ·rw[List.drop_take_self] at hz
    cases hz
   ·obtain rfl:m=j:=by omega
    rw[hy] at hz;cases hz
    exact fun k=>hc ((Xls _ _).2 k)
theorem X2j {x:Pr} {p:List Pr} (hp:p.Pairwise le1):(Xps Xe4 x p p.length).Pairwise le1/\(Xps Xe4 x p p.length).Perm (x::p):=by
 obtain⟨i,h1,h2,h3,h4⟩:=Xlt x p p.length (Nat.le_refl _)
 rw[List.take_of_length_le (Nat.le_refl _)] at h3
 rw[h2]
 have hsplit:p=p.take i++p.drop i:=(List.take_append_drop i p).symm
 have hpp:=hp
 rw[hsplit,List.pairwise_append] at hpp
 obtain⟨q1,q2,q3⟩:=hpp
 constructor
 ·rw[List.pairwise_append]
  refine⟨q1,List.pairwise_cons.2 ⟨fun y hy=>fun k=>Xo2 _ (Xh9 k (h3 y hy)),q2⟩,fun a ha b hb=>?_⟩
  have hax:le1 a x:=by
   cases i with
   | zero=>simp at ha
   | succ m =>
    obtain⟨y,hy⟩:=Xaf (l:=p) (i:=m) (by omega)
    have hyx:le1 y x:=h4 m y rfl hy
    obtain⟨k,hk⟩:=List.mem_iff_getElem?.1 ha
    rw[List.getElem?_take] at hk
    split at hk
    ·rename_i hkm
     by_cases hkm2:k=m
     ·subst hkm2;rw[hy] at hk;cases hk;exact hyx
     ·have:=List.pairwise_iff_getElem.1 hp k m (Kr.1 hk).1 (Kr.1 hy).1 (by omega)
      rw[(Kr.1 hk).2,(Kr.1 hy).2] at this
      exact Yf2 this hyx
    ·cases hk
  rcases List.mem_cons.1 hb with rfl|hb
  ·exact hax
  ·exact q3 a ha b hb
 ·have:(p.take i++x::p.drop i).Perm (x::(p.take i++p.drop i)):=List.perm_middle
  rwa [List.take_append_drop] at this
theorem Xj4 (l:List Pr):∀ i,i<=l.length->(Xa5 Xe4 l i).Pairwise le1/\(Xa5 Xe4 l i).Perm (l.take i)
 | 0,_=>by simp[Xa5]
 | i+1,h=>by
  obtain⟨x,hx⟩:=Xaf (l:=l) (i:=i) (by omega)
  obtain⟨h1,h2⟩:=Xj4 l i (by omega)
  have hl:=Xdy (c:=Xe4) l i (by omega)
  have:=X2j (x:=x) h1
  rw[hl] at this
  simp only[Xa5,hx]
  refine⟨this.1,this.2.trans ?_⟩
  rw[List.take_succ,hx]
  exact (List.Perm.cons x h2).trans (by simpa using (List.perm_append_comm (l₁:=[x]) (l₂:=l.take i)))
theorem Xdv (l:List Pr):(srt l).Perm l:=by
 have:=(Xj4 l l.length (Nat.le_refl _)).2
 rwa [List.take_of_length_le (Nat.le_refl _)] at this
theorem W7a (l:List Pr):(srt l).Pairwise le1:=(Xj4 l l.length (Nat.le_refl _)).1
abbrev lt1 (a b:Pr):Prop:=lex a.key b.key
theorem Yf3 {l:List Pr} (h:(l.map Pr.key).Nodup):(srt l).Pairwise lt1:=by
 have h1:=W7a l
 have h2:((srt l).map Pr.key).Nodup:=((Xdv l).map Pr.key).nodup_iff.2 h
 rw[List.Nodup,List.pairwise_map] at h2
 exact (h1.and h2).imp fun {a b} ⟨x,y⟩=>by
  rcases Xth a.key b.key with e|e|e
  ·exact e
  ·exact absurd e y
  ·exact absurd e x
theorem Xrf:∀ {l m:List Pr},l.Pairwise lt1->m.Pairwise lt1->l.Perm m->l=m
 | [],m,_,_,h=>(List.nil_perm.1 h).symm
 | a::l,[],_,_,h=>absurd h.length_eq (by simp)
 | a::l,b::m,h1,h2,h=>by
  have ha:a∈b::m:=h.subset (by simp)
  have hb:b∈a::l:=h.symm.subset (by simp)
  have e:a=b:=by
   rcases List.mem_cons.1 ha with e|ha
   ·exact e
   ·rcases List.mem_cons.1 hb with e|hb
    ·exact e.symm
    ·exact absurd (Xh9 ((List.pairwise_cons.1 h1).1 b hb) ((List.pairwise_cons.1 h2).1 a ha)) (Xo2 _)
  subst e
  rw[Xrf (List.pairwise_cons.1 h1).2 (List.pairwise_cons.1 h2).2 ((List.perm_cons a).1 h)]
theorem Xo3 {l:List Nd} {i:Int} (h:0<=i/\i < l.length):Xbr l i∈l:=by
 unfold Xbr
 rw[if_pos h]
 have:i.toNat < l.length:=by omega
 rw[List.getElem?_eq_getElem this]
 exact List.getElem_mem this
theorem Xfp {l:List Nd} {i:Int} (h:¬ (0<=i/\i < l.length)):Xbr l i=Nd.zero:=by unfold Xbr;rw[if_neg h]
theorem Xgc {x:Nd} {n:Int} (h:Xa6 Xas x n=true) (hk:x.k=2):x.keys.length=x.kids.length/\x.keys.Nodup/\∀ j∈x.kids,0<=j/\j < n:=by
 unfold Xa6 at h
 rw[hk] at h
 simp[Ynt,Xra,Xcq] at h
 obtain⟨_,h1,⟨_,h2⟩,h3⟩:=h
 exact⟨h1,h2,fun j hj=>by simpa using h3 j hj⟩
theorem Yf4 {x:Nd} {n:Int} (h:Xa6 Xas x n=true) (hk:x.k=1):x.keys=[]/\∀ j∈x.kids,0<=j/\j < n:=by
 unfold Xa6 at h
 rw[hk] at h
 simp[Yfk,Xcq] at h
 obtain⟨_,h1,h3⟩:=h
 exact⟨h1,fun j hj=>by simpa using h3 j hj⟩
theorem Xgu {x:Nd} (h:x.keys.length=x.kids.length):(Xb5 x).map Pr.key=x.keys:=by
 unfold Xb5
 rw[List.map_zipWith]
 have:(fun a b=>(Pr.mk a b).key)=fun (a:Sc) (_:Int)=>a:=rfl
 rw[this]
 apply List.ext_getElem?
 intro i
 rw[List.getElem?_zipWith]
 cases ha:x.keys[i]? with
 | none=>rfl
 | some a =>
  have hi:=(Kr.1 ha).1
  obtain⟨b,hb⟩:=Xaf (l:=x.kids) (i:=i) (by omega)
  rw[hb]
theorem Xlu {x:Nd} {n:Int} (h:Xa6 Xas x n=true) (hk:x.k=0):x.keys=[]/\x.kids=[]:=by
 unfold Xa6 at h
 rw[if_pos hk] at h
 unfold Yns at h
 simp at h
 exact⟨h.2.1,h.2.2⟩
theorem Xiy {x:Nd} {n:Int} (h:Xa6 Xas x n=true):x.k=0\/x.k=1\/x.k=2:=by
 unfold Xa6 at h
 split at h
 ·exact .inl ‹_›
 ·split at h
  ·exact .inr (.inl ‹_›)
  ·split at h
   ·exact .inr (.inr ‹_›)
   ·cases h
theorem Yup {x:Nd} (h:x.keys.length=x.kids.length):(Xb5 x).map Pr.kid=x.kids:=by
 unfold Xb5
 rw[List.map_zipWith]
 apply List.ext_getElem?
 intro i
 rw[List.getElem?_zipWith]
 cases hb:x.kids[i]? with
 | none =>
  have:x.keys[i]?=none:=by
   rw[List.getElem?_eq_none_iff] at hb ⊢;omega
  rw[this]
 | some b =>
  have hi:=(Kr.1 hb).1
  obtain⟨a,ha⟩:=Xaf (l:=x.keys) (i:=i) (by omega)
  rw[ha]
theorem Xb3 {x:Nd} (hk:x.k=2) (hl:x.keys.length=x.kids.length):Xae x=srt (Xb5 x):=by unfold Xae;rw[if_pos ⟨hk,hl⟩]
theorem Xcr {x:Nd} (hk:x.k≠2):Xae x=[]:=by unfold Xae;rw[if_neg (fun h=>hk h.1)]
structure KidsOK (x:Nd) (n:Int):Prop where
 inn:∀ k∈Xan x,0<=k/\k < n
 len:(Xan x).length=x.kids.length
 keys2:x.k=2->(Xaq x).length=(Xan x).length
 keys0:x.k≠2->Xaq x=[]
 find:∀ (j:Nat) (key:Sc),(Xaq x)[j]?=some key->∃ kid,(Xan x)[j]?=some kid/\Y37 x key=(kid,true)
 up:∀ (j:Nat) (a b:Sc),(Xaq x)[j]?=some a->(Xaq x)[j+1]?=some b->Xtd a b < 0
theorem Yf5 {l:List Sc} {m:List Int} {key:Sc} {kid:Int} {j:Nat} (hn:l.Nodup) (h1:l[j]?=some key) (h2:m[j]?=some kid):Yfr l m key=(kid,true):=by
 unfold Yfr
 have hf:(List.zip l m).find? (fun p=>decide (p.1=key))=some (key,kid):=by
  have hz:(List.zip l m)[j]?=some (key,kid):=List.getElem?_zip_eq_some.2 ⟨h1,h2⟩
  obtain⟨hj,he⟩:=Kr.1 hz
  rw[List.find?_eq_some_iff_getElem]
  refine⟨by simp,j,hj,he,fun i hi=>?_⟩
  have hil:i < l.length:=by simp at hj;omega
  have hjl:=(Kr.1 h1)
  have:l[i]≠key:=by
   rw[<- hjl.2]
   exact fun e=>(List.pairwise_iff_getElem.1 hn i j hil hjl.1 hi) e
  simpa using this
 rw[hf]
theorem Xo4 {x:Nd} {n:Int} (h:Xa6 Xas x n=true):KidsOK x n:=by
 by_cases hk:x.k=2
 ·obtain⟨h1,h2,h3⟩:=Xgc h hk
  have hp:=Xb3 hk h1
  have hkids:Xan x=(srt (Xb5 x)).map Pr.kid:=by unfold Xan;rw[if_neg (by omega),hp]
  have hkeys:Xaq x=(srt (Xb5 x)).map Pr.key:=by unfold Xaq;rw[hp]
  have hlen:(srt (Xb5 x)).length=x.keys.length:=by rw[(Xdv _).length_eq];unfold Xb5;simp[<- h1]
  refine⟨?_,?_,?_,fun h=>absurd hk h,?_,?_⟩
  ·intro k hm
   rw[hkids,((Xdv (Xb5 x)).map Pr.kid).mem_iff,Yup h1] at hm
   exact h3 k hm
  ·rw[hkids,List.length_map,hlen,h1]
  ·intro _;rw[hkids,hkeys,List.length_map,List.length_map]
  ·intro j key hj
   rw[hkeys,List.getElem?_map] at hj
   cases hs:(srt (Xb5 x))[j]? with
   | none=>rw[hs] at hj;cases hj
   | some p =>
    rw[hs] at hj;cases hj
    refine⟨p.kid,by rw[hkids,List.getElem?_map,hs];rfl,?_⟩
    unfold Y37
    rw[if_pos hk]
    have hm:p∈Xb5 x:=(Xdv (Xb5 x)).mem_iff.1 (List.mem_of_getElem? hs)
    obtain⟨i,hi⟩:=List.mem_iff_getElem?.1 hm
    unfold Xb5 at hi
    rw[List.getElem?_zipWith] at hi
    cases ha:x.keys[i]? with
    | none=>rw[ha] at hi;cases hi
    | some a =>
     cases hb:x.kids[i]? with
     | none=>rw[ha,hb] at hi;cases hi
     | some b =>
      rw[ha,hb] at hi;cases hi
      exact Yf5 h2 ha hb
  ·intro j a b ha hb
   rw[hkeys,List.getElem?_map] at ha hb
   cases hs:(srt (Xb5 x))[j]? with
   | none=>rw[hs] at ha;cases ha
   | some p =>
    cases ht:(srt (Xb5 x))[j+1]? with
    | none=>rw[ht] at hb;cases hb
    | some q =>
     rw[hs] at ha;rw[ht] at hb;cases ha;cases hb
     have hlt:(srt (Xb5 x)).Pairwise lt1:=Yf3 (by rw[Xgu h1];exact h2)
     have h5:=Kr.1 hs
     have h6:=Kr.1 ht
     have:=List.pairwise_iff_getElem.1 hlt j (j+1) h5.1 h6.1 (by omega)
     rw[h5.2,h6.2] at this
     exact (Xls _ _).2 this
 ·have hkeys:Xaq x=[]:=by unfold Xaq;rw[Xcr hk];rfl
  have hkids:Xan x=x.kids/\∀ k∈x.kids,0<=k/\k < n:=by
   rcases Xiy h with h0|h1|h2
   ·have:=Xlu h h0
    unfold Xan
    rw[if_neg (by omega),Xcr hk,this.2]
    simp
   ·unfold Xan
    rw[if_pos h1]
    exact⟨rfl,(Yf4 h h1).2⟩
   ·exact absurd h2 hk
  refine⟨by rw[hkids.1];exact hkids.2,by rw[hkids.1],fun h=>absurd h hk,fun _=>hkeys,?_,?_⟩
  ·intro j key hj;rw[hkeys] at hj;simp at hj
  ·intro j a b ha;rw[hkeys] at ha;simp at ha
end Go.Fw.L07
