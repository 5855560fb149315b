/- Chapter 7,part 11: errors.As at errors of the program's own make: a nil error; one that is the target's own. (Turned from the kit's worked proof ToyasAs.) -/
import Derived.Test.YtejnfjophhnaeaaGreatDoorLb
import Derived.WalkKit
import Derived.LaidEql
import Derived.Stop.Asserts
import Derived.RowKitTokens
set_option linter.all false
namespace Go.Fw.L07
open Go Go.Proofs Go.RowKit Go.Extern.Stop Go.Stop Go.Extern
theorem X4b : Tryz.f87.ntmps = 42 := by kernel_rfl
theorem Y9q (t : Value) (w : World) :
  Calls Tryz.prog 87 #[.nilIface,t] w fun e w' => e = .returned (.bool false) /\ w' = w := by
 go_enter Tryz.func87,X4b
 go_wp2
 go_ret
 exact ⟨rfl,rfl⟩
theorem Xxj (t : Addr) (w : World) : (ReflectliteValue.unpack (.iface 156 (.pointer (some t)))).run Tryz.prog w
  = .ok (.agg #[.pointer (some ⟨7,156,none⟩),.pointer (some ⟨w.heap.size,0,none⟩),.int .u64 150]) (w.alloc (.cells #[.pointer (some t)] 156)) := by kernel_rfl
theorem Yv4 (a : Addr) (w : World) : (ReflectliteValue.methodAny (ReflectliteValue.valueError "reflectlite.Value.Type" 0) (fun t _ _ _ => ReflectliteType.toType t) #[.agg #[.pointer (some ⟨7, 156, none⟩), .pointer (some a), .int .u64 150]]).run Tryz.prog w
  = .ok (.iface 211 (.agg #[.pointer (some ⟨7,156,none⟩)])) w := by kernel_rfl
theorem Yv5 (h : Value) (w : World) : (Go.method 411 211 (.agg #[h]) "Kind").run Tryz.prog w = .ok (204, h) w := by kernel_rfl
theorem Yv6 (w : World) : ((ReflectliteType.abiMethod fun t => (fun a : Nat => Value.int IntKind.u8 (a : Int)) <$> Rtype.kind t) #[.pointer (some ⟨7,156,none⟩)]).run Tryz.prog w = .ok (.int .u8 22) w := by kernel_rfl
theorem Yv7 (w : World) : ((ReflectliteType.abiMethod fun t => (fun a : Nat => Value.int IntKind.u8 (a : Int)) <$> Rtype.kind t) #[.pointer (some ⟨7,155,none⟩)]).run Tryz.prog w = .ok (.int .u8 25) w := by kernel_rfl
theorem Y9r (z : Sem Value) (f : TypeId -> Addr -> Nat -> Nat -> Sem Value) (v : Value) :
  ReflectliteValue.method z f #[v] = (do match <- ReflectliteValue.parts v with | none => z | some (t,a,fl) => f t a fl (fl % 32)) := rfl
theorem Xun (a : Addr) (w : World) : (ReflectliteValue.parts (.agg #[.pointer (some ⟨7,156,none⟩),.pointer (some a),.int .u64 150])).run Tryz.prog w = .ok (some (156,a,150)) w := by kernel_rfl
theorem Yk4 : Tryz.prog.underlying 156 = some (.pointer 155) := by kernel_rfl
theorem Yv8 (a p : Addr) (W : World) (ha : W.cell? a = some (.pointer (some p))) :
  (ReflectliteValue.method (ReflectliteValue.valueError "reflectlite.Value.IsNil" 0) ReflectliteValue.isNil #[.agg #[.pointer (some ⟨7, 156, none⟩), .pointer (some a), .int .u64 150]]).run Tryz.prog W = .ok (.bool false) W := by
 rw [Y9r]
 simp only [Sem.run_bind,Xun,Result.andThen]
 simp [ReflectliteValue.isNil,loadVar,isAgg,underlying,Yk4,ha,Result.andThen]
theorem Yv9 (h : Value) (w : World) : (Go.method 411 211 (.agg #[h]) "Elem").run Tryz.prog w = .ok (216, .agg #[h]) w := by kernel_rfl
theorem Ywa (h : Value) (w : World) : (Go.method 411 211 (.agg #[h]) "Implements").run Tryz.prog w = .ok (217, .agg #[h]) w := by kernel_rfl
theorem X4c (h : Value) (w : World) : (Go.method 411 211 (.agg #[h]) "AssignableTo").run Tryz.prog w = .ok (214, .agg #[h]) w := by kernel_rfl
theorem Ywb (w : World) : (ReflectliteType.method ReflectliteType.elem #[.agg #[.pointer (some ⟨7,156,none⟩)]]).run Tryz.prog w = .ok (.iface 211 (.agg #[.pointer (some ⟨7,155,none⟩)])) w := by kernel_rfl
theorem Ywc (w : World) : (ReflectliteType.relation "Implements" ReflectliteType.implements_ #[.agg #[.pointer (some ⟨7, 155, none⟩)], .iface 211 (.agg #[.pointer (some ⟨7, 93, none⟩)])]).run Tryz.prog w = .ok (.bool true) w := by kernel_rfl
theorem X4d (v : Value) (w : World) : (ReflectliteType.typeOf #[.iface 155 v]).run Tryz.prog w = .ok (.iface 211 (.agg #[.pointer (some ⟨7,155,none⟩)])) w := by kernel_rfl
theorem X4e (w : World) : (ReflectliteType.relation "AssignableTo" ReflectliteType.assignableTo #[.agg #[.pointer (some ⟨7, 155, none⟩)], .iface 211 (.agg #[.pointer (some ⟨7, 155, none⟩)])]).run Tryz.prog w = .ok (.bool true) w := by kernel_rfl
theorem Xxk (x y : Value) (w : World) : (ReflectliteValue.unpack (.iface 155 (.agg #[x,y]))).run Tryz.prog w
  = .ok (.agg #[.pointer (some ⟨7,155,none⟩),.pointer (some ⟨w.heap.size,0,none⟩),.int .u64 153]) (w.alloc (.cells #[x,y] 155)) := by kernel_rfl
theorem Yfk (w : World) : (Rtype.elem? 156).run Tryz.prog w = .ok (some 155) w := by kernel_rfl
theorem Xdf (W : World) (o : Obj) {b : Nat} (h : b < W.heap.size) : (W.alloc o).heap[b]? = W.heap[b]? := by
 simp only [World.alloc,Array.getElem?_push]
 rw [if_neg (by omega)]
theorem asMk (p : Addr) (w : World) : (ReflectliteValue.mk 155 p ReflectliteValue.flagAddr).run Tryz.prog w = .ok (.agg #[.pointer (some ⟨7,155,none⟩),.pointer (some p),.int .u64 409]) w := by kernel_rfl
theorem Ywd (a p : Addr) (W : World) (ha : W.cell? a = some (.pointer (some p))) :
  (ReflectliteValue.method (ReflectliteValue.valueError "reflectlite.Value.Elem" 0) ReflectliteValue.elem #[.agg #[.pointer (some ⟨7, 156, none⟩), .pointer (some a), .int .u64 150]]).run Tryz.prog W
   = .ok (.agg #[.pointer (some ⟨7,155,none⟩),.pointer (some p),.int .u64 409]) W := by
 rw [Y9r]
 simp only [Sem.run_bind,Xun,Result.andThen]
 simp [ReflectliteValue.elem,loadVar,isAgg,underlying,Yk4,ha,Result.andThen,Yfk,asMk]
theorem Wgn (v x : Value) : ReflectliteValue.set #[v,x] = (do
  let (some (dst,a,fl),some (src,b,_)) := (<- ReflectliteValue.parts v,<- ReflectliteValue.parts x)
   | unsupported (.noEntry "extern/(internal/reflectlite.Value).Set.zeroValue")
  if fl / ReflectliteValue.flagAddr % 2 == 0 then unsupported (.noEntry "extern/(internal/reflectlite.Value).Set.unaddressable")
  let val <- loadVar src b
  if <- Rtype.directlyAssignable dst src then storeVar dst a val
  else if <- Rtype.implements dst src then
   if (<- Rtype.kind src) == 20 then
    match val with
    | .nilIface => unsupported (.noEntry "extern/reflectlite: a nil value of one interface type handed on as a value of another")
    | _ => storeVar dst a val
   else storeVar dst a (.iface src val)
  else panicString ("reflectlite.Set: value of type " ++ (<- Rtype.spelt src) ++ " is not assignable to type " ++ (<- Rtype.spelt dst))
  pure (.tuple #[])) := rfl
theorem X4f (a : Addr) (w : World) : (ReflectliteValue.parts (.agg #[.pointer (some ⟨7,155,none⟩),.pointer (some a),.int .u64 409])).run Tryz.prog w = .ok (some (155,a,409)) w := by kernel_rfl
theorem Yfl (a : Addr) (w : World) : (ReflectliteValue.parts (.agg #[.pointer (some ⟨7,155,none⟩),.pointer (some a),.int .u64 153])).run Tryz.prog w = .ok (some (155,a,153)) w := by kernel_rfl
theorem Yfm (w : World) : (Rtype.directlyAssignable 155 155).run Tryz.prog w = .ok true w := by kernel_rfl
theorem asSz : Fw.szOf Tryz.prog 155 = some 2 := by kernel_rfl
theorem Y9s : Fw.isAggB Tryz.prog 155 = true := by kernel_rfl
theorem Wgo (tb b : Nat) (x y p q : Value) (T : TypeId) (W : World) (hx : x.oneCell' = true) (hy : y.oneCell' = true) (hb : W.cell? ⟨b,0,none⟩ = some x) (hb1 : W.cell? ⟨b,1,none⟩ = some y) (ht : W.heap[tb]? = some (.cells #[p,q] T (0,0))) :
  ∃ W',(ReflectliteValue.set #[.agg #[.pointer (some ⟨7,155,none⟩),.pointer (some ⟨tb,0,none⟩),.int .u64 409],.agg #[.pointer (some ⟨7,155,none⟩),.pointer (some ⟨b,0,none⟩),.int .u64 153]]).run Tryz.prog W = .ok (.tuple #[]) W' /\
   Fw.WKeep W W' (fun z => z = tb) /\ W'.heap[tb]? = some (.cells #[x,y] T (0,0)) := by
 have hl := Fw.run_loadVar' (P := Tryz.prog) (w := W) asSz (.inl Y9s) b 0 [x,y] rfl (fun j v hv => by
  match j,hv with
  | 0,hv => simp at hv; subst hv; exact hb
  | 1,hv => simp at hv; subst hv; exact hb1
  | j + 2,hv => simp at hv)
 rw [if_pos Y9s] at hl
 obtain ⟨W',hs,hk,hh⟩ := Fw.run_storeVar' (P := Tryz.prog) (w := W) asSz tb 0 (.agg #[x,y]) [x,y] [p,q] T rfl rfl (by simp [hx,hy]) ht (by simp)
 refine ⟨W',?_,hk,by simpa using hh⟩
 rw [Wgn]
 simp only [Sem.run_bind,X4f,Yfl,Result.andThen]
 simp [ReflectliteValue.flagAddr,hl,Yfm,Result.andThen,hs]
set_option maxHeartbeats 4000000 in
set_option maxRecDepth 1000000 in
theorem Y9t (tb : Nat) (x y p q : Value) (T : TypeId) (w : World) (hx : x.oneCell' = true) (hy : y.oneCell' = true) (hg : w.cell? ⟨0,0,none⟩ = some (.iface 211 (.agg #[.pointer (some ⟨7,93,none⟩)])))
  (ht0 : w.heap[tb]? = some (.cells #[p,q] T (0,0))) :
  Calls Tryz.prog 87 #[.iface 155 (.agg #[x,y]),.iface 156 (.pointer (some ⟨tb,0,none⟩))] w fun ev w' => ev = .returned (.bool true) /\ Fw.WKeep w w' (fun z => z = tb) /\ w'.heap[tb]? = some (.cells #[x,y] T (0,0)) := by
 have h6 := @run_callFunc_extern Tryz.prog 109 _ (fun args => ReflectliteValue.unpack (args.getD 0 (.tuple #[]))) Tryz.func109 (by kernel_rfl) (by kernel_rfl) (by kernel_rfl) (by kernel_rfl)
 have h7 := @run_callFunc_extern Tryz.prog 110 _ (ReflectliteValue.methodAny (ReflectliteValue.valueError "reflectlite.Value.Type" 0) (fun t _ _ _ => ReflectliteType.toType t)) Tryz.func110 (by kernel_rfl) (by kernel_rfl) (by kernel_rfl) (by kernel_rfl)
 have h8 := @run_callFunc_extern Tryz.prog 111 _ (ReflectliteValue.method (ReflectliteValue.valueError "reflectlite.Value.IsNil" 0) ReflectliteValue.isNil) Tryz.func111 (by kernel_rfl) (by kernel_rfl) (by kernel_rfl) (by kernel_rfl)
 have h27 := @run_callFunc_extern Tryz.prog 204 _ (ReflectliteType.abiMethod fun t => do pure (.int .u8 (<- Rtype.kind t))) Tryz.func204 (by kernel_rfl) (by kernel_rfl) (by kernel_rfl) (by kernel_rfl)
 have h37 := @run_callFunc_extern Tryz.prog 216 _ (ReflectliteType.method ReflectliteType.elem) Tryz.func216 (by kernel_rfl) (by kernel_rfl) (by kernel_rfl) (by kernel_rfl)
 have h38 := @run_callFunc_extern Tryz.prog 217 _ (ReflectliteType.relation "Implements" ReflectliteType.implements_) Tryz.func217 (by kernel_rfl) (by kernel_rfl) (by kernel_rfl) (by kernel_rfl)
 have h10 := @run_callFunc_extern Tryz.prog 138 _ ReflectliteType.typeOf Tryz.func138 (by kernel_rfl) (by kernel_rfl) (by kernel_rfl) (by kernel_rfl)
 have h35 := @run_callFunc_extern Tryz.prog 214 _ (ReflectliteType.relation "AssignableTo" ReflectliteType.assignableTo) Tryz.func214 (by kernel_rfl) (by kernel_rfl) (by kernel_rfl) (by kernel_rfl)
 have h11 := @run_callFunc_extern Tryz.prog 139 _ (ReflectliteValue.method (ReflectliteValue.valueError "reflectlite.Value.Elem" 0) ReflectliteValue.elem) Tryz.func139 (by kernel_rfl) (by kernel_rfl) (by kernel_rfl) (by kernel_rfl)
 have h12 := @run_callFunc_extern Tryz.prog 140 _ ReflectliteValue.set Tryz.func140 (by kernel_rfl) (by kernel_rfl) (by kernel_rfl) (by kernel_rfl)
 have tO := X4d
 have mA := X4c
 have a25 := X4e
 have v25 := Xxk
 have f6 := Xxj
 have f7 := Yv4
 have mK := Yv5
 have mE := Yv9
 have mI := Ywa
 have k27 := Yv6
 have k25 := Yv7
 have e27 := Ywb
 have i25 := Ywc
 have n8 := Yv8 ⟨w.heap.size,0,none⟩ ⟨tb,0,none⟩ ((w.alloc (.cells #[.pointer (some ⟨tb,0,none⟩)] 156)).alloc (.cells #[.pointer (some ⟨7,156,none⟩),.pointer (some ⟨w.heap.size,0,none⟩),.int .u64 150] 182)) (by simp)
 have hlt : 0 < w.heap.size := by
  rcases Nat.lt_or_ge 0 w.heap.size with h | h
  ·exact h
  ·simp [World.cell?,Array.getElem?_eq_none h] at hg
 have hg2 : ((w.alloc (.cells #[.pointer (some ⟨tb,0,none⟩)] 156)).alloc (.cells #[.pointer (some ⟨7,156,none⟩),.pointer (some ⟨w.heap.size,0,none⟩),.int .u64 150] 182)).cell? ⟨0,0,none⟩ = some (.iface 211 (.agg #[.pointer (some ⟨7,93,none⟩)])) := by
  rw [World.cell?_alloc_lt _ _ ⟨0,0,none⟩ (by first | (simp; omega) | simp),World.cell?_alloc_lt _ _ ⟨0,0,none⟩ hlt]; exact hg
 have htl : tb < w.heap.size := (Array.getElem?_eq_some_iff.1 ht0).1
 have el := Ywd ⟨w.heap.size,0,none⟩ ⟨tb,0,none⟩ (((w.alloc (.cells #[.pointer (some ⟨tb,0,none⟩)] 156)).alloc (.cells #[.pointer (some ⟨7,156,none⟩),.pointer (some ⟨w.heap.size,0,none⟩),.int .u64 150] 182)).alloc (.cells #[.pointer (some ⟨7,156,none⟩),.pointer (some ⟨w.heap.size,0,none⟩),.int .u64 150] 182)) (by rw [World.cell?_alloc_lt _ _ ⟨w.heap.size,0,none⟩ (by simp; omega)]; simp)
 obtain ⟨W',st,hk,hh⟩ := Wgo tb (w.heap.size + 1 + 1 + 1) x y p q T ((((w.alloc (.cells #[.pointer (some ⟨tb,0,none⟩)] 156)).alloc (.cells #[.pointer (some ⟨7,156,none⟩),.pointer (some ⟨w.heap.size,0,none⟩),.int .u64 150] 182)).alloc (.cells #[.pointer (some ⟨7,156,none⟩),.pointer (some ⟨w.heap.size,0,none⟩),.int .u64 150] 182)).alloc (.cells #[x,y] 155)) hx hy
  (by rw [World.cell?_alloc_at _ _ _ _ (by simp)]; try rfl)
  (by rw [World.cell?_alloc_at _ _ _ _ (by simp)]; try rfl)
  (by rw [Xdf _ _ (by simp; omega),Xdf _ _ (by simp; omega),Xdf _ _ (by simp; omega),Xdf _ _ htl]; exact ht0)
 go_enter Tryz.func87,X4b
 go_wp2
 refine wp_loop_rounds 1 ?_
 rw [rounds_succ]
 go_wp2
 go_ret
 refine ⟨rfl,?_,hh⟩
 exact ⟨hk.os,hk.tape,hk.output,by have := hk.size; simp at this; omega,fun b hb hn => by
  rw [hk.block b (by simp; omega) hn]
  rw [Xdf _ _ (by simp; omega),Xdf _ _ (by simp; omega),Xdf _ _ (by simp; omega),Xdf _ _ hb]⟩
open Go.Fw
def Y9u (gp : Heap) : Prop := ∀ H w,Heap.Le gp H -> Xco w H -> w.cell? ⟨0,0,none⟩ = some (.iface 211 (.agg #[.pointer (some ⟨7,93,none⟩)]))
theorem Wgp {gp : Heap} (hE : Y9u gp) : AsOK gp := by
 intro e H w an F us hgp hmod hanc hown hF hdj hargs
 obtain ⟨u1,u2,rfl,h1,h2⟩ : ∃ u1 u2,us = [u1,u2] /\ Den H (errD e) u1 /\ DenA H an (.ifo 156 (.ptr 0 0)) u2 := by
  match us,hargs with
  | [u1,u2],h => exact ⟨u1,u2,rfl,h.1,h.2.1⟩
 obtain ⟨pv,rfl,b,rfl,p,hp,hpb⟩ := h2
 obtain ⟨q,hq,h0,b',T,vs,hqv,hFb,hheap,hden⟩ := hown 0 _ rfl
 rw [hp] at hq; cases hq
 have hbb : b = b' := hpb b' hqv
 subst hbb
 obtain ⟨x0,y0,rfl,hx0,hy0⟩ : ∃ x y,vs = [x,y] /\ Den H (.int .i64 0) x /\ Den H (.int .i64 0) y := by
  match vs,hden with
  | [x,y],h => exact ⟨x,y,rfl,h.1,h.2.1⟩
 cases e with
 | none =>
  cases h1
  intro cs
  obtain ⟨e,w',fr,⟨rfl,rfl⟩,g2,g3,g4⟩ := Y9q (.iface 156 (.pointer (some ⟨b,0,none⟩))) w cs
  refine ⟨_,w',fr,⟨_,_,_,H,an,F,rfl,⟨rfl,rfl⟩,WKeep.refl _ _,Heap.Le.refl _,hmod,fun b o hb => .inl hb,Anc.Le.refl _,hanc,hown,fun i b hb => ?_,hdj,Den.bool _⟩,g2,g3,g4⟩
  obtain ⟨k1,k2,k3⟩ := hF i b hb
  exact ⟨k1,k2,k3,.inr ⟨i,hb⟩⟩
 | some e =>
  obtain ⟨a,ee⟩ := e
  obtain ⟨x,y,rfl,hx,hy⟩ : ∃ x y,u1 = .iface 155 (.agg #[x,y]) /\ Den H (.int .i64 a) x /\ Den H (.int .i64 ee) y := by
   cases h1 with
   | ifcA t cs vs hlen hd =>
    match vs,hlen,hd with
    | [x,y],_,hd => exact ⟨x,y,rfl,hd 0 _ _ rfl rfl,hd 1 _ _ rfl rfl⟩
  intro cs
  obtain ⟨e,w',fr,⟨rfl,hk,hh⟩,g2,g3,g4⟩ := Y9t b x y x0 y0 T w hx.oneCell hy.oneCell (hE H w hgp hmod) hheap cs
  have hFall : ∀ i z,F i z -> z = b := fun i z hz => by
   have hi := (hF i z hz).1
   have : i = 0 := by simp at hi; exact hi
   subst this
   exact (hFb z).1 hz
  refine ⟨_,w',fr,⟨_,_,_,H,an,F,rfl,⟨rfl,rfl⟩,hk.mono fun z hz => ⟨0,(hFb z).2 hz⟩,Heap.Le.refl _,fun z o hz => ?_,fun b o hb => .inl hb,Anc.Le.refl _,hanc,fun i c hc => ?_,fun i z hz => ?_,hdj,Den.bool _⟩,g2,g3,g4⟩
  ·have h3 := hmod z o hz
   refine (hk.block z (Array.getElem?_eq_some_iff.1 h3).1 fun e => ?_).trans h3
   subst e
   have := (hF 0 z ((hFb z).2 rfl)).2.2
   rw [this] at hz; cases hz
  ·match i,hc with
   | 0,hc =>
    cases hc
    exact ⟨p,hp,h0,b,T,[x,y],hqv,hFb,hh,hx,hy,trivial⟩
  ·obtain ⟨k1,k2,k3⟩ := hF i z hz
   exact ⟨k1,Nat.lt_of_lt_of_le k2 hk.size,k3,.inr ⟨i,hz⟩⟩
end Go.Fw.L07
namespace Go.Fw.L07
open Go Go.Fw
open Go.Proofs.Tryz renaming prog -> QP
set_option maxRecDepth 4000
variable {gp : Heap}
structure Env (gp : Heap) : Prop where
 u : Xne gp
 e : Y9u gp
abbrev chk (g : Gr) : Option (Int × Int) := Xe4 Xal g
theorem Xmf (h : Env gp) (g : Gr) : Does QP gp 36 [g.v] (.tup [vi ((chk g).getD (0,0)).1,vi ((chk g).getD (0,0)).2]) :=
 Yfj Xal (Xk0 h.u) (Wgp h.e) (by kernel_rfl) g
end Go.Fw.L07
