/- Chapter 11: errors.As at quotients' errors (M.t,turned). -/
import Derived.Test.YtejnfjophhnaeaaGreatDoorLc
import Derived.Test.YtejnfjophhnaeaaGreatDoorL07L11Mini
import Derived.Test.YtejnfjophhnaeaaGreatDoorJc
import Derived.Test.YtejnfjophhnaeaaGreatDoorJa
import Derived.Test.YtejnfjophhnaeaaGreatDoorEa
set_option linter.all false
namespace Go.Fw.L07
open Go Go.Proofs Go.RowKit Go.Extern.Stop Go.Stop Go.Extern
theorem qasValueOfP (t : Addr) (w : World) : (ReflectliteValue.unpack (.iface 134 (.pointer (some t)))).run Tryz.prog w
  = .ok (.agg #[.pointer (some ⟨7,134,none⟩),.pointer (some ⟨w.heap.size,0,none⟩),.int .u64 150]) (w.alloc (.cells #[.pointer (some t)] 134)) := by kernel_rfl
theorem qasTypeP (a : Addr) (w : World) : (ReflectliteValue.methodAny (ReflectliteValue.valueError "reflectlite.Value.Type" 0) (fun t _ _ _ => ReflectliteType.toType t) #[.agg #[.pointer (some ⟨7, 134, none⟩), .pointer (some a), .int .u64 150]]).run Tryz.prog w
  = .ok (.iface 211 (.agg #[.pointer (some ⟨7,134,none⟩)])) w := by kernel_rfl
theorem qasKindP (w : World) : ((ReflectliteType.abiMethod fun t => (fun a : Nat => Value.int IntKind.u8 (a : Int)) <$> Rtype.kind t) #[.pointer (some ⟨7,134,none⟩)]).run Tryz.prog w = .ok (.int .u8 22) w := by kernel_rfl
theorem qasKindS (w : World) : ((ReflectliteType.abiMethod fun t => (fun a : Nat => Value.int IntKind.u8 (a : Int)) <$> Rtype.kind t) #[.pointer (some ⟨7,132,none⟩)]).run Tryz.prog w = .ok (.int .u8 25) w := by kernel_rfl
theorem qasPartsP (a : Addr) (w : World) : (ReflectliteValue.parts (.agg #[.pointer (some ⟨7,134,none⟩),.pointer (some a),.int .u64 150])).run Tryz.prog w = .ok (some (134,a,150)) w := by kernel_rfl
theorem qasUndP : Tryz.prog.underlying 134 = some (.pointer 132) := by kernel_rfl
theorem qasIsNil (a p : Addr) (W : World) (ha : W.cell? a = some (.pointer (some p))) :
  (ReflectliteValue.method (ReflectliteValue.valueError "reflectlite.Value.IsNil" 0) ReflectliteValue.isNil #[.agg #[.pointer (some ⟨7, 134, none⟩), .pointer (some a), .int .u64 150]]).run Tryz.prog W = .ok (.bool false) W := by
 rw [asRlm]
 simp only [Sem.run_bind,qasPartsP,Result.andThen]
 simp [ReflectliteValue.isNil,loadVar,isAgg,underlying,qasUndP,ha,Result.andThen]
theorem qasElemP (w : World) : (ReflectliteType.method ReflectliteType.elem #[.agg #[.pointer (some ⟨7,134,none⟩)]]).run Tryz.prog w = .ok (.iface 211 (.agg #[.pointer (some ⟨7,132,none⟩)])) w := by kernel_rfl
theorem qasImplS (w : World) : (ReflectliteType.relation "Implements" ReflectliteType.implements_ #[.agg #[.pointer (some ⟨7, 132, none⟩)], .iface 211 (.agg #[.pointer (some ⟨7, 93, none⟩)])]).run Tryz.prog w = .ok (.bool true) w := by kernel_rfl
theorem qasTypeOfS (v : Value) (w : World) : (ReflectliteType.typeOf #[.iface 132 v]).run Tryz.prog w = .ok (.iface 211 (.agg #[.pointer (some ⟨7,132,none⟩)])) w := by kernel_rfl
theorem qasAssignS (w : World) : (ReflectliteType.relation "AssignableTo" ReflectliteType.assignableTo #[.agg #[.pointer (some ⟨7, 132, none⟩)], .iface 211 (.agg #[.pointer (some ⟨7, 132, none⟩)])]).run Tryz.prog w = .ok (.bool true) w := by kernel_rfl
theorem qasValueOfS (x : Value) (w : World) : (ReflectliteValue.unpack (.iface 132 (.agg #[x]))).run Tryz.prog w
  = .ok (.agg #[.pointer (some ⟨7,132,none⟩),.pointer (some ⟨w.heap.size,0,none⟩),.int .u64 153]) (w.alloc (.cells #[x] 132)) := by kernel_rfl
theorem qasElemOf (w : World) : (Rtype.elem? 134).run Tryz.prog w = .ok (some 132) w := by kernel_rfl
theorem qasMk (p : Addr) (w : World) : (ReflectliteValue.mk 132 p ReflectliteValue.flagAddr).run Tryz.prog w = .ok (.agg #[.pointer (some ⟨7,132,none⟩),.pointer (some p),.int .u64 409]) w := by kernel_rfl
theorem qasElemV (a p : Addr) (W : World) (ha : W.cell? a = some (.pointer (some p))) :
  (ReflectliteValue.method (ReflectliteValue.valueError "reflectlite.Value.Elem" 0) ReflectliteValue.elem #[.agg #[.pointer (some ⟨7, 134, none⟩), .pointer (some a), .int .u64 150]]).run Tryz.prog W
   = .ok (.agg #[.pointer (some ⟨7,132,none⟩),.pointer (some p),.int .u64 409]) W := by
 rw [asRlm]
 simp only [Sem.run_bind,qasPartsP,Result.andThen]
 simp [ReflectliteValue.elem,loadVar,isAgg,underlying,qasUndP,ha,Result.andThen,qasElemOf,qasMk]
theorem qasPartsSa (a : Addr) (w : World) : (ReflectliteValue.parts (.agg #[.pointer (some ⟨7,132,none⟩),.pointer (some a),.int .u64 409])).run Tryz.prog w = .ok (some (132,a,409)) w := by kernel_rfl
theorem qasPartsS (a : Addr) (w : World) : (ReflectliteValue.parts (.agg #[.pointer (some ⟨7,132,none⟩),.pointer (some a),.int .u64 153])).run Tryz.prog w = .ok (some (132,a,153)) w := by kernel_rfl
theorem qasDirect (w : World) : (Rtype.directlyAssignable 132 132).run Tryz.prog w = .ok true w := by kernel_rfl
theorem qasSz : Fw.szOf Tryz.prog 132 = some 1 := by kernel_rfl
theorem qasAgg : Fw.isAggB Tryz.prog 132 = true := by kernel_rfl
theorem qasSet (tb b : Nat) (x p : Value) (T : TypeId) (W : World) (hx : x.oneCell' = true) (hb : W.cell? ⟨b,0,none⟩ = some x) (ht : W.heap[tb]? = some (.cells #[p] T (0,0))) :
  ∃ W',(ReflectliteValue.set #[.agg #[.pointer (some ⟨7,132,none⟩),.pointer (some ⟨tb,0,none⟩),.int .u64 409],.agg #[.pointer (some ⟨7,132,none⟩),.pointer (some ⟨b,0,none⟩),.int .u64 153]]).run Tryz.prog W = .ok (.tuple #[]) W' /\
   Fw.WKeep W W' (fun z => z = tb) /\ W'.heap[tb]? = some (.cells #[x] T (0,0)) := by
 have hl := Fw.run_loadVar' (P := Tryz.prog) (w := W) qasSz (.inl qasAgg) b 0 [x] rfl (fun j v hv => by
  match j,hv with
  | 0,hv => simp at hv; subst hv; exact hb
  | j + 1,hv => simp at hv)
 rw [if_pos qasAgg] at hl
 obtain ⟨W',hs,hk,hh⟩ := Fw.run_storeVar' (P := Tryz.prog) (w := W) qasSz tb 0 (.agg #[x]) [x] [p] T rfl rfl (by simp [hx]) ht (by simp)
 refine ⟨W',?_,hk,by simpa using hh⟩
 rw [asRls]
 simp only [Sem.run_bind,qasPartsSa,qasPartsS,Result.andThen]
 simp [ReflectliteValue.flagAddr,hl,qasDirect,Result.andThen,hs]
set_option maxHeartbeats 4000000 in
set_option maxRecDepth 1000000 in
theorem qas_hit (tb : Nat) (x p : Value) (T : TypeId) (w : World) (hx : x.oneCell' = true) (hg : w.cell? ⟨0,0,none⟩ = some (.iface 211 (.agg #[.pointer (some ⟨7,93,none⟩)])))
  (ht0 : w.heap[tb]? = some (.cells #[p] T (0,0))) :
  Calls Tryz.prog 87 #[.iface 132 (.agg #[x]),.iface 134 (.pointer (some ⟨tb,0,none⟩))] w fun ev w' => ev = .returned (.bool true) /\ Fw.WKeep w w' (fun z => z = tb) /\ w'.heap[tb]? = some (.cells #[x] T (0,0)) := by
 have h6 := @run_callFunc_extern Tryz.prog 109 _ (fun args => ReflectliteValue.unpack (args.getD 0 (.tuple #[]))) Tryz.func109 (by kernel_rfl) (by kernel_rfl) (by kernel_rfl) (by kernel_rfl)
 have h7 := @run_callFunc_extern Tryz.prog 110 _ (ReflectliteValue.methodAny (ReflectliteValue.valueError "reflectlite.Value.Type" 0) (fun t _ _ _ => ReflectliteType.toType t)) Tryz.func110 (by kernel_rfl) (by kernel_rfl) (by kernel_rfl) (by kernel_rfl)
 have h8 := @run_callFunc_extern Tryz.prog 111 _ (ReflectliteValue.method (ReflectliteValue.valueError "reflectlite.Value.IsNil" 0) ReflectliteValue.isNil) Tryz.func111 (by kernel_rfl) (by kernel_rfl) (by kernel_rfl) (by kernel_rfl)
 have h27 := @run_callFunc_extern Tryz.prog 204 _ (ReflectliteType.abiMethod fun t => do pure (.int .u8 (<- Rtype.kind t))) Tryz.func204 (by kernel_rfl) (by kernel_rfl) (by kernel_rfl) (by kernel_rfl)
 have h37 := @run_callFunc_extern Tryz.prog 216 _ (ReflectliteType.method ReflectliteType.elem) Tryz.func216 (by kernel_rfl) (by kernel_rfl) (by kernel_rfl) (by kernel_rfl)
 have h38 := @run_callFunc_extern Tryz.prog 217 _ (ReflectliteType.relation "Implements" ReflectliteType.implements_) Tryz.func217 (by kernel_rfl) (by kernel_rfl) (by kernel_rfl) (by kernel_rfl)
 have h10 := @run_callFunc_extern Tryz.prog 138 _ ReflectliteType.typeOf Tryz.func138 (by kernel_rfl) (by kernel_rfl) (by kernel_rfl) (by kernel_rfl)
 have h35 := @run_callFunc_extern Tryz.prog 214 _ (ReflectliteType.relation "AssignableTo" ReflectliteType.assignableTo) Tryz.func214 (by kernel_rfl) (by kernel_rfl) (by kernel_rfl) (by kernel_rfl)
 have h11 := @run_callFunc_extern Tryz.prog 139 _ (ReflectliteValue.method (ReflectliteValue.valueError "reflectlite.Value.Elem" 0) ReflectliteValue.elem) Tryz.func139 (by kernel_rfl) (by kernel_rfl) (by kernel_rfl) (by kernel_rfl)
 have h12 := @run_callFunc_extern Tryz.prog 140 _ ReflectliteValue.set Tryz.func140 (by kernel_rfl) (by kernel_rfl) (by kernel_rfl) (by kernel_rfl)
 have tO := qasTypeOfS
 have mA := asMAssign
 have a25 := qasAssignS
 have v25 := qasValueOfS
 have f6 := qasValueOfP
 have f7 := qasTypeP
 have mK := asMKind
 have mE := asMElem
 have mI := asMImpl
 have k27 := qasKindP
 have k25 := qasKindS
 have e27 := qasElemP
 have i25 := qasImplS
 have n8 := qasIsNil ⟨w.heap.size,0,none⟩ ⟨tb,0,none⟩ ((w.alloc (.cells #[.pointer (some ⟨tb,0,none⟩)] 134)).alloc (.cells #[.pointer (some ⟨7,134,none⟩),.pointer (some ⟨w.heap.size,0,none⟩),.int .u64 150] 182)) (by simp)
 have hlt : 0 < w.heap.size := by
  rcases Nat.lt_or_ge 0 w.heap.size with h | h
  ·exact h
  ·simp [World.cell?,Array.getElem?_eq_none h] at hg
 have hg2 : ((w.alloc (.cells #[.pointer (some ⟨tb,0,none⟩)] 134)).alloc (.cells #[.pointer (some ⟨7,134,none⟩),.pointer (some ⟨w.heap.size,0,none⟩),.int .u64 150] 182)).cell? ⟨0,0,none⟩ = some (.iface 211 (.agg #[.pointer (some ⟨7,93,none⟩)])) := by
  rw [World.cell?_alloc_lt _ _ ⟨0,0,none⟩ (by first | (simp; omega) | simp),World.cell?_alloc_lt _ _ ⟨0,0,none⟩ hlt]; exact hg
 have htl : tb < w.heap.size := (Array.getElem?_eq_some_iff.1 ht0).1
 have el := qasElemV ⟨w.heap.size,0,none⟩ ⟨tb,0,none⟩ (((w.alloc (.cells #[.pointer (some ⟨tb,0,none⟩)] 134)).alloc (.cells #[.pointer (some ⟨7,134,none⟩),.pointer (some ⟨w.heap.size,0,none⟩),.int .u64 150] 182)).alloc (.cells #[.pointer (some ⟨7,134,none⟩),.pointer (some ⟨w.heap.size,0,none⟩),.int .u64 150] 182)) (by rw [World.cell?_alloc_lt _ _ ⟨w.heap.size,0,none⟩ (by simp; omega)]; simp)
 obtain ⟨W',st,hk,hh⟩ := qasSet tb (w.heap.size + 1 + 1 + 1) x p T ((((w.alloc (.cells #[.pointer (some ⟨tb,0,none⟩)] 134)).alloc (.cells #[.pointer (some ⟨7,134,none⟩),.pointer (some ⟨w.heap.size,0,none⟩),.int .u64 150] 182)).alloc (.cells #[.pointer (some ⟨7,134,none⟩),.pointer (some ⟨w.heap.size,0,none⟩),.int .u64 150] 182)).alloc (.cells #[x] 132)) hx
  (by rw [World.cell?_alloc_at _ _ _ _ (by simp)]; try rfl)
  (by rw [alloc_old _ _ (by simp; omega),alloc_old _ _ (by simp; omega),alloc_old _ _ (by simp; omega),alloc_old _ _ htl]; exact ht0)
 go_enter Tryz.func87,ntmpsAs
 go_wp2
 refine wp_loop_rounds 1 ?_
 rw [rounds_succ]
 go_wp2
 go_ret
 refine ⟨rfl,?_,hh⟩
 exact ⟨hk.os,hk.tape,hk.output,by have := hk.size; simp at this; omega,fun b hb hn => by
  rw [hk.block b (by simp; omega) hn]
  rw [alloc_old _ _ (by simp; omega),alloc_old _ _ (by simp; omega),alloc_old _ _ (by simp; omega),alloc_old _ _ hb]⟩
open Go.Fw
def errQ : Option Int -> D
 | none => .nilI
 | some e => .ifc 132 true [.int .i64 e]
theorem asq_ok {gp : Heap} (hE : ErrOK gp) (e : Option Int) : Tri Go.Proofs.Tryz.prog gp 87 [.one (.d (errQ e)),.one (.ifo 134 (.ptr 0 0))] [.cells [.d (.int .i64 0)]] fun r post => r = vb e.isSome /\ post = [.cells [.d (.int .i64 (e.getD 0))]] := by
 intro H w an F us hgp hmod hanc hown hF hdj hargs
 obtain ⟨u1,u2,rfl,h1,h2⟩ : ∃ u1 u2,us = [u1,u2] /\ Den H (errQ e) u1 /\ DenA H an (.ifo 134 (.ptr 0 0)) u2 := by
  match us,hargs with
  | [u1,u2],h => exact ⟨u1,u2,rfl,h.1,h.2.1⟩
 obtain ⟨pv,rfl,b,rfl,p,hp,hpb⟩ := h2
 obtain ⟨q,hq,h0,b',T,vs,hqv,hFb,hheap,hden⟩ := hown 0 _ rfl
 rw [hp] at hq; cases hq
 have hbb : b = b' := hpb b' hqv
 subst hbb
 obtain ⟨x0,rfl,hx0⟩ : ∃ x,vs = [x] /\ Den H (.int .i64 0) x := by
  match vs,hden with
  | [x],h => exact ⟨x,rfl,h.1⟩
 cases e with
 | none =>
  cases h1
  intro cs
  obtain ⟨e,w',fr,⟨rfl,rfl⟩,g2,g3,g4⟩ := as_nil (.iface 134 (.pointer (some ⟨b,0,none⟩))) w cs
  refine ⟨_,w',fr,⟨_,_,_,H,an,F,rfl,⟨rfl,rfl⟩,WKeep.refl _ _,Heap.Le.refl _,hmod,fun b o hb => .inl hb,Anc.Le.refl _,hanc,hown,fun i b hb => ?_,hdj,Den.bool _⟩,g2,g3,g4⟩
  obtain ⟨k1,k2,k3⟩ := hF i b hb
  exact ⟨k1,k2,k3,.inr ⟨i,hb⟩⟩
 | some e =>
  obtain ⟨x,rfl,hx⟩ : ∃ x,u1 = .iface 132 (.agg #[x]) /\ Den H (.int .i64 e) x := by
   cases h1 with
   | ifcA t cs vs hlen hd =>
    match vs,hlen,hd with
    | [x],_,hd => exact ⟨x,rfl,hd 0 _ _ rfl rfl⟩
  intro cs
  obtain ⟨e',w',fr,⟨rfl,hk,hh⟩,g2,g3,g4⟩ := qas_hit b x x0 T w hx.oneCell (hE H w hgp hmod) hheap cs
  have hFall : ∀ i z,F i z -> z = b := fun i z hz => by
   have hi := (hF i z hz).1
   have : i = 0 := by simp at hi; exact hi
   subst this
   exact (hFb z).1 hz
  refine ⟨_,w',fr,⟨_,_,_,H,an,F,rfl,⟨rfl,rfl⟩,hk.mono fun z hz => ⟨0,(hFb z).2 hz⟩,Heap.Le.refl _,fun z o hz => ?_,fun b o hb => .inl hb,Anc.Le.refl _,hanc,fun i c hc => ?_,fun i z hz => ?_,hdj,Den.bool _⟩,g2,g3,g4⟩
  ·have h3 := hmod z o hz
   refine (hk.block z (Array.getElem?_eq_some_iff.1 h3).1 fun e => ?_).trans h3
   subst e
   have := (hF 0 z ((hFb z).2 rfl)).2.2
   rw [this] at hz; cases hz
  ·match i,hc with
   | 0,hc =>
    cases hc
    exact ⟨p,hp,h0,b,T,[x],hqv,hFb,hh,hx,trivial⟩
  ·obtain ⟨k1,k2,k3⟩ := hF i z hz
   exact ⟨k1,Nat.lt_of_lt_of_le k2 hk.size,k3,.inr ⟨i,hz⟩⟩
end Go.Fw.L07
namespace Go.Fw.L07
open Go Go.Fw
open Go.Fw.Sh renaming intro -> Kg
open Go.Fw renaming G_reg -> Ka,G_regw -> Ka,VO_chk -> Kb,VO_go -> Kc,VO_gx -> Kd,G_cond -> Ke,VO_end -> Kf,G_fin -> Kh,G_ret -> Ki,G_weak -> Kj,G_drop -> Kk,G_again -> Kl,G_loop -> Km,Gx -> Kn,Gw -> Ko
open And renaming intro -> Kp
open Go.Proofs.Tryz renaming prog -> QP
open Go.Fw.V.one renaming injEq -> Qs
open Go.Fw.V.agg renaming injEq -> Qt
open Go.Fw.V.tup renaming injEq -> Qu
open Go.Fw.A.d renaming injEq -> Qv
open Go.Fw.D.bool renaming injEq -> Qw
open Go.Fw.D.int renaming injEq -> Qx
open Go.Fw.D.str renaming injEq -> Qy
open Go.Fw.D.sl renaming injEq -> Qz
open List.cons renaming injEq -> Za
set_option maxRecDepth 4000
variable {gp : Heap}
theorem qtold (hE : ErrOK gp) (e : Option Int) : Does QP gp 55 [.one (.d (errQ e))] (vi (e.getD 0)) := by
 refine f55_in ?_
 simp only [go_sem]
 repeat' (first | refine Kn rfl ?_ | ((first | refine Ka ?_ | refine Kb ?_ | refine Kc ?_ | refine Kd ?_ | refine Ke ?_); simp only [go_sem]) | refine Kf ?_ | refine Kg ?_ | refine Kp (fun _ => ?_) (fun _ => ?_) | ((first | refine Kh ?_ | refine Ki rfl ?_); simp only [or_self,Qs,Qt,Qu,Qv,Qw,Qx,Qy,Qz,Za,go_sem]))
 refine Or.inr ⟨[0],vb e.isSome,[.cells [.d (.int .i64 (e.getD 0))]],(by simp only [CallR,go_sem]; exact ⟨by kernel_rfl,asq_ok hE e⟩),Sh.intro ?_⟩
 simp only [go_sem]
 repeat' (first | refine Kn rfl ?_ | ((first | refine Ka ?_ | refine Kb ?_ | refine Kc ?_ | refine Kd ?_ | refine Ke ?_); simp only [go_sem]) | refine Kf ?_ | refine Kg ?_ | refine Kp (fun _ => ?_) (fun _ => ?_) | ((first | refine Kh ?_ | refine Ki rfl ?_); simp only [or_self,Qs,Qt,Qu,Qv,Qw,Qx,Qy,Qz,Za,go_sem]))
 rename_i h
 cases e with
 | none => rfl
 | some e => simp at h
abbrev qD (g : Gr) : D := .bx [.int .i64 g.root,.sl (nds g.l),.sl (ints (clsL g.l))]
theorem qof (h : Env10 gp) (g : Gr) (hs : Small g) (hst : ∀ x ∈ g.l,x.short) : Does QP gp 54 [g.v] (if chk g = none then .tup [.one (.d (qD g)),.one (.d (errQ none))] else .tup [.one (.d .nilP),.one (.d (errQ (some (chkE g))))]) := by
 refine f54_in ?_
 simp only [go_sem]
 have c1 := classes10 h g hs hst
 by_cases hc : chk g = none
 ·have hg : Good g := ⟨hc,hs⟩
  rw [cOf_good hg,chkE_ok hc] at c1
  rw [if_pos hc]
  repeat' (first | refine Kn rfl ?_ | ((first | refine Ka ?_ | refine Kb ?_ | refine Kc ?_ | refine Kd ?_ | refine Ke ?_); simp only [go_sem]) | refine Kf ?_ | refine Kg ?_ | refine ⟨_,c1,Sh.intro ?_⟩ | refine ⟨_,⟨c1,rfl⟩,Sh.intro ?_⟩ | refine Kp (fun _ => ?_) (fun _ => ?_) | ((first | refine Kh ?_ | refine Ki rfl ?_); simp only [or_self,Qs,Qt,Qu,Qv,Qw,Qx,Qy,Qz,Za,go_sem]))
  all_goals rfl
 ·have he := chkE_bad hc
  rw [if_neg hc]
  generalize chkE g = e at *
  generalize cOf g = l at *
  have e1 : (e != 0) = true := by simpa using he
  repeat' (first | refine Kn rfl ?_ | ((first | refine Ka ?_ | refine Kb ?_ | refine Kc ?_ | refine Kd ?_ | refine Ke ?_); simp only [e1,go_sem]) | refine Kf ?_ | refine Kg ?_ | refine ⟨_,c1,Sh.intro ?_⟩ | refine ⟨_,⟨c1,rfl⟩,Sh.intro ?_⟩ | refine Kp (fun _ => ?_) (fun _ => ?_) | ((first | refine Kh ?_ | refine Ki rfl ?_); simp only [e1,or_self,Qs,Qt,Qu,Qv,Qw,Qx,Qy,Qz,Za,go_sem]))
  all_goals rfl
theorem qclasses (g : Gr) (c l : List Int) (hl : l.length <= 1000) (hc : ∀ j ∈ l,0 <= j /\ ∃ x,c[j.toNat]? = some x /\ okI x) : Does QP gp 89 [pD g c,.one (.d (.sl (ints l)))] (.one (.d (.sl (ints (l.map (clsAt c)))))) := by
 refine f89_in ?_
 simp only [go_sem]
 repeat' (first | refine Kn rfl ?_ | ((first | refine Ka ?_ | refine Kb ?_ | refine Kc ?_ | refine Kd ?_ | refine Ke ?_); simp only [f89_r0,f89_r1,f89_r2,f89_r3,f89_r7,f89_r8,f89_r11,f89_r18,go_sem]) | refine Kf ?_ | refine Kg ?_ | refine Kp (fun _ => ?_) (fun _ => ?_) | ((first | refine Kh ?_ | refine Ki rfl ?_); simp only [f89_r0,f89_r1,f89_r2,f89_r3,f89_r7,f89_r8,f89_r11,f89_r18,or_self,Qs,Qt,Qu,Qv,Qw,Qx,Qy,Qz,Za,go_sem]))
 refine G_row0 5 1 (by decide) rfl ?_
 simp only [go_sem]
 refine Kj (fr 26 [(0,pD g c),(5,.one (.own 0 (0 : Nat))),(8,.one (.d (.sl (ints l)))),(9,vi l.length),(10,vi (0 : Nat))]) (by (simp only [go_sem]; repeat' (first | refine Kp ?_ ?_ | exact Or.inl rfl | exact Or.inr rfl | rfl))) ?_
 refine Km (fun mz sz => ∃ i : Nat,i <= l.length /\ mz = l.length - i /\ (0 <= i) /\ sz = ⟨fr 26 [(0,pD g c),(5,.one (.own 0 i)),(8,.one (.d (.sl (ints l)))),(9,vi l.length),(10,vi i)],[.row 1 i (ints ((l.map (clsAt c)).take i))]⟩) (l.length) ⟨0,Nat.zero_le _,(Nat.sub_zero _).symm,?_,rfl⟩ ?_
 ·exact Nat.zero_le _
 rintro _ _ ⟨i,hi,rfl,-,rfl⟩
 simp only [go_sem]
 by_cases hil : i < l.length
 ·obtain ⟨j,hj⟩ := at_lt hil
  obtain ⟨hj0,y,hy,_⟩ := hc j (List.mem_of_getElem? hj)
  have e1 : decide ((i : Int) < (l.length : Int)) = true := decide_eq_true (by omega)
  have hcy : clsAt c j = y := by unfold clsAt; rw [hy]; rfl
  have hsn : ints ((l.map (clsAt c)).take i) ++ [[.int .i64 y]] = ints ((l.map (clsAt c)).take (i + 1)) := ints_snoc (by rw [List.getElem?_map,hj,<- hcy]; rfl)
  repeat' (first | refine Kn rfl ?_ | ((first | refine Ka ?_ | refine Kb ?_ | refine Kc ?_ | refine Kd ?_ | refine Ke ?_); simp only [f89_r0,f89_r1,f89_r2,f89_r3,f89_r7,f89_r8,f89_r11,f89_r18,e1,go_sem]) | refine Kf ?_ | refine Kg ?_ | refine ⟨_,⟨Int.natCast_nonneg _,ints_get hj,rfl⟩,Sh.intro ?_⟩ | refine ⟨_,⟨hj0,ints_get hy,rfl⟩,Sh.intro ?_⟩ | refine Kp (fun _ => ?_) (fun _ => ?_) | ((first | refine Kh ?_ | refine Ki rfl ?_); simp only [f89_r0,f89_r1,f89_r2,f89_r3,f89_r7,f89_r8,f89_r11,f89_r18,e1,or_self,Qs,Qt,Qu,Qv,Qw,Qx,Qy,Qz,Za,go_sem]))
  refine ⟨by simp,by simp; omega,by simp [lenMax]; omega,?_⟩
  rw [hsn]
  repeat' (first | refine Kn rfl ?_ | ((first | refine Ka ?_ | refine Kb ?_ | refine Kc ?_ | refine Kd ?_ | refine Ke ?_); simp only [f89_r0,f89_r1,f89_r2,f89_r3,f89_r7,f89_r8,f89_r11,f89_r18,go_sem]) | refine Kf ?_ | refine Kg ?_ | refine Kp (fun _ => ?_) (fun _ => ?_) | ((first | refine Kh ?_ | refine Ki rfl ?_); simp only [f89_r0,f89_r1,f89_r2,f89_r3,f89_r7,f89_r8,f89_r11,f89_r18,or_self,Qs,Qt,Qu,Qv,Qw,Qx,Qy,Qz,Za,go_sem]))
  refine ⟨inK_nat hil (by unfold lenMax; omega),?_⟩
  refine Kj (fr 26 [(0,pD g c),(5,.one (.own 0 (i + 1))),(8,.one (.d (.sl (ints l)))),(9,vi l.length),(10,vi (i + 1))]) (by (simp only [go_sem]; repeat' (first | refine Kp ?_ ?_ | exact Or.inl rfl | exact Or.inr rfl | rfl))) ?_
  refine Kk 1 (by simp only [List.length_nil,List.length_cons]; decide) (by simp only [go_sem]) (by simp only [go_sem]) ?_
  simp only [go_sem]
  refine Kl ⟨l.length - (i + 1),by omega,i + 1,by omega,rfl,?_,rfl⟩
  exact Nat.zero_le _
 ·repeat refine Ko rfl ?_
  refine Ka ?_
  simp only [f89_r3,go_sem]
  repeat refine Ko rfl ?_
  refine Ke ?_
  simp only [go_sem]
  refine ⟨fun h => by exfalso; omega,fun _ => G_exit rfl ?_⟩
  obtain rfl : i = l.length := by omega
  rw [List.take_of_length_le (by simp)]
  refine G_freeze 0 ?_
  simp only [go_sem]
  repeat' (first | refine Kn rfl ?_ | ((first | refine Ka ?_ | refine Kb ?_ | refine Kc ?_ | refine Kd ?_ | refine Ke ?_); simp only [f89_r0,f89_r1,f89_r2,f89_r3,f89_r7,f89_r8,f89_r11,f89_r18,go_sem]) | refine Kf ?_ | refine Kg ?_ | refine Kp (fun _ => ?_) (fun _ => ?_) | ((first | refine Kh ?_ | refine Ki rfl ?_); simp only [f89_r0,f89_r1,f89_r2,f89_r3,f89_r7,f89_r8,f89_r11,f89_r18,or_self,Qs,Qt,Qu,Qv,Qw,Qx,Qy,Qz,Za,go_sem]))
theorem nxtC_ge : ∀ (l : List Int) (k : Nat),k <= nxtC l k
 | [],k => Nat.le_refl _
 | c :: r,k => by
  have := nxtC_ge r (if c < k then k else k + 1)
  simp only [nxtC]
  split at this
  ·rename_i h; rw [if_pos h]; omega
  ·rename_i h; rw [if_neg h]; omega
theorem fst_new : ∀ {r : List Int} {k i0 m : Nat} {c : Int},r[m]? = some c -> ¬ c < nxtC (r.take m) k -> (fstK r k i0)[nxtC (r.take m) k - k]? = some ((i0 + m : Nat) : Int)
 | x :: r,k,i0,0,c,h,hc => by
  obtain rfl : x = c := by simpa using h
  simp only [List.take_zero,nxtC] at hc ⊢
  simp only [fstK]
  rw [if_neg hc]
  simp
 | x :: r,k,i0,m + 1,c,h,hc => by
  simp only [List.take_succ_cons,nxtC] at hc ⊢
  have h' : r[m]? = some c := by simpa using h
  have ih := fst_new (i0 := i0 + 1) h' hc
  simp only [fstK]
  split at ih
  ·rename_i hx
   simp only [if_pos hx]
   rw [ih]; congr 2; omega
  ·rename_i hx
   simp only [if_neg hx]
   have hg := nxtC_ge (r.take m) (k + 1)
   rw [show nxtC (r.take m) (k + 1) - k = (nxtC (r.take m) (k + 1) - (k + 1)) + 1 by omega,List.getElem?_cons_succ,ih]
   congr 2; omega
theorem fst_len : ∀ (r : List Int) (k i0 : Nat),(fstK r k i0).length = nxtC r k - k
 | [],k,_ => by simp [fstK,nxtC]
 | x :: r,k,i0 => by
  simp only [fstK,nxtC]
  split
  ·exact fst_len r k (i0 + 1)
  ·rw [List.length_cons,fst_len r (k + 1) (i0 + 1)]
   have := nxtC_ge r (k + 1)
   omega
def upI (n : Nat) : List Int := (List.range n).map fun m : Nat => (m : Int)
theorem upI_mem {n : Nat} {c : Int} : c ∈ upI n ↔ 0 <= c /\ c < n := by
 unfold upI
 rw [List.mem_map]
 constructor
 ·rintro ⟨m,hm,rfl⟩; rw [List.mem_range] at hm; omega
 ·rintro ⟨h1,h2⟩; exact ⟨c.toNat,List.mem_range.2 (by omega),by omega⟩
theorem upI_succ (n : Nat) : upI (n + 1) = upI n ++ [(n : Int)] := by simp [upI,List.range_succ]
abbrev metQ (n : Nat) : List (V × V) := (upI n).map fun a => (vi a,vb true)
theorem metQ_refs (n : Nat) : (Ch.map (metQ n)).refs = [] := by
 simp only [Ch.refs]
 rw [List.flatMap_eq_nil_iff]
 intro e he
 obtain ⟨a,_,rfl⟩ := List.mem_map.1 he
 rfl
theorem firsts11 (q : D) : Does QP gp 88 [.one (.d q)] (.one (.d (.fn (.func 113) [.bx [q]]))) := by
 refine f88_in ?_
 simp only [go_sem]
 repeat' (first | refine Kn rfl ?_ | ((first | refine Ka ?_ | refine Kb ?_ | refine Kc ?_ | refine Kd ?_ | refine Ke ?_); simp only [go_sem]) | refine Kf ?_ | refine Kg ?_ | refine Kp (fun _ => ?_) (fun _ => ?_) | ((first | refine Kh ?_ | refine Ki rfl ?_); simp only [or_self,Qs,Qt,Qu,Qv,Qw,Qx,Qy,Qz,Za,go_sem]))
set_option maxHeartbeats 2000000 in
theorem whole11 {g : Gr} (hg : Good g) : Does QP gp 56 [.one (.d (qD g))] (wholeG g).v := by
 have hcl := clsL_len hg.fine
 have hord := cls_ord hg.fine
 have hroot := clsA_at hg.fine hg.root
 have hr0 := hg.root
 have hgl := hg.len
 have hnew : ∀ (i : Nat) (c : Int),(clsL g.l)[i]? = some c -> ¬ c < nxtC ((clsL g.l).take i) 0 -> (wholeG g).l[nxtC ((clsL g.l).take i) 0]? = some (mapN (clsA g.l) (ndAt g.l i)) := fun i c h1 h2 => by
  have := fst_new (i0 := 0) h1 h2
  simp only [wholeG,List.getElem?_map]
  unfold fstL
  rw [show nxtC ((clsL g.l).take i) 0 = nxtC ((clsL g.l).take i) 0 - 0 by omega,this]
  simp
 have hend : (wholeG g).l.length = nxtC (clsL g.l) 0 := by
  rw [whole_len]; unfold fstL; rw [fst_len]; omega
 have hWlen : (wholeG g).l.length <= 200 := hg.whole.len
 have hWlen : (wholeG g).l.length <= 200 := hg.whole.len
 have hwr : (wholeG g).root = clsA g.l g.root := rfl
 have hkc : ∀ i : Int,∀ j ∈ kidsOf (ndAt g.l i),0 <= j /\ ∃ x,(clsL g.l)[j.toNat]? = some x /\ okI x := fun i j hj => by
  have h1 := hg.kid i j hj
  have h2 := clsA_lt hg.fine (i := j) h1
  have h3 := fstK_len (clsL g.l) 0 0
  refine ⟨h1.1,_,clsA_at hg.fine h1,?_⟩
  rw [show (fstL g.l).length = (fstK (clsL g.l) 0 0).length from rfl] at h2
  unfold okI; omega
 have hca : ∀ i : Int,(kidsOf (ndAt g.l i)).map (clsAt (clsL g.l)) = (kidsOf (ndAt g.l i)).map (clsA g.l) := fun _ => rfl
 generalize wholeG g = W at *
 rw [show W = ⟨W.root,W.l⟩ from rfl,hwr]
 refine f56_in ?_
 simp only [go_sem]
 have cf := firsts11 (gp := gp) (qD g)
 repeat' (first | refine Kn rfl ?_ | ((first | refine Ka ?_ | refine Kb ?_ | refine Kc ?_ | refine Kd ?_ | refine Ke ?_); simp only [go_sem]) | refine Kf ?_ | refine Kg ?_ | refine ⟨_,cf,Sh.intro ?_⟩ | refine ⟨_,⟨cf,rfl⟩,Sh.intro ?_⟩ | refine ⟨_,⟨hr0.1,ints_get hroot,rfl⟩,Sh.intro ?_⟩ | refine Kp (fun _ => ?_) (fun _ => ?_) | ((first | refine Kh ?_ | refine Ki rfl ?_); simp only [or_self,Qs,Qt,Qu,Qv,Qw,Qx,Qy,Qz,Za,go_sem]))
 refine G_row0c 1 1 6 (by decide) rfl rfl ?_
 simp only [go_sem]
 refine G_rf (f2 := 113) (caps := [.one (.d (.bx [qD g]))]) (fun pd own' => pd = none /\ ∃ rest,own' = .cells [.d (.int .i64 0),.nil] :: .cells [.d (.int .i64 (clsA g.l g.root)),.own 2 W.l.length] :: .row 6 W.l.length (nds W.l) :: rest) rfl ?_ f113_ok ?_ ?_ ?_
 ·intro y; simp only [go_sem]
 ·rintro b rc hps ⟨hs,hta,htb⟩
  refine f113_tri ?_
  simp only [go_sem]
  repeat' (first | refine Kn rfl ?_ | ((first | refine Ka ?_ | refine Kb ?_ | refine Kc ?_ | refine Kd ?_ | refine Ke ?_); simp only [go_sem]) | refine Kf ?_ | refine Kg ?_ | refine Kp (fun _ => ?_) (fun _ => ?_) | ((first | refine Kh ?_ | refine Ki rfl ?_); simp only [or_self,Qs,Qt,Qu,Qv,Qw,Qx,Qy,Qz,Za,go_sem]))
  refine Kj (fr 28 [(0,.one (.d (.raw (.func (.yield b) #[] #[])))),(1,.one (.d (.bx [qD g]))),(3,.one (.own 4 0)),(10,.one (.d (.sl (ints (clsL g.l))))),(11,vi (clsL g.l).length),(12,vi (0 : Nat))]) (by (simp only [go_sem]; repeat' (first | refine Kp ?_ ?_ | exact Or.inl rfl | exact Or.inr rfl | rfl))) ?_
  refine Km (fun mz sz => ∃ i : Nat,i <= (clsL g.l).length /\ mz = (clsL g.l).length - i /\ (0 <= i) /\ sz = ⟨fr 28 [(0,.one (.d (.raw (.func (.yield b) #[] #[])))),(1,.one (.d (.bx [qD g]))),(3,.one (.own 4 0)),(10,.one (.d (.sl (ints (clsL g.l))))),(11,vi (clsL g.l).length),(12,vi i)],[.cells [.d (.int .i64 0),.nil],.cells [.d (.int .i64 (clsA g.l g.root)),.own 2 (nxtC ((clsL g.l).take i) 0)],.row 6 (nxtC ((clsL g.l).take i) 0) (nds (W.l.take (nxtC ((clsL g.l).take i) 0))),.lp b _ rc .ready none,.map (metQ (nxtC ((clsL g.l).take i) 0))]⟩) ((clsL g.l).length) ⟨0,Nat.zero_le _,(Nat.sub_zero _).symm,?_,rfl⟩ ?_
  ·exact Nat.zero_le _
  rintro _ _ ⟨i,hi,rfl,-,rfl⟩
  simp only [go_sem]
  by_cases hil : i < (clsL g.l).length
  ·obtain ⟨c,hc⟩ := at_lt hil
   obtain ⟨x,hx⟩ := at_lt (l := g.l) (i := i) (by omega)
   obtain ⟨hin,hnd⟩ := at_inL hx
   have e1 : decide ((i : Int) < ((clsL g.l).length : Int)) = true := decide_eq_true (by omega)
   obtain ⟨h1,h2,h3⟩ := ordC_at hord hc
   have hn := hnew i c hc
   have hf := findV_set (v := vb true) eqV_int (upI (nxtC ((clsL g.l).take i) 0)) c
   generalize hk : nxtC ((clsL g.l).take i) 0 = k at *
   generalize hk2 : nxtC ((clsL g.l).take (i + 1)) 0 = k2 at *
   by_cases hlt : c < k
   ·rw [if_pos hlt] at h3
    subst h3
    rw [if_pos (upI_mem.2 ⟨h1,hlt⟩)] at hf
    repeat' (first | refine Kn rfl ?_ | ((first | refine Ka ?_ | refine Kb ?_ | refine Kc ?_ | refine Kd ?_ | refine Ke ?_); simp only [e1,go_sem]) | refine Kf ?_ | refine Kg ?_ | refine ⟨_,⟨Int.natCast_nonneg _,ints_get hc,rfl⟩,Sh.intro ?_⟩ | refine ⟨_,⟨hf,rfl⟩,Sh.intro ?_⟩ | (refine Kp (fun _ => ?_) (fun _ => ?_) <;> try (exfalso; omega)) | ((first | refine Kh ?_ | refine Ki rfl ?_); simp only [e1,or_self,Qs,Qt,Qu,Qv,Qw,Qx,Qy,Qz,Za,go_sem]))
    refine ⟨inK_nat hil (by unfold lenMax; omega),?_⟩
    refine Kj (fr 28 [(0,.one (.d (.raw (.func (.yield b) #[] #[])))),(1,.one (.d (.bx [qD g]))),(3,.one (.own 4 0)),(10,.one (.d (.sl (ints (clsL g.l))))),(11,vi (clsL g.l).length),(12,vi (i + 1))]) (by (simp only [go_sem]; repeat' (first | refine Kp ?_ ?_ | exact Or.inl rfl | exact Or.inr rfl | rfl))) ?_
    exact Kl ⟨(clsL g.l).length - (i + 1),by omega,i + 1,by omega,rfl,Nat.zero_le _,by rw [hk2]; rfl⟩
   ·rw [if_neg hlt] at h3
    subst h3
    obtain rfl : c = (k : Int) := by omega
    rw [if_neg (fun h => by have := (upI_mem.1 h).2; omega)] at hf
    have hput := putM_new (v := vb true) eqV_int (upI k) (k : Int) (fun h => by have := (upI_mem.1 h).2; omega)
    rw [<- upI_succ] at hput
    have hW := hn (by omega)
    have hWl := (List.getElem?_eq_some_iff.1 hW).1
    have hsn := nds_snoc hW
    have ck := keys (gp := gp) g i hg.s
    have ckd := kids (gp := gp) g i hg.s
    have hkl := kidsOf_len (ndAt g.l i) 12 (hg.s.at i)
    have cc := qclasses (gp := gp) g (clsL g.l) (kidsOf (ndAt g.l i)) (by omega) (hkc i)
    rw [hca] at cc
    have hx' : g.l[i]? = some (ndAt g.l i) := by rw [hnd]; exact hx
    unfold mapN at hsn
    generalize ndAt g.l i = y at *
    have htl : (W.l.take k).length = k := by simp; omega
    have hWb := hWlen
    repeat' (first | refine Kn rfl ?_ | ((first | refine Ka ?_ | refine Kb ?_ | refine Kc ?_ | refine Kd ?_ | refine Ke ?_); simp only [e1,go_sem]) | refine Kf ?_ | refine Kg ?_ | refine ⟨_,⟨Int.natCast_nonneg _,ints_get hc,rfl⟩,Sh.intro ?_⟩ | refine ⟨_,⟨hf,rfl⟩,Sh.intro ?_⟩ | refine ⟨_,hput,Sh.intro ?_⟩ | (refine Kp (fun _ => ?_) (fun _ => ?_) <;> try (exfalso; omega)) | ((first | refine Kh ?_ | refine Ki rfl ?_); simp only [e1,or_self,Qs,Qt,Qu,Qv,Qw,Qx,Qy,Qz,Za,go_sem]))
    refine ⟨[.cells [.d (.int .i64 0),.nil],.cells [.d (.int .i64 (clsA g.l g.root)),.own 2 (k + 1)],.row 6 (k + 1) (nds (W.l.take (k + 1))),.lp b _ rc .ready none,.map (metQ (k + 1))],true,by simp,⟨3,_,rc,hs,_,_,[.cells [.d (.int .i64 0),.nil],.cells [.d (.int .i64 (clsA g.l g.root)),.own 2 (k + 1)],.row 6 (k + 1) (nds (W.l.take (k + 1))),.dead,.map (metQ (k + 1))],none,rfl,by rw [<- Array.length_toList,hps]; rfl,hta,htb,?_,rfl,rfl⟩,Sh.intro ?_⟩
    ·rw [hps]
     simp only [go_sem]
     repeat' (first | refine Kn rfl ?_ | ((first | refine Ka ?_ | refine Kb ?_ | refine Kc ?_ | refine Kd ?_ | refine Ke ?_); simp only [go_sem]) | refine Kf ?_ | refine Kg ?_ | refine Kp (fun _ => ?_) (fun _ => ?_) | ((first | refine Kh ?_ | refine Ki rfl ?_); simp only [or_self,Qs,Qt,Qu,Qv,Qw,Qx,Qy,Qz,Za,go_sem]))
     refine G_rnd ⟨rfl,?_⟩
     repeat' (first | refine Kn rfl ?_ | ((first | refine Ka ?_ | refine Kb ?_ | refine Kc ?_ | refine Kd ?_ | refine Ke ?_); simp only [go_sem]) | refine Kf ?_ | refine Kg ?_ | refine ⟨_,ck,Sh.intro ?_⟩ | refine ⟨_,⟨ck,rfl⟩,Sh.intro ?_⟩ | refine ⟨_,ckd,Sh.intro ?_⟩ | refine ⟨_,⟨ckd,rfl⟩,Sh.intro ?_⟩ | refine ⟨_,cc,Sh.intro ?_⟩ | refine ⟨_,⟨cc,rfl⟩,Sh.intro ?_⟩ | refine ⟨_,⟨Int.natCast_nonneg _,nds_get hx',rfl⟩,Sh.intro ?_⟩ | refine ⟨_,⟨Int.natCast_nonneg _,nds_get hx',rfl⟩,Sh.intro ?_⟩ | refine Kp (fun _ => ?_) (fun _ => ?_) | ((first | refine Kh ?_ | refine Ki rfl ?_); simp only [or_self,Qs,Qt,Qu,Qv,Qw,Qx,Qy,Qz,Za,go_sem]))
     refine ⟨by simp,by simp [nds]; omega,by simp [lenMax,nds]; omega,?_⟩
     rw [hsn]
     repeat' (first | refine Kn rfl ?_ | ((first | refine Ka ?_ | refine Kb ?_ | refine Kc ?_ | refine Kd ?_ | refine Ke ?_); simp only [go_sem]) | refine Kf ?_ | refine Kg ?_ | refine Kp (fun _ => ?_) (fun _ => ?_) | ((first | refine Kh ?_ | refine Ki rfl ?_); simp only [or_self,Qs,Qt,Qu,Qv,Qw,Qx,Qy,Qz,Za,go_sem]))
     exact G_rnd ⟨⟨rfl,rfl⟩,rfl⟩
    ·simp only [go_sem]
     repeat' (first | refine Kn rfl ?_ | ((first | refine Ka ?_ | refine Kb ?_ | refine Kc ?_ | refine Kd ?_ | refine Ke ?_); simp only [go_sem]) | refine Kf ?_ | refine Kg ?_ | refine Kp (fun _ => ?_) (fun _ => ?_) | ((first | refine Kh ?_ | refine Ki rfl ?_); simp only [or_self,Qs,Qt,Qu,Qv,Qw,Qx,Qy,Qz,Za,go_sem]))
     refine ⟨inK_nat hil (by unfold lenMax; omega),?_⟩
     refine Kj (fr 28 [(0,.one (.d (.raw (.func (.yield b) #[] #[])))),(1,.one (.d (.bx [qD g]))),(3,.one (.own 4 0)),(10,.one (.d (.sl (ints (clsL g.l))))),(11,vi (clsL g.l).length),(12,vi (i + 1))]) (by (simp only [go_sem]; repeat' (first | refine Kp ?_ ?_ | exact Or.inl rfl | exact Or.inr rfl | rfl))) ?_
     refine Kk 5 (by simp only [List.length_nil,List.length_cons]; decide) (by simp only [go_sem]) (by simp only [List.take_succ_cons,List.take_zero,List.all_cons,List.all_nil,metQ_refs]; simp only [go_sem]) ?_
     simp only [go_sem]
     exact Kl ⟨(clsL g.l).length - (i + 1),by omega,i + 1,by omega,rfl,Nat.zero_le _,by rw [hk2]; rfl⟩
  ·obtain rfl : i = (clsL g.l).length := by omega
   have e1 : decide (((clsL g.l).length : Int) < ((clsL g.l).length : Int)) = false := decide_eq_false (by omega)
   rw [List.take_of_length_le (Nat.le_refl _),<- hend,List.take_of_length_le (Nat.le_refl _)]
   repeat' (first | refine Kn rfl ?_ | ((first | refine Ka ?_ | refine Kb ?_ | refine Kc ?_ | refine Kd ?_ | refine Ke ?_); simp only [e1,go_sem]) | refine Kf ?_ | refine Kg ?_ | refine Kp (fun _ => ?_) (fun _ => ?_) | ((first | refine Kh ?_ | refine Ki rfl ?_); simp only [e1,or_self,Qs,Qt,Qu,Qv,Qw,Qx,Qy,Qz,Za,go_sem]))
   exact ⟨.ready,none,rfl,by simp,rfl,_,rfl⟩
 ·rintro own' ⟨_,rest,rfl⟩
  simp only [go_sem]
  refine Kj (fr 73 [(2,.one (.ptr 0 0)),(3,.one (.ptr 1 0))]) (by (simp only [go_sem]; repeat' (first | refine Kp ?_ ?_ | exact Or.inl rfl | exact Or.inr rfl | rfl))) ?_
  refine Kk 3 (by simp only [List.length_nil,List.length_cons]; decide) (by simp only [go_sem]) (by simp only [go_sem]) ?_
  simp only [go_sem]
  refine G_freeze 2 ?_
  simp only [go_sem]
  repeat' (first | refine Kn rfl ?_ | ((first | refine Ka ?_ | refine Kb ?_ | refine Kc ?_ | refine Kd ?_ | refine Ke ?_); simp only [go_sem]) | refine Kf ?_ | refine Kg ?_ | refine Kp (fun _ => ?_) (fun _ => ?_) | ((first | refine Kh ?_ | refine Ki rfl ?_); simp only [or_self,Qs,Qt,Qu,Qv,Qw,Qx,Qy,Qz,Za,go_sem]))
  all_goals trace_state
 ·rintro _ _ ⟨h,_⟩; cases h
noncomputable def qOf (g : Gr) : Gr := if chk g = none then quotG g else ⟨0,[]⟩
theorem qOf_good {g : Gr} (h : Good g) : qOf g = quotG g := by unfold qOf; rw [if_pos h.c]
theorem quot11 (h : Env10 gp) (g : Gr) (hs : Small g) (hst : ∀ x ∈ g.l,x.short) : Does QP gp 25 [g.v] (.tup [(qOf g).v,vi (chkE g)]) := by
 refine f25_in ?_
 simp only [go_sem]
 have c1 := qof h g hs hst
 have c2 := fun e => qtold (gp := gp) h.e.e e
 by_cases hc : chk g = none
 ·have hg : Good g := ⟨hc,hs⟩
  rw [if_pos hc] at c1
  rw [qOf_good hg,chkE_ok hc]
  have c3 := whole11 (gp := gp) hg
  have c4 := tidy_gr h.e (wholeG g) hg.whole.s
  rw [tOf_good hg.whole,chkE_ok hg.whole.c] at c4
  unfold quotG
  simp only [errQ] at c1
  repeat' (first | refine Kn rfl ?_ | ((first | refine Ka ?_ | refine Kb ?_ | refine Kc ?_ | refine Kd ?_ | refine Ke ?_); simp only [go_sem]) | refine Kf ?_ | refine Kg ?_ | refine ⟨_,c1,Sh.intro ?_⟩ | refine ⟨_,⟨c1,rfl⟩,Sh.intro ?_⟩ | refine ⟨_,c3,Sh.intro ?_⟩ | refine ⟨_,⟨c3,rfl⟩,Sh.intro ?_⟩ | refine ⟨_,c4,Sh.intro ?_⟩ | refine ⟨_,⟨c4,rfl⟩,Sh.intro ?_⟩ | refine Kp (fun _ => ?_) (fun _ => ?_) | ((first | refine Kh ?_ | refine Ki rfl ?_); simp only [or_self,Qs,Qt,Qu,Qv,Qw,Qx,Qy,Qz,Za,go_sem]))
  all_goals trace_state
 ·rw [if_neg hc] at c1
  have e0 : qOf g = ⟨0,[]⟩ := by unfold qOf; rw [if_neg hc]
  rw [e0]
  have c3 := c2 (some (chkE g))
  generalize chkE g = e at *
  simp only [errQ,Option.getD_some] at c1 c3
  repeat' (first | refine Kn rfl ?_ | ((first | refine Ka ?_ | refine Kb ?_ | refine Kc ?_ | refine Kd ?_ | refine Ke ?_); simp only [go_sem]) | refine Kf ?_ | refine Kg ?_ | refine ⟨_,c1,Sh.intro ?_⟩ | refine ⟨_,⟨c1,rfl⟩,Sh.intro ?_⟩ | refine ⟨_,c3,Sh.intro ?_⟩ | refine ⟨_,⟨c3,rfl⟩,Sh.intro ?_⟩ | refine Kp (fun _ => ?_) (fun _ => ?_) | ((first | refine Kh ?_ | refine Ki rfl ?_); simp only [or_self,Qs,Qt,Qu,Qv,Qw,Qx,Qy,Qz,Za,go_sem]))
  all_goals trace_state
theorem isred11 (h : Env10 gp) (g : Gr) (hs : Small g) (hst : ∀ x ∈ g.l,x.short) : Does QP gp 30 [g.v] (vb (decide (chk g = none /\ g = quotG g))) := by
 refine f30_in ?_
 simp only [go_sem]
 have c1 := quot11 h g hs hst
 by_cases hc : chk g = none
 ·rw [qOf_good ⟨hc,hs⟩,chkE_ok hc] at c1
  repeat' (first | refine Kn rfl ?_ | ((first | refine Ka ?_ | refine Kb ?_ | refine Kc ?_ | refine Kd ?_ | refine Ke ?_); simp only [go_sem]) | refine Kf ?_ | refine Kg ?_ | refine ⟨_,c1,Sh.intro ?_⟩ | refine ⟨_,⟨c1,rfl⟩,Sh.intro ?_⟩ | refine ⟨_,same_gr g (quotG g),Sh.intro ?_⟩ | refine ⟨_,⟨same_gr g (quotG g),rfl⟩,Sh.intro ?_⟩ | refine Kp (fun _ => ?_) (fun _ => ?_) | ((first | refine Kh ?_ | refine Ki rfl ?_); simp only [or_self,Qs,Qt,Qu,Qv,Qw,Qx,Qy,Qz,Za,go_sem]))
  simp [hc]
 ·have he := chkE_bad hc
  generalize chkE g = e at *
  have e1 : (e == 0) = false := by simpa using he
  repeat' (first | refine Kn rfl ?_ | ((first | refine Ka ?_ | refine Kb ?_ | refine Kc ?_ | refine Kd ?_ | refine Ke ?_); simp only [e1,go_sem]) | refine Kf ?_ | refine Kg ?_ | refine ⟨_,c1,Sh.intro ?_⟩ | refine ⟨_,⟨c1,rfl⟩,Sh.intro ?_⟩ | refine ⟨_,same_gr g (qOf g),Sh.intro ?_⟩ | refine ⟨_,⟨same_gr g (qOf g),rfl⟩,Sh.intro ?_⟩ | refine Kp (fun _ => ?_) (fun _ => ?_) | ((first | refine Kh ?_ | refine Ki rfl ?_); simp only [e1,or_self,Qs,Qt,Qu,Qv,Qw,Qx,Qy,Qz,Za,go_sem]))
  all_goals simp_all
noncomputable def pOf (g : Gr) : List Int := if chk g = none then plcG g else []
set_option maxHeartbeats 1000000 in
theorem places11 (h : Env10 gp) (g : Gr) (hs : Small g) (hst : ∀ x ∈ g.l,x.short) : Does QP gp 27 [g.v] (.tup [.one (.d (.sl (ints (pOf g)))),vi (chkE g)]) := by
 refine f27_in ?_
 simp only [go_sem]
 have c1 := qof h g hs hst
 by_cases hc : chk g = none
 ·have hg : Good g := ⟨hc,hs⟩
  have hcl := clsL_len hg.fine
  have hgl := hg.len
  have hwn := hg.whole.wnodup
  have hwl := hg.whole.wlen
  have hwk := hg.whole.len
  rw [if_pos hc] at c1
  have e0 : pOf g = plcG g := by unfold pOf; rw [if_pos hc]
  rw [e0,chkE_ok hc]
  have c3 := whole11 (gp := gp) hg
  have c4 := walk_gr h.e (wholeG g) hg.whole.s
  rw [wOf_good hg.whole,chkE_ok hg.whole.c] at c4
  simp only [errQ] at c1
  unfold plcG
  generalize wholeG g = W at *
  generalize walkL W = w at *
  repeat' (first | refine Kn rfl ?_ | ((first | refine Ka ?_ | refine Kb ?_ | refine Kc ?_ | refine Kd ?_ | refine Ke ?_); simp only [f27_r0,f27_r1,f27_r2,f27_r3,f27_r9,f27_r10,f27_r11,f27_r12,f27_r13,f27_r17,f27_r18,f27_r21,f27_r28,f27_r29,f27_r30,f27_r34,f27_r35,f27_r36,f27_r37,f27_r41,f27_r46,f27_r53,go_sem]) | refine Kf ?_ | refine Kg ?_ | refine ⟨_,c1,Sh.intro ?_⟩ | refine ⟨_,⟨c1,rfl⟩,Sh.intro ?_⟩ | refine ⟨_,c3,Sh.intro ?_⟩ | refine ⟨_,⟨c3,rfl⟩,Sh.intro ?_⟩ | refine ⟨_,c4,Sh.intro ?_⟩ | refine ⟨_,⟨c4,rfl⟩,Sh.intro ?_⟩ | refine Kp (fun _ => ?_) (fun _ => ?_) | ((first | refine Kh ?_ | refine Ki rfl ?_); simp only [f27_r0,f27_r1,f27_r2,f27_r3,f27_r9,f27_r10,f27_r11,f27_r12,f27_r13,f27_r17,f27_r18,f27_r21,f27_r28,f27_r29,f27_r30,f27_r34,f27_r35,f27_r36,f27_r37,f27_r41,f27_r46,f27_r53,or_self,Qs,Qt,Qu,Qv,Qw,Qx,Qy,Qz,Za,go_sem]))
  have hPl : ((clsL g.l).map fun c => if c ∈ w then (w.idxOf c : Int) else -1).length = (clsL g.l).length := by simp
  have hPa : ∀ (i : Nat) (c : Int),(clsL g.l)[i]? = some c -> ((clsL g.l).map fun c => if c ∈ w then (w.idxOf c : Int) else -1)[i]? = some (if c ∈ w then (w.idxOf c : Int) else -1) := fun i c h => by rw [List.getElem?_map,h]; rfl
  generalize ((clsL g.l).map fun c => if c ∈ w then (w.idxOf c : Int) else -1) = P at *
  refine Kj (fr 70 [(4,.one (.d (qD g))),(8,vi 0),(9,.one (.own 0 0)),(35,.one (.d (.sl (ints w)))),(36,vi w.length),(37,vi ((0 : Nat) : Int))]) (by (simp only [go_sem]; repeat' (first | refine Kp ?_ ?_ | exact Or.inl rfl | exact Or.inr rfl | rfl))) ?_
  rw [show Ch.map [] = Ch.map (ent (w.take 0)) from rfl]
  refine Kj (fr 70 [(4,.one (.d (qD g))),(8,vi 0),(9,.one (.own 0 0)),(35,.one (.d (.sl (ints w)))),(36,vi w.length),(37,vi (0 : Nat))]) (by (simp only [go_sem]; repeat' (first | refine Kp ?_ ?_ | exact Or.inl rfl | exact Or.inr rfl | rfl))) ?_
  refine Km (fun mz sz => ∃ i : Nat,i <= w.length /\ mz = w.length - i /\ (0 <= i) /\ sz = ⟨fr 70 [(4,.one (.d (qD g))),(8,vi 0),(9,.one (.own 0 0)),(35,.one (.d (.sl (ints w)))),(36,vi w.length),(37,vi i)],[.map (ent (w.take i))]⟩) (w.length) ⟨0,Nat.zero_le _,(Nat.sub_zero _).symm,?_,rfl⟩ ?_
  ·exact Nat.zero_le _
  rintro _ _ ⟨i,hi,rfl,-,rfl⟩
  simp only [go_sem]
  by_cases hil : i < w.length
  ·obtain ⟨x,hx⟩ := at_lt hil
   have e1 : decide ((i : Int) < (w.length : Int)) = true := decide_eq_true (by omega)
   have hput := ent_put (l := w.take i) (x := x) (fun hm => nodup_at hx hm hwn)
   rw [take_snoc hx,show (w.take i).length = i by simp; omega] at hput
   repeat' (first | refine Kn rfl ?_ | ((first | refine Ka ?_ | refine Kb ?_ | refine Kc ?_ | refine Kd ?_ | refine Ke ?_); simp only [f27_r0,f27_r1,f27_r2,f27_r3,f27_r9,f27_r10,f27_r11,f27_r12,f27_r13,f27_r17,f27_r18,f27_r21,f27_r28,f27_r29,f27_r30,f27_r34,f27_r35,f27_r36,f27_r37,f27_r41,f27_r46,f27_r53,e1,go_sem]) | refine Kf ?_ | refine Kg ?_ | refine ⟨_,⟨Int.natCast_nonneg _,ints_get hx,rfl⟩,Sh.intro ?_⟩ | refine ⟨_,hput,Sh.intro ?_⟩ | refine Kp (fun _ => ?_) (fun _ => ?_) | ((first | refine Kh ?_ | refine Ki rfl ?_); simp only [f27_r0,f27_r1,f27_r2,f27_r3,f27_r9,f27_r10,f27_r11,f27_r12,f27_r13,f27_r17,f27_r18,f27_r21,f27_r28,f27_r29,f27_r30,f27_r34,f27_r35,f27_r36,f27_r37,f27_r41,f27_r46,f27_r53,e1,or_self,Qs,Qt,Qu,Qv,Qw,Qx,Qy,Qz,Za,go_sem]))
   refine ⟨inK_nat hil (by unfold lenMax; omega),?_⟩
   refine Kj (fr 70 [(4,.one (.d (qD g))),(8,vi 0),(9,.one (.own 0 0)),(35,.one (.d (.sl (ints w)))),(36,vi w.length),(37,vi (i + 1))]) (by (simp only [go_sem]; repeat' (first | refine Kp ?_ ?_ | exact Or.inl rfl | exact Or.inr rfl | rfl))) ?_
   refine Kl ⟨w.length - (i + 1),by omega,i + 1,by omega,rfl,?_,rfl⟩
   exact Nat.zero_le _
  ·obtain rfl : i = w.length := by omega
   have e1 : decide ((w.length : Int) < (w.length : Int)) = false := decide_eq_false (by omega)
   rw [List.take_of_length_le (Nat.le_refl _)]
   repeat' (first | refine Kn rfl ?_ | ((first | refine Ka ?_ | refine Kb ?_ | refine Kc ?_ | refine Kd ?_ | refine Ke ?_); simp only [f27_r0,f27_r1,f27_r2,f27_r3,f27_r9,f27_r10,f27_r11,f27_r12,f27_r13,f27_r17,f27_r18,f27_r21,f27_r28,f27_r29,f27_r30,f27_r34,f27_r35,f27_r36,f27_r37,f27_r41,f27_r46,f27_r53,e1,go_sem]) | refine Kf ?_ | refine Kg ?_ | refine Kp (fun _ => ?_) (fun _ => ?_) | ((first | refine Kh ?_ | refine Ki rfl ?_); simp only [f27_r0,f27_r1,f27_r2,f27_r3,f27_r9,f27_r10,f27_r11,f27_r12,f27_r13,f27_r17,f27_r18,f27_r21,f27_r28,f27_r29,f27_r30,f27_r34,f27_r35,f27_r36,f27_r37,f27_r41,f27_r46,f27_r53,e1,or_self,Qs,Qt,Qu,Qv,Qw,Qx,Qy,Qz,Za,go_sem]))
   refine G_row0 12 1 (by decide) rfl ?_
   simp only [go_sem]
   refine Kj (fr 70 [(8,vi 0),(9,.one (.own 0 0)),(12,.one (.own 1 (0 : Nat))),(49,.one (.d (.sl (ints (clsL g.l))))),(50,vi (clsL g.l).length),(51,vi (0 : Nat))]) (by (simp only [go_sem]; repeat' (first | refine Kp ?_ ?_ | exact Or.inl rfl | exact Or.inr rfl | rfl))) ?_
   refine Km (fun mz sz => ∃ i : Nat,i <= (clsL g.l).length /\ mz = (clsL g.l).length - i /\ (0 <= i) /\ sz = ⟨fr 70 [(8,vi 0),(9,.one (.own 0 0)),(12,.one (.own 1 i)),(49,.one (.d (.sl (ints (clsL g.l))))),(50,vi (clsL g.l).length),(51,vi i)],[.map (ent w),.row 1 i (ints (P.take i))]⟩) ((clsL g.l).length) ⟨0,Nat.zero_le _,(Nat.sub_zero _).symm,?_,rfl⟩ ?_
   ·exact Nat.zero_le _
   rintro _ _ ⟨i,hi,rfl,-,rfl⟩
   simp only [go_sem]
   by_cases hil : i < (clsL g.l).length
   ·obtain ⟨c,hx⟩ := at_lt hil
    have e1 : decide ((i : Int) < ((clsL g.l).length : Int)) = true := decide_eq_true (by omega)
    have hPi := hPa i c hx
    have hsn := ints_snoc hPi
    have hf := ent_find w c
    by_cases hm : c ∈ w
    ·rw [if_pos hm] at hsn hf
     repeat' (first | refine Kn rfl ?_ | ((first | refine Ka ?_ | refine Kb ?_ | refine Kc ?_ | refine Kd ?_ | refine Ke ?_); simp only [f27_r0,f27_r1,f27_r2,f27_r3,f27_r9,f27_r10,f27_r11,f27_r12,f27_r13,f27_r17,f27_r18,f27_r21,f27_r28,f27_r29,f27_r30,f27_r34,f27_r35,f27_r36,f27_r37,f27_r41,f27_r46,f27_r53,e1,go_sem]) | refine Kf ?_ | refine Kg ?_ | refine ⟨_,⟨Int.natCast_nonneg _,ints_get hx,rfl⟩,Sh.intro ?_⟩ | refine ⟨_,⟨hf,rfl⟩,Sh.intro ?_⟩ | refine Kp (fun _ => ?_) (fun _ => ?_) | ((first | refine Kh ?_ | refine Ki rfl ?_); simp only [f27_r0,f27_r1,f27_r2,f27_r3,f27_r9,f27_r10,f27_r11,f27_r12,f27_r13,f27_r17,f27_r18,f27_r21,f27_r28,f27_r29,f27_r30,f27_r34,f27_r35,f27_r36,f27_r37,f27_r41,f27_r46,f27_r53,e1,or_self,Qs,Qt,Qu,Qv,Qw,Qx,Qy,Qz,Za,go_sem]))
     refine ⟨by simp,by simp; omega,by simp [lenMax]; omega,?_⟩
     rw [hsn]
     repeat' (first | refine Kn rfl ?_ | ((first | refine Ka ?_ | refine Kb ?_ | refine Kc ?_ | refine Kd ?_ | refine Ke ?_); simp only [f27_r0,f27_r1,f27_r2,f27_r3,f27_r9,f27_r10,f27_r11,f27_r12,f27_r13,f27_r17,f27_r18,f27_r21,f27_r28,f27_r29,f27_r30,f27_r34,f27_r35,f27_r36,f27_r37,f27_r41,f27_r46,f27_r53,go_sem]) | refine Kf ?_ | refine Kg ?_ | refine Kp (fun _ => ?_) (fun _ => ?_) | ((first | refine Kh ?_ | refine Ki rfl ?_); simp only [f27_r0,f27_r1,f27_r2,f27_r3,f27_r9,f27_r10,f27_r11,f27_r12,f27_r13,f27_r17,f27_r18,f27_r21,f27_r28,f27_r29,f27_r30,f27_r34,f27_r35,f27_r36,f27_r37,f27_r41,f27_r46,f27_r53,or_self,Qs,Qt,Qu,Qv,Qw,Qx,Qy,Qz,Za,go_sem]))
     refine ⟨inK_nat hil (by unfold lenMax; omega),?_⟩
     refine Kj (fr 70 [(8,vi 0),(9,.one (.own 0 0)),(12,.one (.own 1 (i + 1))),(49,.one (.d (.sl (ints (clsL g.l))))),(50,vi (clsL g.l).length),(51,vi (i + 1))]) (by (simp only [go_sem]; repeat' (first | refine Kp ?_ ?_ | exact Or.inl rfl | exact Or.inr rfl | rfl))) ?_
     refine Kk 2 (by simp only [List.length_nil,List.length_cons]; decide) (by simp only [go_sem]) (by simp only [List.take_succ_cons,List.take_zero,List.all_cons,List.all_nil,ent_refs]; try simp only [go_sem]) ?_
     simp only [go_sem]
     refine Kl ⟨(clsL g.l).length - (i + 1),by omega,i + 1,by omega,rfl,?_,rfl⟩
     exact Nat.zero_le _
    ·rw [if_neg hm] at hsn hf
     repeat' (first | refine Kn rfl ?_ | ((first | refine Ka ?_ | refine Kb ?_ | refine Kc ?_ | refine Kd ?_ | refine Ke ?_); simp only [f27_r0,f27_r1,f27_r2,f27_r3,f27_r9,f27_r10,f27_r11,f27_r12,f27_r13,f27_r17,f27_r18,f27_r21,f27_r28,f27_r29,f27_r30,f27_r34,f27_r35,f27_r36,f27_r37,f27_r41,f27_r46,f27_r53,e1,go_sem]) | refine Kf ?_ | refine Kg ?_ | refine ⟨_,⟨Int.natCast_nonneg _,ints_get hx,rfl⟩,Sh.intro ?_⟩ | refine ⟨_,⟨hf,rfl⟩,Sh.intro ?_⟩ | refine Kp (fun _ => ?_) (fun _ => ?_) | ((first | refine Kh ?_ | refine Ki rfl ?_); simp only [f27_r0,f27_r1,f27_r2,f27_r3,f27_r9,f27_r10,f27_r11,f27_r12,f27_r13,f27_r17,f27_r18,f27_r21,f27_r28,f27_r29,f27_r30,f27_r34,f27_r35,f27_r36,f27_r37,f27_r41,f27_r46,f27_r53,e1,or_self,Qs,Qt,Qu,Qv,Qw,Qx,Qy,Qz,Za,go_sem]))
     refine ⟨by simp,by simp; omega,by simp [lenMax]; omega,?_⟩
     rw [hsn]
     repeat' (first | refine Kn rfl ?_ | ((first | refine Ka ?_ | refine Kb ?_ | refine Kc ?_ | refine Kd ?_ | refine Ke ?_); simp only [f27_r0,f27_r1,f27_r2,f27_r3,f27_r9,f27_r10,f27_r11,f27_r12,f27_r13,f27_r17,f27_r18,f27_r21,f27_r28,f27_r29,f27_r30,f27_r34,f27_r35,f27_r36,f27_r37,f27_r41,f27_r46,f27_r53,go_sem]) | refine Kf ?_ | refine Kg ?_ | refine Kp (fun _ => ?_) (fun _ => ?_) | ((first | refine Kh ?_ | refine Ki rfl ?_); simp only [f27_r0,f27_r1,f27_r2,f27_r3,f27_r9,f27_r10,f27_r11,f27_r12,f27_r13,f27_r17,f27_r18,f27_r21,f27_r28,f27_r29,f27_r30,f27_r34,f27_r35,f27_r36,f27_r37,f27_r41,f27_r46,f27_r53,or_self,Qs,Qt,Qu,Qv,Qw,Qx,Qy,Qz,Za,go_sem]))
     refine ⟨inK_nat hil (by unfold lenMax; omega),?_⟩
     refine Kj (fr 70 [(8,vi 0),(9,.one (.own 0 0)),(12,.one (.own 1 (i + 1))),(49,.one (.d (.sl (ints (clsL g.l))))),(50,vi (clsL g.l).length),(51,vi (i + 1))]) (by (simp only [go_sem]; repeat' (first | refine Kp ?_ ?_ | exact Or.inl rfl | exact Or.inr rfl | rfl))) ?_
     refine Kk 2 (by simp only [List.length_nil,List.length_cons]; decide) (by simp only [go_sem]) (by simp only [List.take_succ_cons,List.take_zero,List.all_cons,List.all_nil,ent_refs]; try simp only [go_sem]) ?_
     simp only [go_sem]
     refine Kl ⟨(clsL g.l).length - (i + 1),by omega,i + 1,by omega,rfl,?_,rfl⟩
     exact Nat.zero_le _
   ·repeat refine Ko rfl ?_
    refine Ka ?_
    simp only [f27_r30,go_sem]
    repeat refine Ko rfl ?_
    refine Ke ?_
    simp only [go_sem]
    refine ⟨fun h => by exfalso; omega,fun _ => G_exit rfl ?_⟩
    obtain rfl : i = (clsL g.l).length := by omega
    rw [List.take_of_length_le (by omega)]
    refine G_freeze 1 ?_
    simp only [frzS,getC,List.map_cons,List.map_nil,ent_froz]
    simp only [go_sem]
    repeat' (first | refine Kn rfl ?_ | ((first | refine Ka ?_ | refine Kb ?_ | refine Kc ?_ | refine Kd ?_ | refine Ke ?_); simp only [f27_r0,f27_r1,f27_r2,f27_r3,f27_r9,f27_r10,f27_r11,f27_r12,f27_r13,f27_r17,f27_r18,f27_r21,f27_r28,f27_r29,f27_r30,f27_r34,f27_r35,f27_r36,f27_r37,f27_r41,f27_r46,f27_r53,go_sem]) | refine Kf ?_ | refine Kg ?_ | refine Kp (fun _ => ?_) (fun _ => ?_) | ((first | refine Kh ?_ | refine Ki rfl ?_); simp only [f27_r0,f27_r1,f27_r2,f27_r3,f27_r9,f27_r10,f27_r11,f27_r12,f27_r13,f27_r17,f27_r18,f27_r21,f27_r28,f27_r29,f27_r30,f27_r34,f27_r35,f27_r36,f27_r37,f27_r41,f27_r46,f27_r53,or_self,Qs,Qt,Qu,Qv,Qw,Qx,Qy,Qz,Za,go_sem]))
    all_goals trace_state
 ·rw [if_neg hc] at c1
  have e0 : pOf g = [] := by unfold pOf; rw [if_neg hc]
  rw [e0]
  have c3 := qtold (gp := gp) h.e.e (some (chkE g))
  generalize chkE g = e at *
  simp only [errQ,Option.getD_some] at c1 c3
  repeat' (first | refine Kn rfl ?_ | ((first | refine Ka ?_ | refine Kb ?_ | refine Kc ?_ | refine Kd ?_ | refine Ke ?_); simp only [f27_r0,f27_r1,f27_r2,f27_r3,f27_r9,f27_r10,f27_r11,f27_r12,f27_r13,f27_r17,f27_r18,f27_r21,f27_r28,f27_r29,f27_r30,f27_r34,f27_r35,f27_r36,f27_r37,f27_r41,f27_r46,f27_r53,go_sem]) | refine Kf ?_ | refine Kg ?_ | refine ⟨_,c1,Sh.intro ?_⟩ | refine ⟨_,⟨c1,rfl⟩,Sh.intro ?_⟩ | refine ⟨_,c3,Sh.intro ?_⟩ | refine ⟨_,⟨c3,rfl⟩,Sh.intro ?_⟩ | refine Kp (fun _ => ?_) (fun _ => ?_) | ((first | refine Kh ?_ | refine Ki rfl ?_); simp only [f27_r0,f27_r1,f27_r2,f27_r3,f27_r9,f27_r10,f27_r11,f27_r12,f27_r13,f27_r17,f27_r18,f27_r21,f27_r28,f27_r29,f27_r30,f27_r34,f27_r35,f27_r36,f27_r37,f27_r41,f27_r46,f27_r53,or_self,Qs,Qt,Qu,Qv,Qw,Qx,Qy,Qz,Za,go_sem]))
  all_goals trace_state
end Go.Fw.L07
