/- Chapter 9: errors.Is at the error that a walk of pairs ends with. (Turned from the kit's worked proof SentryIs.) -/
import Derived.Test.YtldjkoidjigjpaaGreatDoorIa
import Derived.WalkKit
import Derived.LaidEql
import Derived.Stop.Asserts
import Derived.RowKitTokens
import Derived.Test.YtldjkoidjigjpaaGreatDoorL07R
import Derived.Stop.LaidErr
set_option linter.all false
namespace Go.Fw.L07
open Go Go.Proofs Go.RowKit Go.Extern.Stop Go.Stop Go.Extern
theorem isTypeOf (v : Value) (w : World) : (Extern.ReflectliteType.typeOf #[.iface 290 v]).run Tryz.prog w = .ok (.iface 218 (.agg #[.pointer (some ⟨7,290,none⟩)])) w := by kernel_rfl
theorem isComparable (w : World) : ((Extern.ReflectliteType.method fun t => do Extern.Rtype.noPackHeld "Comparable" t; (fun a => Value.bool a.comparable) <$> typeInfo t) #[.agg #[.pointer (some ⟨7, 290, none⟩)]]).run Tryz.prog w = .ok (.bool true) w := by kernel_rfl
theorem isMComparable (v : Value) (w : World) : (Go.method 420 218 v "Comparable").run Tryz.prog w = .ok (230, v) w := by kernel_rfl
theorem isComp : (Tryz.prog.info? 290).map (·.comparable) = some true := by kernel_rfl
theorem isSize : (Tryz.prog.info? 308).map (·.size) = some 1 := by kernel_rfl
theorem isErrI : ∃ ms,Tryz.prog.underlying 73 = some (.interface ms) := by
 have h : (match Tryz.prog.underlying 73 with | some (.interface _) => true | _ => false) = true := by kernel_rfl
 split at h
 ·rename_i ms e; exact ⟨ms,e⟩
 ·cases h
theorem isErrP : Tryz.prog.underlying 290 = some (.pointer 308) := by kernel_rfl
set_option maxHeartbeats 4000000 in
set_option maxRecDepth 1000000 in
theorem is_same9 (a : Addr) (w : World) : Calls Tryz.prog 111 #[uE a,uE a] w fun e w' => e = .returned (.bool true) /\ w' = w := by
 obtain ⟨i,hi,hcmp⟩ := Option.map_eq_some_iff.1 isComp
 obtain ⟨j,hj,hjs⟩ := Option.map_eq_some_iff.1 isSize
 obtain ⟨ms,hms⟩ := isErrI
 have h8 := @run_callFunc_extern Tryz.prog 136 _ Extern.ReflectliteType.typeOf Tryz.func136 (by kernel_rfl) (by kernel_rfl) (by kernel_rfl) (by kernel_rfl)
 have h32 := @run_callFunc_extern Tryz.prog 230 _ (Extern.ReflectliteType.method fun t => do Extern.Rtype.noPackHeld "Comparable" t; pure (.bool (<- typeInfo t).comparable)) Tryz.func230 (by kernel_rfl) (by kernel_rfl) (by kernel_rfl) (by kernel_rfl)
 have tT := isTypeOf
 have cT := isComparable
 have mR := isMComparable
 have heq := run_eql_iface_ptr_same (P := Tryz.prog) w a hms isErrP hi hcmp hj
 go_enter Tryz.func111,Tryz.ntmps111
 go_wp2
 refine wp_loop_rounds 1 ?_
 rw [rounds_succ]
 go_wp2
 go_ret
 exact ⟨rfl,rfl⟩
set_option maxRecDepth 1000000 in
theorem is_nil9 (a : Addr) (w : World) : Calls Tryz.prog 111 #[.nilIface,uE a] w fun e w' => e = .returned (.bool false) /\ w' = w := by
 obtain ⟨ms,hms⟩ := isErrI
 have hn := run_eql_iface_nil_left (P := Tryz.prog) w 290 (.pointer (some a)) hms
 go_enter Tryz.func111,Tryz.ntmps111
 go_wp2
 go_ret
 exact ⟨rfl,rfl⟩
open Go.Fw
theorem is1_ok (gp : Heap) (a : Addr) : Does Go.Proofs.Tryz.prog gp 111 [.one (.d (iE a)),.one (.d (.raw (uE a)))] (vb true) := by
 refine ⟨by kernel_rfl,?_⟩
 intro H w an F us hgp hmod hanc hown hF hdj hargs
 obtain ⟨u1,u2,rfl,h1,h2⟩ : ∃ u1 u2,us = [u1,u2] /\ Den H (iE a) u1 /\ Den H (.raw (uE a)) u2 := by
  match us,hargs with
  | [u1,u2],h => exact ⟨u1,u2,rfl,h.1,h.2.1⟩
 cases h2
 cases h1 with
 | ifcV t c v hv =>
  cases hv
  intro cs
  obtain ⟨e,w',fr,⟨rfl,rfl⟩,g2,g3,g4⟩ := is_same9 a w cs
  refine ⟨_,w',fr,⟨_,_,[],H,an,F,rfl,⟨rfl,rfl⟩,WKeep.refl _ _,Heap.Le.refl _,hmod,fun b o hb => .inl hb,Anc.Le.refl _,hanc,hown,fun i b hb => ?_,hdj,Den.bool _⟩,g2,g3,g4⟩
  obtain ⟨k1,k2,k3⟩ := hF i b hb
  exact ⟨k1,k2,k3,.inr ⟨i,hb⟩⟩
theorem is0_ok (gp : Heap) (a : Addr) : Does Go.Proofs.Tryz.prog gp 111 [.one (.d .nilI),.one (.d (.raw (uE a)))] (vb false) := by
 refine ⟨by kernel_rfl,?_⟩
 intro H w an F us hgp hmod hanc hown hF hdj hargs
 obtain ⟨u1,u2,rfl,h1,h2⟩ : ∃ u1 u2,us = [u1,u2] /\ Den H .nilI u1 /\ Den H (.raw (uE a)) u2 := by
  match us,hargs with
  | [u1,u2],h => exact ⟨u1,u2,rfl,h.1,h.2.1⟩
 cases h2
 cases h1
 intro cs
 obtain ⟨e,w',fr,⟨rfl,rfl⟩,g2,g3,g4⟩ := is_nil9 a w cs
 refine ⟨_,w',fr,⟨_,_,[],H,an,F,rfl,⟨rfl,rfl⟩,WKeep.refl _ _,Heap.Le.refl _,hmod,fun b o hb => .inl hb,Anc.Le.refl _,hanc,hown,fun i b hb => ?_,hdj,Den.bool _⟩,g2,g3,g4⟩
 obtain ⟨k1,k2,k3⟩ := hF i b hb
 exact ⟨k1,k2,k3,.inr ⟨i,hb⟩⟩
end Go.Fw.L07
namespace Go.Fw.L07
open Go Go.Fw Go.Proofs Go.RowKit Go.Proofs.YtldjkoidjigjpaaGreatDoor
open Nat renaming reduceAdd -> Qa,reduceSub -> Qb,reduceMul -> Qc,reduceLeDiff -> Qd,reduceLT -> Qe,reduceEqDiff -> Qf
open Int renaming reduceToNat -> Qg,reduceLT -> Qh,reduceLE -> Qi,reduceGT -> Qj,reduceGE -> Qk,reduceEq -> Ql,reduceNe -> Qm,reduceBEq -> Qn,reduceBNe -> Qo,reduceAdd -> Qp,reduceSub -> Qq,reduceNeg -> Qr
open Go.Fw.V.one renaming injEq -> Qs
open Go.Fw.V.agg renaming injEq -> Qt
open Go.Fw.V.tup renaming injEq -> Qu
open Go.Fw.A.d renaming injEq -> Qv
open Go.Fw.D.bool renaming injEq -> Qw
open Go.Fw.D.int renaming injEq -> Qx
open Go.Fw.D.str renaming injEq -> Qy
open Go.Fw.D.sl renaming injEq -> Qz
open List.cons renaming injEq -> Za
set_option maxRecDepth 4000
abbrev laidL9 : List (String × DataW Unit) := [("unicode/utf8.acceptRanges", Rows.laid_unicode_utf8_acceptRanges), ("errors.errorType", Rows.laid_errors_errorType), ("sigillary/iso.errUnlike", Rows.laid_sigillary_iso_errUnlike), ("unicode/utf8.first", Rows.laid_unicode_utf8_first)]
abbrev laidD9 : List (String × DataW Unit) := [("unicode/utf8.acceptRanges", Rows.laid_unicode_utf8_acceptRanges), ("sigillary/iso.errUnlike", Rows.laid_sigillary_iso_errUnlike), ("unicode/utf8.first", Rows.laid_unicode_utf8_first)]
theorem gUn9 : Tryz.prog.globalNamed "sigillary/iso.errUnlike" = some 0 := by kernel_rfl
theorem gUnT9 : (Tryz.prog.globals[(0 : Nat)]?).map (·.type) = some 73 := by kernel_rfl
theorem star9 : "*" ++ "errors.errorString" = "*errors.errorString" := by decide
theorem row9 (u : TypeId) (h : Tryz.prog.typeName? 3 u = some "*errors.errorString") : u = 290 :=
 typeName_ptr_named (nm := "errors.errorString") (by rw [star9]; kernel_rfl) (by kernel_rfl) (by decide) u (by rw [star9]; exact h)
theorem und9 : ∃ f : Field,Tryz.prog.underlying 308 = some (.struct #[f]) /\ f.type = 9 /\ f.offset = 0 := by
 have h : (match Tryz.prog.underlying 308 with | some (.struct ⟨[f]⟩) => decide (f.type = 9 /\ f.offset = 0) | _ => false) = true := by kernel_rfl
 split at h
 ·rename_i f e
  exact ⟨f,e,(of_decide_eq_true h).1,(of_decide_eq_true h).2⟩
 ·cases h
theorem undS9 : Tryz.prog.underlying 9 = some .string := by kernel_rfl
theorem env9_of_laid {W : World} (h : laidMetH Tryz.prog laidL9 W) : ∃ ua,Env9 (allKnown W) ua := by
 have h' : laidMet Tryz.prog laidD9 W /\ handlesMet Tryz.prog [("errors.errorType", Rows.laid_errors_errorType)] W := h
 have mods : ∀ (H : Heap) (w : World),Heap.Le (allKnown W) H -> Models w H -> ∀ (b : Nat) (o : Obj),W.heap[b]? = some o -> w.heap[b]? = some o := fun H w h1 h2 b o hb => h2 b o (h1 b o hb)
 have cell : ∀ (H : Heap) (w : World),Heap.Le (allKnown W) H -> Models w H -> ∀ (a : Addr) (v : Value),W.cell? a = some v -> w.cell? a = some v := by
  intro H w h1 h2 a v hv
  unfold World.cell? at hv ⊢
  cases hb : W.heap[a.block]? with
  | none => rw [hb] at hv; simp at hv
  | some o => rw [mods H w h1 h2 _ _ hb]; rw [hb] at hv; exact hv
 have hU : Lib.Utf8Tabs 3 4 W :=
  utf8Tabs_of_reads (ρ := utfRen) { utfLays with } ⟨by kernel_rfl,by kernel_rfl,by kernel_rfl,by kernel_rfl,by kernel_rfl,by kernel_rfl,by kernel_rfl⟩
   (firstEq ▸ Lib.laidMet.reads h'.1 (.tail _ (.tail _ (.head _)))) (acceptEq ▸ Lib.laidMet.reads h'.1 (.head _))
 have hE : W.cell? ⟨1,0,none⟩ = some (.iface 218 (.agg #[.pointer (some ⟨7,73,none⟩)])) := by
  obtain ⟨name,u,ty,e1,e2,e3,e4,e5⟩ := h'.2 _ (List.mem_singleton.2 rfl)
  have en : name = [101,114,114,111,114] := (Option.some.inj e1).symm
  subst en
  obtain rfl := Option.some.inj (tRtype.symm.trans e2)
  have hm : ty ∈ (List.range (420 - 100)).filter fun t => Tryz.prog.rowNamed t [101,114,114,111,114] := List.mem_filter.2 ⟨List.mem_range.2 (by rw [<- sizeT]; exact e3),e4⟩
  rw [oneRow] at hm
  obtain rfl := List.mem_singleton.1 hm
  have hh : typeHandle Tryz.prog 73 = .pointer (some ⟨7,73,none⟩) := by kernel_rfl
  rw [hh] at e5
  simpa using World.var?_cell gErr e5 0
 have hEnv : Env (allKnown W) := by
  refine ⟨fun H w h1 h2 => ?_,fun H w h1 h2 => cell H w h1 h2 _ _ hE⟩
  obtain ⟨a,b⟩ := hU
  exact ⟨fun c hc => cell H w h1 h2 _ _ (a c hc),fun i hi => ⟨cell H w h1 h2 _ _ (b i hi).1,cell H w h1 h2 _ _ (b i hi).2⟩⟩
 obtain ⟨ms,hms⟩ := isErrI
 obtain ⟨f,hf,hft,hfo⟩ := und9
 have ht : laidMet Tryz.prog (("sigillary/iso.errUnlike", DataW.iface "*errors.errorString" (.ptr (.agg [.lit (.string [117, 110, 108, 105, 107, 101])]))) :: [("unicode/utf8.first", Rows.laid_unicode_utf8_first)]) W := laidMet.tail h'.1
 obtain ⟨a,s,hv,hc,hs,hz⟩ := laid_sentinel ht gUn9 gUnT9 hms row9 isErrP hf hft hfo undS9 (by kernel_rfl) (by kernel_rfl)
 refine ⟨a,hEnv,?_,is1_ok _ a,is0_ok _ a⟩
 simp only [World.var?,gUn9,Option.bind_some] at hv
 split at hv
 ·rename_i cs T fz e
  cases hv
  exact ⟨T,fz,e⟩
 ·cases hv
noncomputable def laidWorld9 (os : Os) : World := (laidWorld0 os).layVars Tryz.prog laidD9
theorem laidWorld9_os (os : Os) : (laidWorld9 os).os = os := World.layVars_os _ _ _
theorem laidWorld9_met (os : Os) (args : Array Value) : laidMetH Tryz.prog laidL9 ((laidWorld9 os).forCall (fun _ _ => 0) ⟨#[],args,[]⟩).memory := by
 refine laidMetH_of_parts ?_ (by kernel_rfl)
 have e : laidL9.filter (fun x => x.2.handleName?.isNone) = laidD9 := by kernel_rfl
 rw [e]
 have h : laidMet Tryz.prog laidD9 (laidWorld9 os) := laidMet_layVars (w0 := laidWorld0 os) (laidD9.map (·.1)) [] (by
   have e1 : (laidD9.filter fun x => (laidD9.map (·.1)).contains x.1) = laidD9 := by kernel_rfl
   rw [e1]; rfl) (by kernel_rfl) (by kernel_rfl) (by
   have e2 : (laidD9.filter fun x => !(laidD9.map (·.1)).contains x.1) = [] := by kernel_rfl
   rw [e2]; exact LaidIn.none)
 exact h.of_heap (by simp [World.memory,World.forCall,Input.heap])
end Go.Fw.L07
