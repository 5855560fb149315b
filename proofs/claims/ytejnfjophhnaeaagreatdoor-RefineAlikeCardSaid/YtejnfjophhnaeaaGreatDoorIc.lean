/- Chapter 9: errors.Is at the error that a walk of pairs ends with. (Turned from the kit's worked proof SentryIs.) -/
import Derived.Test.YtejnfjophhnaeaaGreatDoorIa
import Derived.WalkKit
import Derived.LaidEql
import Derived.Stop.Asserts
import Derived.RowKitTokens
import Derived.Test.YtejnfjophhnaeaaGreatDoorL07R
import Derived.Stop.LaidErr
set_option linter.all false
namespace Go.Fw.L07
open Go Go.Proofs Go.RowKit Go.Extern.Stop Go.Stop Go.Extern
theorem Yih (v : Value) (w : World) : (Extern.ReflectliteType.typeOf #[.iface 281 v]).run Tryz.prog w = .ok (.iface 211 (.agg #[.pointer (some ⟨7,281,none⟩)])) w := by kernel_rfl
theorem Xp7 (w : World) : ((Extern.ReflectliteType.method fun t => do Extern.Rtype.noPackHeld "Comparable" t; (fun a => Value.bool a.comparable) <$> typeInfo t) #[.agg #[.pointer (some ⟨7, 281, none⟩)]]).run Tryz.prog w = .ok (.bool true) w := by kernel_rfl
theorem Xn1 (v : Value) (w : World) : (Go.method 411 211 v "Comparable").run Tryz.prog w = .ok (215, v) w := by kernel_rfl
theorem Wft : (Tryz.prog.info? 281).map (·.comparable) = some true := by kernel_rfl
theorem Wfu : (Tryz.prog.info? 299).map (·.size) = some 1 := by kernel_rfl
theorem Ybl : ∃ ms,Tryz.prog.underlying 93 = some (.interface ms) := by
 have h : (match Tryz.prog.underlying 93 with | some (.interface _) => true | _ => false) = true := by kernel_rfl
 split at h
 ·rename_i ms e; exact ⟨ms,e⟩
 ·cases h
theorem Yo2 : Tryz.prog.underlying 281 = some (.pointer 299) := by kernel_rfl
set_option maxHeartbeats 4000000 in
set_option maxRecDepth 1000000 in
theorem Yii (a : Addr) (w : World) : Calls Tryz.prog 118 #[uE a,uE a] w fun e w' => e = .returned (.bool true) /\ w' = w := by
 obtain ⟨i,hi,hcmp⟩ := Option.map_eq_some_iff.1 Wft
 obtain ⟨j,hj,hjs⟩ := Option.map_eq_some_iff.1 Wfu
 obtain ⟨ms,hms⟩ := Ybl
 have h8 := @run_callFunc_extern Tryz.prog 138 _ Extern.ReflectliteType.typeOf Tryz.func138 (by kernel_rfl) (by kernel_rfl) (by kernel_rfl) (by kernel_rfl)
 have h32 := @run_callFunc_extern Tryz.prog 215 _ (Extern.ReflectliteType.method fun t => do Extern.Rtype.noPackHeld "Comparable" t; pure (.bool (<- typeInfo t).comparable)) Tryz.func215 (by kernel_rfl) (by kernel_rfl) (by kernel_rfl) (by kernel_rfl)
 have tT := Yih
 have cT := Xp7
 have mR := Xn1
 have heq := run_eql_iface_ptr_same (P := Tryz.prog) w a hms Yo2 hi hcmp hj
 go_enter Tryz.func118,Tryz.ntmps118
 go_wp2
 refine wp_loop_rounds 1 ?_
 rw [rounds_succ]
 go_wp2
 go_ret
 exact ⟨rfl,rfl⟩
set_option maxRecDepth 1000000 in
theorem Y40 (a : Addr) (w : World) : Calls Tryz.prog 118 #[.nilIface,uE a] w fun e w' => e = .returned (.bool false) /\ w' = w := by
 obtain ⟨ms,hms⟩ := Ybl
 have hn := run_eql_iface_nil_left (P := Tryz.prog) w 281 (.pointer (some a)) hms
 go_enter Tryz.func118,Tryz.ntmps118
 go_wp2
 go_ret
 exact ⟨rfl,rfl⟩
open Go.Fw
theorem Wfv (gp : Heap) (a : Addr) : Does Go.Proofs.Tryz.prog gp 118 [.one (.d (iE a)),.one (.d (.raw (uE a)))] (vb true) := by
 refine ⟨by kernel_rfl,?_⟩
 intro H w an F us hgp hmod hanc hown hF hdj hargs
 obtain ⟨u1,u2,rfl,h1,h2⟩ : ∃ u1 u2,us = [u1,u2] /\ Den H (iE a) u1 /\ Den H (.raw (uE a)) u2 := by
  match us,hargs with
  | [u1,u2],h => exact ⟨u1,u2,rfl,h.1,h.2.1⟩
 cases h2
 cases h1 with
 | ifcV t c v hv =>
  cases hv
  intro cs
  obtain ⟨e,w',fr,⟨rfl,rfl⟩,g2,g3,g4⟩ := Yii a w cs
  refine ⟨_,w',fr,⟨_,_,[],H,an,F,rfl,⟨rfl,rfl⟩,WKeep.refl _ _,Heap.Le.refl _,hmod,fun b o hb => .inl hb,Anc.Le.refl _,hanc,hown,fun i b hb => ?_,hdj,Den.bool _⟩,g2,g3,g4⟩
  obtain ⟨k1,k2,k3⟩ := hF i b hb
  exact ⟨k1,k2,k3,.inr ⟨i,hb⟩⟩
theorem Wfw (gp : Heap) (a : Addr) : Does Go.Proofs.Tryz.prog gp 118 [.one (.d .nilI),.one (.d (.raw (uE a)))] (vb false) := by
 refine ⟨by kernel_rfl,?_⟩
 intro H w an F us hgp hmod hanc hown hF hdj hargs
 obtain ⟨u1,u2,rfl,h1,h2⟩ : ∃ u1 u2,us = [u1,u2] /\ Den H .nilI u1 /\ Den H (.raw (uE a)) u2 := by
  match us,hargs with
  | [u1,u2],h => exact ⟨u1,u2,rfl,h.1,h.2.1⟩
 cases h2
 cases h1
 intro cs
 obtain ⟨e,w',fr,⟨rfl,rfl⟩,g2,g3,g4⟩ := Y40 a w cs
 refine ⟨_,w',fr,⟨_,_,[],H,an,F,rfl,⟨rfl,rfl⟩,WKeep.refl _ _,Heap.Le.refl _,hmod,fun b o hb => .inl hb,Anc.Le.refl _,hanc,hown,fun i b hb => ?_,hdj,Den.bool _⟩,g2,g3,g4⟩
 obtain ⟨k1,k2,k3⟩ := hF i b hb
 exact ⟨k1,k2,k3,.inr ⟨i,hb⟩⟩
end Go.Fw.L07
namespace Go.Fw.L07
open Go Go.Fw Go.Proofs Go.RowKit Go.Proofs.YtejnfjophhnaeaaGreatDoor
set_option maxRecDepth 4000
abbrev Yo3 : List (String × DataW Unit) := [("unicode/utf8.acceptRanges", Rows.laid_unicode_utf8_acceptRanges), ("errors.errorType", Rows.laid_errors_errorType), ("sigillary/iso.errUnlike", Rows.laid_sigillary_iso_errUnlike), ("unicode/utf8.first", Rows.laid_unicode_utf8_first)]
abbrev Yo4 : List (String × DataW Unit) := [("unicode/utf8.acceptRanges", Rows.laid_unicode_utf8_acceptRanges), ("sigillary/iso.errUnlike", Rows.laid_sigillary_iso_errUnlike), ("unicode/utf8.first", Rows.laid_unicode_utf8_first)]
theorem gUn9 : Tryz.prog.globalNamed "sigillary/iso.errUnlike" = some 1 := by kernel_rfl
theorem Whw : (Tryz.prog.globals[(1 : Nat)]?).map (·.type) = some 93 := by kernel_rfl
theorem Wfx : "*" ++ "errors.errorString" = "*errors.errorString" := by decide
theorem row9 (u : TypeId) (h : Tryz.prog.typeName? 3 u = some "*errors.errorString") : u = 281 :=
 typeName_ptr_named (nm := "errors.errorString") (by rw [Wfx]; kernel_rfl) (by kernel_rfl) (by decide) u (by rw [Wfx]; exact h)
theorem und9 : ∃ f : Field,Tryz.prog.underlying 299 = some (.struct #[f]) /\ f.type = 9 /\ f.offset = 0 := by
 have h : (match Tryz.prog.underlying 299 with | some (.struct ⟨[f]⟩) => decide (f.type = 9 /\ f.offset = 0) | _ => false) = true := by kernel_rfl
 split at h
 ·rename_i f e
  exact ⟨f,e,(of_decide_eq_true h).1,(of_decide_eq_true h).2⟩
 ·cases h
theorem Whx : Tryz.prog.underlying 9 = some .string := by kernel_rfl
theorem Xp8 {W : World} (h : laidMetH Tryz.prog Yo3 W) : ∃ ua,Env9 (Xa2 W) ua := by
 have h' : laidMet Tryz.prog Yo4 W /\ handlesMet Tryz.prog [("errors.errorType", Rows.laid_errors_errorType)] W := h
 have mods : ∀ (H : Heap) (w : World),Heap.Le (Xa2 W) H -> Xco w H -> ∀ (b : Nat) (o : Obj),W.heap[b]? = some o -> w.heap[b]? = some o := fun H w h1 h2 b o hb => h2 b o (h1 b o hb)
 have cell : ∀ (H : Heap) (w : World),Heap.Le (Xa2 W) H -> Xco w H -> ∀ (a : Addr) (v : Value),W.cell? a = some v -> w.cell? a = some v := by
  intro H w h1 h2 a v hv
  unfold World.cell? at hv ⊢
  cases hb : W.heap[a.block]? with
  | none => rw [hb] at hv; simp at hv
  | some o => rw [mods H w h1 h2 _ _ hb]; rw [hb] at hv; exact hv
 have hU : Lib.Utf8Tabs 3 4 W :=
  utf8Tabs_of_reads (ρ := Yk3) { X39 with } ⟨by kernel_rfl,by kernel_rfl,by kernel_rfl,by kernel_rfl,by kernel_rfl,by kernel_rfl,by kernel_rfl⟩
   (Ywi ▸ Lib.laidMet.reads h'.1 (.tail _ (.tail _ (.head _)))) (Yfr ▸ Lib.laidMet.reads h'.1 (.head _))
 have hE : W.cell? ⟨0,0,none⟩ = some (.iface 211 (.agg #[.pointer (some ⟨7,93,none⟩)])) := by
  obtain ⟨name,u,ty,e1,e2,e3,e4,e5⟩ := h'.2 _ (List.mem_singleton.2 rfl)
  have en : name = [101,114,114,111,114] := (Option.some.inj e1).symm
  subst en
  obtain rfl := Option.some.inj (Y9v.symm.trans e2)
  have hm : ty ∈ (List.range (411 - 100)).filter fun t => Tryz.prog.rowNamed t [101,114,114,111,114] := List.mem_filter.2 ⟨List.mem_range.2 (by rw [<- Wgr]; exact e3),e4⟩
  rw [Y9w] at hm
  obtain rfl := List.mem_singleton.1 hm
  have hh : typeHandle Tryz.prog 93 = .pointer (some ⟨7,93,none⟩) := by kernel_rfl
  rw [hh] at e5
  simpa using World.var?_cell gErr e5 0
 have hEnv : Env (Xa2 W) := by
  refine ⟨fun H w h1 h2 => ?_,fun H w h1 h2 => cell H w h1 h2 _ _ hE⟩
  obtain ⟨a,b⟩ := hU
  exact ⟨fun c hc => cell H w h1 h2 _ _ (a c hc),fun i hi => ⟨cell H w h1 h2 _ _ (b i hi).1,cell H w h1 h2 _ _ (b i hi).2⟩⟩
 obtain ⟨ms,hms⟩ := Ybl
 obtain ⟨f,hf,hft,hfo⟩ := und9
 have ht : laidMet Tryz.prog (("sigillary/iso.errUnlike", DataW.iface "*errors.errorString" (.ptr (.agg [.lit (.string [117, 110, 108, 105, 107, 101])]))) :: [("unicode/utf8.first", Rows.laid_unicode_utf8_first)]) W := laidMet.tail h'.1
 obtain ⟨a,s,hv,hc,hs,hz⟩ := laid_sentinel ht gUn9 Whw hms row9 Yo2 hf hft hfo Whx (by kernel_rfl) (by kernel_rfl)
 refine ⟨a,hEnv,?_,Wfv _ a,Wfw _ a⟩
 simp only [World.var?,gUn9,Option.bind_some] at hv
 split at hv
 ·rename_i cs T fz e
  cases hv
  exact ⟨T,fz,e⟩
 ·cases hv
noncomputable def Y5a (os : Os) : World := (Xeo os).layVars Tryz.prog Yo4
end Go.Fw.L07
