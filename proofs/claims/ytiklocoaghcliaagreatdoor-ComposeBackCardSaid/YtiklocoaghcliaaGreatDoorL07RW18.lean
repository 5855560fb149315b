/- Chapter 18: what the rows give. -/
import Derived.Test.YtiklocoaghcliaaGreatDoorL07R
import Derived.Test.YtiklocoaghcliaaGreatDoorMb
import Derived.Test.YtiklocoaghcliaaGreatDoorFe
import Derived.Lib.LaidTab
import Derived.LaidSub
import Derived.Stop.LaidErr
set_option linter.all false
namespace Go.Fw.L07
open Go Go.Fw Go.Proofs Go.RowKit Go.Proofs.YtiklocoaghcliaaGreatDoor
set_option maxRecDepth 4000
abbrev Xj6 : List (String × DataW Unit) := [("math/bits.deBruijn32tab", Rows.laid_math_bits_deBruijn32tab), ("math/bits.deBruijn64tab", Rows.laid_math_bits_deBruijn64tab), ("internal/strconv.uint64pow10", Rows.laid_internal_strconv_uint64pow10), ("unicode/utf8.acceptRanges", Rows.laid_unicode_utf8_acceptRanges), ("errors.errorType", Rows.laid_errors_errorType), ("sigillary/compose.errTree", Rows.laid_sigillary_compose_errTree), ("unicode/utf8.first", Rows.laid_unicode_utf8_first)]
abbrev Xfc : List (String × DataW Unit) := [("math/bits.deBruijn32tab", Rows.laid_math_bits_deBruijn32tab), ("math/bits.deBruijn64tab", Rows.laid_math_bits_deBruijn64tab), ("internal/strconv.uint64pow10", Rows.laid_internal_strconv_uint64pow10), ("unicode/utf8.acceptRanges", Rows.laid_unicode_utf8_acceptRanges), ("sigillary/compose.errTree", Rows.laid_sigillary_compose_errTree), ("unicode/utf8.first", Rows.laid_unicode_utf8_first)]
theorem Wf2:(Lib.tabData .u64 Lib.pow10Tab:DataW Unit)=Rows.laid_internal_strconv_uint64pow10:=by kernel_rfl
theorem Yxs : Tryz.prog.globalNamed "internal/strconv.uint64pow10" = some 4 := by kernel_rfl
theorem Ygj {W : World} {rest : List (String × DataW Unit)} (h : laidMet Tryz.prog (("internal/strconv.uint64pow10", Rows.laid_internal_strconv_uint64pow10) :: rest) W) : Lib.TabIs Tryz.prog W "internal/strconv.uint64pow10" .u64 Lib.pow10Tab :=
 Lib.tabIs_of_head (t:=225) (e:=184) (n:=20) Yxs (by kernel_rfl) (by kernel_rfl) (by kernel_rfl) (by kernel_rfl) (by kernel_rfl) (rest:=rest) (by rw[Wf2];exact h)
theorem Yo4 {W : World} (h : Lib.TabIs Tryz.prog W "internal/strconv.uint64pow10" .u64 Lib.pow10Tab) : Xnl (Xba W) := fun H w h1 h2 => by
 unfold Lib.TabIs World.var? at h ⊢
 rw[Yxs] at h ⊢
 simp only[Option.bind_some] at h ⊢
 cases hb:W.heap[(4:Nat)]? with
 | none=>rw[hb] at h;simp at h
 | some o=>rw[h2 _ _ (h1 _ _ hb)];rw[hb] at h;exact h
theorem Wvu : Tryz.prog.globalNamed "sigillary/compose.errTree" = some 0 := by kernel_rfl
theorem Wvv:(Tryz.prog.globals[(0:Nat)]?).map (·.type)=some 69:=by kernel_rfl
theorem Yxt : "*" ++ "errors.errorString" = "*errors.errorString" := by decide
theorem W05 (u : TypeId) (h : Tryz.prog.typeName? 3 u = some "*errors.errorString") : u = 266 :=
 typeName_ptr_named (nm := "errors.errorString") (by rw [Yxt]; kernel_rfl) (by kernel_rfl) (by decide) u (by rw [Yxt]; exact h)
theorem W06:∃ f:Field,Tryz.prog.underlying 284=some (.struct #[f])/\f.type=9/\f.offset=0:=by
 have h:(match Tryz.prog.underlying 284 with|some (.struct ⟨[f]⟩)=>decide (f.type=9/\f.offset=0)|_=>false)=true:=by kernel_rfl
 split at h
 ·rename_i f e
  exact⟨f,e,(of_decide_eq_true h).1,(of_decide_eq_true h).2⟩
 ·cases h
theorem Wvw:Tryz.prog.underlying 9=some .string:=by kernel_rfl
theorem Xqg {W:World} (h:laidMetH Tryz.prog Xj6 W):∃ ua,Env18 (Xba W) ua:=by
 have h' : laidMet Tryz.prog Xfc W /\ handlesMet Tryz.prog [("errors.errorType", Rows.laid_errors_errorType)] W := h
 have hp:=laidMet.tail (laidMet.tail h'.1)
 have hq:=laidMet.tail hp
 have hr:=laidMet.tail hq
 have hf:laidMet Tryz.prog Ymo W:=by
  have := laidMet.filter (fun x => x.1 != "sigillary/compose.errTree") hq
  have e : ([("unicode/utf8.acceptRanges", Rows.laid_unicode_utf8_acceptRanges), ("sigillary/compose.errTree", Rows.laid_sigillary_compose_errTree), ("unicode/utf8.first", Rows.laid_unicode_utf8_first)].filter fun x : String × DataW Unit => x.1 != "sigillary/compose.errTree") = Ymo := by kernel_rfl
  rw[<- e];exact this
 obtain⟨ms,hms⟩:=Ygh
 obtain⟨f,hf',hft,hfo⟩:=W06
 have ht : laidMet Tryz.prog (("sigillary/compose.errTree", DataW.iface "*errors.errorString" (.ptr (.agg [.lit (.string [110, 111, 32, 103, 114, 97, 112, 104])]))) :: [("unicode/utf8.first", Rows.laid_unicode_utf8_first)]) W := hr
 obtain⟨a,s,hv,hc,hs,hz⟩:=laid_sentinel ht Wvu Wvv hms W05 Ygi hf' hft hfo Wvw (by kernel_rfl) (by kernel_rfl)
 refine⟨a,Xug (show laidMetH Tryz.prog Wr4 W from ⟨hf,h'.2⟩),Yo4 (Ygj hp),?_⟩
 simp only[World.var?,Wvu,Option.bind_some] at hv
 split at hv
 ·rename_i cs T fz e
  cases hv
  exact⟨T,fz,e⟩
 ·cases hv
theorem Wf3:Tryz.prog.mayEnter=true:=by kernel_rfl
noncomputable def Xf7 (os:Os):World:=(Xjw os).layVars Tryz.prog Xfc
theorem Xnn (os:Os):(Xf7 os).os=os:=World.layVars_os _ _ _
theorem Xm4 (os:Os) (args:Array Value):laidMetH Tryz.prog Xj6 ((Xf7 os).forCall (fun _ _=>0) ⟨#[],args,[]⟩).memory:=by
 refine laidMetH_of_parts ?_ (by kernel_rfl)
 have e:Xj6.filter (fun x=>x.2.handleName?.isNone)=Xfc:=by kernel_rfl
 rw[e]
 have h:laidMet Tryz.prog Xfc (Xf7 os):=laidMet_layVars (w0:=Xjw os) (Xfc.map (·.1)) [] (by
   have e1:(Xfc.filter fun x=>(Xfc.map (·.1)).contains x.1)=Xfc:=by kernel_rfl
   rw[e1];rfl) (by kernel_rfl) (by kernel_rfl) (by
   have e2:(Xfc.filter fun x=>!(Xfc.map (·.1)).contains x.1)=[]:=by kernel_rfl
   rw[e2];exact LaidIn.none)
 exact h.of_heap (by simp[World.memory,World.forCall,Input.heap])
abbrev W1w:List TypeId:=[32,30,28,29,3,9]
end Go.Fw.L07
