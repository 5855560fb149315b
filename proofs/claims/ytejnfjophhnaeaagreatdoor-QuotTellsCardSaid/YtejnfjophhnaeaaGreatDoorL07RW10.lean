/- Chapters 10,11: what the rows give. -/
import Derived.Test.YtejnfjophhnaeaaGreatDoorL07R
import Derived.Test.YtejnfjophhnaeaaGreatDoorJc
import Derived.Lib.LaidTab
import Derived.Stop.LaidErr
set_option linter.all false
namespace Go.Fw.L07
open Go Go.Fw Go.Proofs Go.RowKit Go.Proofs.YtejnfjophhnaeaaGreatDoor
set_option maxRecDepth 4000
abbrev W73 : List (String × DataW Unit) := [("math/bits.deBruijn32tab", Rows.laid_math_bits_deBruijn32tab), ("math/bits.deBruijn64tab", Rows.laid_math_bits_deBruijn64tab), ("internal/strconv.uint64pow10", Rows.laid_internal_strconv_uint64pow10)]
abbrev Xkg : List (String × DataW Unit) := [("math/bits.deBruijn32tab", Rows.laid_math_bits_deBruijn32tab), ("math/bits.deBruijn64tab", Rows.laid_math_bits_deBruijn64tab), ("internal/strconv.uint64pow10", Rows.laid_internal_strconv_uint64pow10), ("unicode/utf8.acceptRanges", Rows.laid_unicode_utf8_acceptRanges), ("errors.errorType", Rows.laid_errors_errorType), ("unicode/utf8.first", Rows.laid_unicode_utf8_first)]
abbrev Xfo : List (String × DataW Unit) := [("math/bits.deBruijn32tab", Rows.laid_math_bits_deBruijn32tab), ("math/bits.deBruijn64tab", Rows.laid_math_bits_deBruijn64tab), ("internal/strconv.uint64pow10", Rows.laid_internal_strconv_uint64pow10), ("unicode/utf8.acceptRanges", Rows.laid_unicode_utf8_acceptRanges), ("unicode/utf8.first", Rows.laid_unicode_utf8_first)]
theorem Wlc:(Lib.tabData .u64 Lib.pow10Tab:DataW Unit)=Rows.laid_internal_strconv_uint64pow10:=by kernel_rfl
theorem W7k : Tryz.prog.globalNamed "internal/strconv.uint64pow10" = some 2 := by kernel_rfl
theorem Wld {W : World} {rest : List (String × DataW Unit)} (h : laidMet Tryz.prog (("internal/strconv.uint64pow10", Rows.laid_internal_strconv_uint64pow10) :: rest) W) : Lib.TabIs Tryz.prog W "internal/strconv.uint64pow10" .u64 Lib.pow10Tab :=
 Lib.tabIs_of_head (t:=269) (e:=255) (n:=20) W7k (by kernel_rfl) (by kernel_rfl) (by kernel_rfl) (by kernel_rfl) (by kernel_rfl) (rest:=rest) (by rw[Wlc];exact h)
theorem W0p {W : World} (h : Lib.TabIs Tryz.prog W "internal/strconv.uint64pow10" .u64 Lib.pow10Tab) : Xp8 (Xbi W) := fun H w h1 h2 => by
 unfold Lib.TabIs World.var? at h ⊢
 rw[W7k] at h ⊢
 simp only[Option.bind_some] at h ⊢
 cases hb:W.heap[(2:Nat)]? with
 | none=>rw[hb] at h;simp at h
 | some o=>rw[h2 _ _ (h1 _ _ hb)];rw[hb] at h;exact h
theorem Xqb {W:World} (h:laidMetH Tryz.prog Xkg W):Env10 (Xbi W):=by
 have h' : laidMet Tryz.prog Xfo W /\ handlesMet Tryz.prog [("errors.errorType", Rows.laid_errors_errorType)] W := h
 have hp:=laidMet.tail (laidMet.tail h'.1)
 have hq:=laidMet.tail hp
 exact⟨Xtp (show laidMetH Tryz.prog Wu1 W from ⟨hq,h'.2⟩),W0p (Wld hp)⟩
theorem Wle:Tryz.prog.mayEnter=true:=by kernel_rfl
noncomputable def Xgf (os:Os):World:=(Xj5 os).layVars Tryz.prog Xfo
theorem Xns (os:Os):(Xgf os).os=os:=World.layVars_os _ _ _
theorem Xnf (os:Os) (args:Array Value):laidMetH Tryz.prog Xkg ((Xgf os).forCall (fun _ _=>0) ⟨#[],args,[]⟩).memory:=by
 refine laidMetH_of_parts ?_ (by kernel_rfl)
 have e:Xkg.filter (fun x=>x.2.handleName?.isNone)=Xfo:=by kernel_rfl
 rw[e]
 have h:laidMet Tryz.prog Xfo (Xgf os):=laidMet_layVars (w0:=Xj5 os) (Xfo.map (·.1)) [] (by
   have e1:(Xfo.filter fun x=>(Xfo.map (·.1)).contains x.1)=Xfo:=by kernel_rfl
   rw[e1];rfl) (by kernel_rfl) (by kernel_rfl) (by
   have e2:(Xfo.filter fun x=>!(Xfo.map (·.1)).contains x.1)=[]:=by kernel_rfl
   rw[e2];exact LaidIn.none)
 exact h.of_heap (by simp[World.memory,World.forCall,Input.heap])
end Go.Fw.L07
