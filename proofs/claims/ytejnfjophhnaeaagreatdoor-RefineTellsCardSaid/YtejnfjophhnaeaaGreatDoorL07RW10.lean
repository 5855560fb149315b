/- Chapters 10,11: what the rows give. -/
import Derived.Test.YtejnfjophhnaeaaGreatDoorL07R
import Derived.Test.YtejnfjophhnaeaaGreatDoorJc
import Derived.Lib.LaidTab
import Derived.Stop.LaidErr
set_option linter.all false
namespace Go.Fw.L07
open Go Go.Fw Go.Proofs Go.RowKit Go.Proofs.YtejnfjophhnaeaaGreatDoor
set_option maxRecDepth 4000
abbrev Wvm : List (String × DataW Unit) := [("math/bits.deBruijn32tab", Rows.laid_math_bits_deBruijn32tab), ("math/bits.deBruijn64tab", Rows.laid_math_bits_deBruijn64tab), ("internal/strconv.uint64pow10", Rows.laid_internal_strconv_uint64pow10)]
abbrev Xj5 : List (String × DataW Unit) := [("math/bits.deBruijn32tab", Rows.laid_math_bits_deBruijn32tab), ("math/bits.deBruijn64tab", Rows.laid_math_bits_deBruijn64tab), ("internal/strconv.uint64pow10", Rows.laid_internal_strconv_uint64pow10), ("unicode/utf8.acceptRanges", Rows.laid_unicode_utf8_acceptRanges), ("errors.errorType", Rows.laid_errors_errorType), ("unicode/utf8.first", Rows.laid_unicode_utf8_first)]
abbrev Xfg : List (String × DataW Unit) := [("math/bits.deBruijn32tab", Rows.laid_math_bits_deBruijn32tab), ("math/bits.deBruijn64tab", Rows.laid_math_bits_deBruijn64tab), ("internal/strconv.uint64pow10", Rows.laid_internal_strconv_uint64pow10), ("unicode/utf8.acceptRanges", Rows.laid_unicode_utf8_acceptRanges), ("unicode/utf8.first", Rows.laid_unicode_utf8_first)]
theorem Wem:(Lib.tabData .u64 Lib.pow10Tab:DataW Unit)=Rows.laid_internal_strconv_uint64pow10:=by kernel_rfl
theorem Wu5 : Tryz.prog.globalNamed "internal/strconv.uint64pow10" = some 2 := by kernel_rfl
theorem Wen {W : World} {rest : List (String × DataW Unit)} (h : laidMet Tryz.prog (("internal/strconv.uint64pow10", Rows.laid_internal_strconv_uint64pow10) :: rest) W) : Lib.TabIs Tryz.prog W "internal/strconv.uint64pow10" .u64 Lib.pow10Tab :=
 Lib.tabIs_of_head (t:=269) (e:=255) (n:=20) Wu5 (by kernel_rfl) (by kernel_rfl) (by kernel_rfl) (by kernel_rfl) (by kernel_rfl) (rest:=rest) (by rw[Wem];exact h)
theorem Wrt {W : World} (h : Lib.TabIs Tryz.prog W "internal/strconv.uint64pow10" .u64 Lib.pow10Tab) : Xpp (Xbh W) := fun H w h1 h2 => by
 unfold Lib.TabIs World.var? at h ⊢
 rw[Wu5] at h ⊢
 simp only[Option.bind_some] at h ⊢
 cases hb:W.heap[(2:Nat)]? with
 | none=>rw[hb] at h;simp at h
 | some o=>rw[h2 _ _ (h1 _ _ hb)];rw[hb] at h;exact h
theorem Xpt {W:World} (h:laidMetH Tryz.prog Xj5 W):Env10 (Xbh W):=by
 have h' : laidMet Tryz.prog Xfg W /\ handlesMet Tryz.prog [("errors.errorType", Rows.laid_errors_errorType)] W := h
 have hp:=laidMet.tail (laidMet.tail h'.1)
 have hq:=laidMet.tail hp
 exact⟨Xs4 (show laidMetH Tryz.prog Wlo W from ⟨hq,h'.2⟩),Wrt (Wen hp)⟩
theorem Weo:Tryz.prog.mayEnter=true:=by kernel_rfl
noncomputable def Xf7 (os:Os):World:=(Xjx os).layVars Tryz.prog Xfg
theorem Xm8 (os:Os):(Xf7 os).os=os:=World.layVars_os _ _ _
theorem Xmw (os:Os) (args:Array Value):laidMetH Tryz.prog Xj5 ((Xf7 os).forCall (fun _ _=>0) ⟨#[],args,[]⟩).memory:=by
 refine laidMetH_of_parts ?_ (by kernel_rfl)
 have e:Xj5.filter (fun x=>x.2.handleName?.isNone)=Xfg:=by kernel_rfl
 rw[e]
 have h:laidMet Tryz.prog Xfg (Xf7 os):=laidMet_layVars (w0:=Xjx os) (Xfg.map (·.1)) [] (by
   have e1:(Xfg.filter fun x=>(Xfg.map (·.1)).contains x.1)=Xfg:=by kernel_rfl
   rw[e1];rfl) (by kernel_rfl) (by kernel_rfl) (by
   have e2:(Xfg.filter fun x=>!(Xfg.map (·.1)).contains x.1)=[]:=by kernel_rfl
   rw[e2];exact LaidIn.none)
 exact h.of_heap (by simp[World.memory,World.forCall,Input.heap])
end Go.Fw.L07
