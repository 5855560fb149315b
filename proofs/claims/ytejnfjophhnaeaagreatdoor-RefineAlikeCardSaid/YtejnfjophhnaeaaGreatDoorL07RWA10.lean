/- Chapter 10: what the row of RefineAlike gives. -/
import Derived.Test.YtejnfjophhnaeaaGreatDoorL07RW10
import Derived.Test.YtejnfjophhnaeaaGreatDoorIc
set_option linter.all false
namespace Go.Fw.L07
open Go Go.Fw Go.Proofs Go.RowKit Go.Proofs.YtejnfjophhnaeaaGreatDoor
set_option maxRecDepth 4000
abbrev Xmm : List (String × DataW Unit) := [("math/bits.deBruijn32tab", Rows.laid_math_bits_deBruijn32tab), ("math/bits.deBruijn64tab", Rows.laid_math_bits_deBruijn64tab), ("internal/strconv.uint64pow10", Rows.laid_internal_strconv_uint64pow10), ("unicode/utf8.acceptRanges", Rows.laid_unicode_utf8_acceptRanges), ("errors.errorType", Rows.laid_errors_errorType), ("sigillary/iso.errUnlike", Rows.laid_sigillary_iso_errUnlike), ("unicode/utf8.first", Rows.laid_unicode_utf8_first)]
abbrev Xgp : List (String × DataW Unit) := [("math/bits.deBruijn32tab", Rows.laid_math_bits_deBruijn32tab), ("math/bits.deBruijn64tab", Rows.laid_math_bits_deBruijn64tab), ("internal/strconv.uint64pow10", Rows.laid_internal_strconv_uint64pow10), ("unicode/utf8.acceptRanges", Rows.laid_unicode_utf8_acceptRanges), ("sigillary/iso.errUnlike", Rows.laid_sigillary_iso_errUnlike), ("unicode/utf8.first", Rows.laid_unicode_utf8_first)]
theorem Xp9 {W : World} (h : laidMetH Tryz.prog Xmm W) : ∃ ua,Env9 (Xa2 W) ua /\ Xlh (Xa2 W) := by
 have h' : laidMet Tryz.prog Xgp W /\ handlesMet Tryz.prog [("errors.errorType", Rows.laid_errors_errorType)] W := h
 have hp := laidMet.tail (laidMet.tail h'.1)
 have hq := laidMet.tail hp
 obtain ⟨ua,h9⟩ := Xp8 (show laidMetH Tryz.prog Yo3 W from ⟨hq,h'.2⟩)
 exact ⟨ua,h9,Wfs (Y4x hp)⟩
noncomputable def Xgc (os : Os) : World := (Xeo os).layVars Tryz.prog Xgp
theorem Xn2 (os : Os) : (Xgc os).os = os := World.layVars_os _ _ _
theorem Xlp (os : Os) (args : Array Value) : laidMetH Tryz.prog Xmm ((Xgc os).forCall (fun _ _ => 0) ⟨#[],args,[]⟩).memory := by
 refine laidMetH_of_parts ?_ (by kernel_rfl)
 have e : Xmm.filter (fun x => x.2.handleName?.isNone) = Xgp := by kernel_rfl
 rw [e]
 have h : laidMet Tryz.prog Xgp (Xgc os) := laidMet_layVars (w0 := Xeo os) (Xgp.map (·.1)) [] (by
   have e1 : (Xgp.filter fun x => (Xgp.map (·.1)).contains x.1) = Xgp := by kernel_rfl
   rw [e1]; rfl) (by kernel_rfl) (by kernel_rfl) (by
   have e2 : (Xgp.filter fun x => !(Xgp.map (·.1)).contains x.1) = [] := by kernel_rfl
   rw [e2]; exact LaidIn.none)
 exact h.of_heap (by simp [World.memory,World.forCall,Input.heap])
end Go.Fw.L07
