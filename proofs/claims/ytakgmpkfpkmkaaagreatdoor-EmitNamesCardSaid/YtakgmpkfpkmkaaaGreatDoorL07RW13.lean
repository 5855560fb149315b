/- Chapter 13: what the rows give. -/
import Derived.Test.YtakgmpkfpkmkaaaGreatDoorL07R
import Derived.Test.YtakgmpkfpkmkaaaGreatDoorNb
import Derived.Lib.LaidTab
import Derived.Stop.LaidErr
set_option linter.all false
namespace Go.Fw.L07
open Go Go.Fw Go.Proofs Go.RowKit Go.Proofs.YtakgmpkfpkmkaaaGreatDoor
set_option maxRecDepth 4000
abbrev laidT : List (String × DataW Unit) := [("math/bits.deBruijn32tab", Rows.laid_math_bits_deBruijn32tab), ("math/bits.deBruijn64tab", Rows.laid_math_bits_deBruijn64tab), ("internal/strconv.uint64pow10", Rows.laid_internal_strconv_uint64pow10)]
abbrev laidL10 : List (String × DataW Unit) := [("math/bits.deBruijn32tab", Rows.laid_math_bits_deBruijn32tab), ("math/bits.deBruijn64tab", Rows.laid_math_bits_deBruijn64tab), ("internal/strconv.uint64pow10", Rows.laid_internal_strconv_uint64pow10), ("unicode/utf8.acceptRanges", Rows.laid_unicode_utf8_acceptRanges), ("errors.errorType", Rows.laid_errors_errorType), ("unicode/utf8.first", Rows.laid_unicode_utf8_first)]
abbrev laidD10 : List (String × DataW Unit) := [("math/bits.deBruijn32tab", Rows.laid_math_bits_deBruijn32tab), ("math/bits.deBruijn64tab", Rows.laid_math_bits_deBruijn64tab), ("internal/strconv.uint64pow10", Rows.laid_internal_strconv_uint64pow10), ("unicode/utf8.acceptRanges", Rows.laid_unicode_utf8_acceptRanges), ("unicode/utf8.first", Rows.laid_unicode_utf8_first)]
theorem pow10Eq : (Lib.tabData .u64 Lib.pow10Tab : DataW Unit) = Rows.laid_internal_strconv_uint64pow10 := by kernel_rfl
theorem gPow : Tryz.prog.globalNamed "internal/strconv.uint64pow10" = some 3 := by kernel_rfl
theorem pow_tab {W : World} {rest : List (String × DataW Unit)} (h : laidMet Tryz.prog (("internal/strconv.uint64pow10", Rows.laid_internal_strconv_uint64pow10) :: rest) W) : Lib.TabIs Tryz.prog W "internal/strconv.uint64pow10" .u64 Lib.pow10Tab :=
 Lib.tabIs_of_head (t := 263) (e := 242) (n := 20) gPow (by kernel_rfl) (by kernel_rfl) (by kernel_rfl) (by kernel_rfl) (by kernel_rfl) (rest := rest) (by rw [pow10Eq]; exact h)
theorem pow_ok {W : World} (h : Lib.TabIs Tryz.prog W "internal/strconv.uint64pow10" .u64 Lib.pow10Tab) : PowOK (allKnown W) := fun H w h1 h2 => by
 unfold Lib.TabIs World.var? at h ⊢
 rw [gPow] at h ⊢
 simp only [Option.bind_some] at h ⊢
 cases hb : W.heap[(3 : Nat)]? with
 | none => rw [hb] at h; simp at h
 | some o => rw [h2 _ _ (h1 _ _ hb)]; rw [hb] at h; exact h
theorem env10_of_laid {W : World} (h : laidMetH Tryz.prog laidL10 W) : Env13 (allKnown W) := by
 have h' : laidMet Tryz.prog laidD10 W /\ handlesMet Tryz.prog [("errors.errorType", Rows.laid_errors_errorType)] W := h
 have hp := laidMet.tail (laidMet.tail h'.1)
 have hq := laidMet.tail hp
 exact ⟨env_of_laid (show laidMetH Tryz.prog laidL W from ⟨hq,h'.2⟩),pow_ok (pow_tab hp)⟩
theorem enter10 : Tryz.prog.mayEnter = true := by kernel_rfl
noncomputable def laidWorld10 (os : Os) : World := (laidWorld0 os).layVars Tryz.prog laidD10
theorem laidWorld10_os (os : Os) : (laidWorld10 os).os = os := World.layVars_os _ _ _
theorem laidWorld10_met (os : Os) (args : Array Value) : laidMetH Tryz.prog laidL10 ((laidWorld10 os).forCall (fun _ _ => 0) ⟨#[],args,[]⟩).memory := by
 refine laidMetH_of_parts ?_ (by kernel_rfl)
 have e : laidL10.filter (fun x => x.2.handleName?.isNone) = laidD10 := by kernel_rfl
 rw [e]
 have h : laidMet Tryz.prog laidD10 (laidWorld10 os) := laidMet_layVars (w0 := laidWorld0 os) (laidD10.map (·.1)) [] (by
   have e1 : (laidD10.filter fun x => (laidD10.map (·.1)).contains x.1) = laidD10 := by kernel_rfl
   rw [e1]; rfl) (by kernel_rfl) (by kernel_rfl) (by
   have e2 : (laidD10.filter fun x => !(laidD10.map (·.1)).contains x.1) = [] := by kernel_rfl
   rw [e2]; exact LaidIn.none)
 exact h.of_heap (by simp [World.memory,World.forCall,Input.heap])
end Go.Fw.L07
