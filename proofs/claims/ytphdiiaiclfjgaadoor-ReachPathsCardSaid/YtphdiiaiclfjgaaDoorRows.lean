/-
  NARROWER THAN 'FOR EVERY INPUT', by the rows' own cells (each row's printed sentence says how): ReachTidy: laid · ReachPaths: laid · ReachWalk: laid · ReachPlaces: laid · ReachSteps: laid · ReachLess: laid.
  DERIVED. THE GIVEN ROWS OF THIS SEAT. 6 by the template 'for every input the law returns true; each argument reads behind the call as it read before'; 0 by the template 'total and deterministic' (their statements: YtphdiiaiclfjgaaDoorTotals.lean).
  GIVEN WITH THE SEED: the statements are not yours to turn. If you find one false, say at which input.
  Laid BY PROGRAM, IN A SANDBOX (cutbox-rows.mjs): the forced cells as the released guide's own fill.sh prints them over the translation b136c82df7f63adf… (all of the seat's roots in one cut). By AI agents, Wed Nov 11 2026. No macro, syntax, notation, axiom, sorry.
-/
import Derived.Test.YtphdiiaiclfjgaaDoorChecked
import GoSem.PinnedTables
import GoSem.Claim
import GoSem.ClaimJoined
import GoSem.ClaimMapViews
import Derived.JoinedTies
import Derived.KernelRfl
namespace Go.Proofs.YtphdiiaiclfjgaaDoor
/- THE CELL 'sum', in the pinned program and in every row, IS THE sha256 OF THE DUMP (.gsa) THAT YtphdiiaiclfjgaaDoorProg.lean LOADS. Nothing in Lean hashes anything: it is a label: what it is worth is what the hold of that sum in a sandbox is worth. -/
noncomputable def Tryd.pinned : Pinned := { name := "ytphdiiaiclfjgaadoor", sum := "b136c82df7f63adff7700b448e8624bf20fee5aff941ac77626a7064dc6b68af", checked := Tryd.checked }
namespace Rows
def none {H : Type} : Left H := { results := [], args := [] }

/- WHAT THE LISTED PACKAGE-LEVEL VARIABLES READ AS WHEN THE CALL BEGINS. Each datum BY PROGRAM (the guide's laid-datum.mjs) off the statement by which the dump's own 'gosem.cut.vars' lays the variable. In a bare row this is a premise. The card (YtphdiiaiclfjgaaDoorCards.lean) ties it to the program's text. -/
def laid_unicode_utf8_acceptRanges {H : Type} : DataW H := .agg [.agg [.lit (.int .u8 128), .lit (.int .u8 191)], .agg [.lit (.int .u8 160), .lit (.int .u8 191)], .agg [.lit (.int .u8 128), .lit (.int .u8 159)], .agg [.lit (.int .u8 144), .lit (.int .u8 191)], .agg [.lit (.int .u8 128), .lit (.int .u8 143)], .agg [.lit (.int .u8 0), .lit (.int .u8 0)], .agg [.lit (.int .u8 0), .lit (.int .u8 0)], .agg [.lit (.int .u8 0), .lit (.int .u8 0)], .agg [.lit (.int .u8 0), .lit (.int .u8 0)], .agg [.lit (.int .u8 0), .lit (.int .u8 0)], .agg [.lit (.int .u8 0), .lit (.int .u8 0)], .agg [.lit (.int .u8 0), .lit (.int .u8 0)], .agg [.lit (.int .u8 0), .lit (.int .u8 0)], .agg [.lit (.int .u8 0), .lit (.int .u8 0)], .agg [.lit (.int .u8 0), .lit (.int .u8 0)], .agg [.lit (.int .u8 0), .lit (.int .u8 0)]]
def laid_errors_errorType {H : Type} : DataW H := .iface "internal/reflectlite.rtype" (.agg [.ptr (.lit (.string [101, 114, 114, 111, 114]))])
/-- One of Go's own tables, pinned by name: the form's constant. -/
def laid_unicode_utf8_first : DataW Unit := Go.Pinned.utf8First

/-- 'sigillarylaw08.ReachTidy': WHATEVER THE INPUT: true; the input reads as it did. -/
def reachTidySpec : ChangeSpec := { name := "reachTidy", fn := fun _ => fun
  | [d] => { results := [.lit (.bool true)], args := [d] }
  | _ => none }
def reachTidyRow : OpenClaim := { program := "ytphdiiaiclfjgaadoor", sum := "b136c82df7f63adff7700b448e8624bf20fee5aff941ac77626a7064dc6b68af", func := "sigillary/sigillarylaw08.ReachTidy", spec := "reachTidy", inPlace := ["internal/reflectlite.ValueOf", "(internal/reflectlite.Value).Type", "(internal/reflectlite.Value).IsNil", "internal/reflectlite.TypeOf", "(internal/reflectlite.Value).Elem", "(internal/reflectlite.Value).Set"], unfollowed := true, recurses := true, named := ["unicode/utf8.first", "unicode/utf8.acceptRanges", "errors.errorType"], plainKeys := false, apart := false, laid := [("unicode/utf8.acceptRanges", laid_unicode_utf8_acceptRanges), ("errors.errorType", laid_errors_errorType), ("unicode/utf8.first", laid_unicode_utf8_first)] }
def ReachTidySaid : Prop := reachTidyRow.holds Tryd.pinned (OpenSpec.ofChange reachTidySpec)

/-- ITS FALSE NEIGHBOUR: 'it returns false'. Refute it at one input. -/
def reachTidyWrong : ChangeSpec := { name := "reachTidy", fn := fun _ => fun
  | [d] => { results := [.lit (.bool false)], args := [d] }
  | _ => none }
def ReachTidyWrongFalsely : Prop := reachTidyRow.holds Tryd.pinned (OpenSpec.ofChange reachTidyWrong)

/-- 'sigillarylaw08.ReachPaths': WHATEVER THE INPUT: true; the input reads as it did. -/
def reachPathsSpec : ChangeSpec := { name := "reachPaths", fn := fun _ => fun
  | [d1, d2] => { results := [.lit (.bool true)], args := [d1, d2] }
  | _ => none }
def reachPathsRow : OpenClaim := { program := "ytphdiiaiclfjgaadoor", sum := "b136c82df7f63adff7700b448e8624bf20fee5aff941ac77626a7064dc6b68af", func := "sigillary/sigillarylaw08.ReachPaths", spec := "reachPaths", inPlace := ["internal/reflectlite.ValueOf", "(internal/reflectlite.Value).Type", "(internal/reflectlite.Value).IsNil", "internal/reflectlite.TypeOf", "(internal/reflectlite.Value).Elem", "(internal/reflectlite.Value).Set"], unfollowed := true, recurses := true, named := ["unicode/utf8.first", "unicode/utf8.acceptRanges", "errors.errorType"], plainKeys := false, apart := false, laid := [("unicode/utf8.acceptRanges", laid_unicode_utf8_acceptRanges), ("errors.errorType", laid_errors_errorType), ("unicode/utf8.first", laid_unicode_utf8_first)] }
def ReachPathsSaid : Prop := reachPathsRow.holds Tryd.pinned (OpenSpec.ofChange reachPathsSpec)

/-- ITS FALSE NEIGHBOUR: 'it returns false'. Refute it at one input. -/
def reachPathsWrong : ChangeSpec := { name := "reachPaths", fn := fun _ => fun
  | [d1, d2] => { results := [.lit (.bool false)], args := [d1, d2] }
  | _ => none }
def ReachPathsWrongFalsely : Prop := reachPathsRow.holds Tryd.pinned (OpenSpec.ofChange reachPathsWrong)

/-- 'sigillarylaw08.ReachWalk': WHATEVER THE INPUT: true; the input reads as it did. -/
def reachWalkSpec : ChangeSpec := { name := "reachWalk", fn := fun _ => fun
  | [d] => { results := [.lit (.bool true)], args := [d] }
  | _ => none }
def reachWalkRow : OpenClaim := { program := "ytphdiiaiclfjgaadoor", sum := "b136c82df7f63adff7700b448e8624bf20fee5aff941ac77626a7064dc6b68af", func := "sigillary/sigillarylaw08.ReachWalk", spec := "reachWalk", inPlace := ["internal/reflectlite.ValueOf", "(internal/reflectlite.Value).Type", "(internal/reflectlite.Value).IsNil", "internal/reflectlite.TypeOf", "(internal/reflectlite.Value).Elem", "(internal/reflectlite.Value).Set"], unfollowed := true, recurses := true, named := ["unicode/utf8.first", "unicode/utf8.acceptRanges", "errors.errorType"], plainKeys := false, apart := false, laid := [("unicode/utf8.acceptRanges", laid_unicode_utf8_acceptRanges), ("errors.errorType", laid_errors_errorType), ("unicode/utf8.first", laid_unicode_utf8_first)] }
def ReachWalkSaid : Prop := reachWalkRow.holds Tryd.pinned (OpenSpec.ofChange reachWalkSpec)

/-- ITS FALSE NEIGHBOUR: 'it returns false'. Refute it at one input. -/
def reachWalkWrong : ChangeSpec := { name := "reachWalk", fn := fun _ => fun
  | [d] => { results := [.lit (.bool false)], args := [d] }
  | _ => none }
def ReachWalkWrongFalsely : Prop := reachWalkRow.holds Tryd.pinned (OpenSpec.ofChange reachWalkWrong)

/-- 'sigillarylaw08.ReachPlaces': WHATEVER THE INPUT: true; the input reads as it did. -/
def reachPlacesSpec : ChangeSpec := { name := "reachPlaces", fn := fun _ => fun
  | [d] => { results := [.lit (.bool true)], args := [d] }
  | _ => none }
def reachPlacesRow : OpenClaim := { program := "ytphdiiaiclfjgaadoor", sum := "b136c82df7f63adff7700b448e8624bf20fee5aff941ac77626a7064dc6b68af", func := "sigillary/sigillarylaw08.ReachPlaces", spec := "reachPlaces", inPlace := ["internal/reflectlite.ValueOf", "(internal/reflectlite.Value).Type", "(internal/reflectlite.Value).IsNil", "internal/reflectlite.TypeOf", "(internal/reflectlite.Value).Elem", "(internal/reflectlite.Value).Set"], unfollowed := true, recurses := true, named := ["unicode/utf8.first", "unicode/utf8.acceptRanges", "errors.errorType"], plainKeys := false, apart := false, laid := [("unicode/utf8.acceptRanges", laid_unicode_utf8_acceptRanges), ("errors.errorType", laid_errors_errorType), ("unicode/utf8.first", laid_unicode_utf8_first)] }
def ReachPlacesSaid : Prop := reachPlacesRow.holds Tryd.pinned (OpenSpec.ofChange reachPlacesSpec)

/-- ITS FALSE NEIGHBOUR: 'it returns false'. Refute it at one input. -/
def reachPlacesWrong : ChangeSpec := { name := "reachPlaces", fn := fun _ => fun
  | [d] => { results := [.lit (.bool false)], args := [d] }
  | _ => none }
def ReachPlacesWrongFalsely : Prop := reachPlacesRow.holds Tryd.pinned (OpenSpec.ofChange reachPlacesWrong)

/-- 'sigillarylaw08.ReachSteps': WHATEVER THE INPUT: true; the input reads as it did. -/
def reachStepsSpec : ChangeSpec := { name := "reachSteps", fn := fun _ => fun
  | [d1, d2, d3] => { results := [.lit (.bool true)], args := [d1, d2, d3] }
  | _ => none }
def reachStepsRow : OpenClaim := { program := "ytphdiiaiclfjgaadoor", sum := "b136c82df7f63adff7700b448e8624bf20fee5aff941ac77626a7064dc6b68af", func := "sigillary/sigillarylaw08.ReachSteps", spec := "reachSteps", inPlace := ["internal/reflectlite.ValueOf", "(internal/reflectlite.Value).Type", "(internal/reflectlite.Value).IsNil", "internal/reflectlite.TypeOf", "(internal/reflectlite.Value).Elem", "(internal/reflectlite.Value).Set"], unfollowed := true, recurses := true, named := ["unicode/utf8.first", "unicode/utf8.acceptRanges", "errors.errorType"], plainKeys := false, apart := false, laid := [("unicode/utf8.acceptRanges", laid_unicode_utf8_acceptRanges), ("errors.errorType", laid_errors_errorType), ("unicode/utf8.first", laid_unicode_utf8_first)] }
def ReachStepsSaid : Prop := reachStepsRow.holds Tryd.pinned (OpenSpec.ofChange reachStepsSpec)

/-- ITS FALSE NEIGHBOUR: 'it returns false'. Refute it at one input. -/
def reachStepsWrong : ChangeSpec := { name := "reachSteps", fn := fun _ => fun
  | [d1, d2, d3] => { results := [.lit (.bool false)], args := [d1, d2, d3] }
  | _ => none }
def ReachStepsWrongFalsely : Prop := reachStepsRow.holds Tryd.pinned (OpenSpec.ofChange reachStepsWrong)

/-- 'sigillarylaw08.ReachLess': WHATEVER THE INPUT: true; the input reads as it did. -/
def reachLessSpec : ChangeSpec := { name := "reachLess", fn := fun _ => fun
  | [d1, d2] => { results := [.lit (.bool true)], args := [d1, d2] }
  | _ => none }
def reachLessRow : OpenClaim := { program := "ytphdiiaiclfjgaadoor", sum := "b136c82df7f63adff7700b448e8624bf20fee5aff941ac77626a7064dc6b68af", func := "sigillary/sigillarylaw08.ReachLess", spec := "reachLess", inPlace := ["internal/reflectlite.ValueOf", "(internal/reflectlite.Value).Type", "(internal/reflectlite.Value).IsNil", "internal/reflectlite.TypeOf", "(internal/reflectlite.Value).Elem", "(internal/reflectlite.Value).Set"], unfollowed := true, recurses := true, named := ["unicode/utf8.first", "unicode/utf8.acceptRanges", "errors.errorType"], plainKeys := false, apart := false, laid := [("unicode/utf8.acceptRanges", laid_unicode_utf8_acceptRanges), ("errors.errorType", laid_errors_errorType), ("unicode/utf8.first", laid_unicode_utf8_first)] }
def ReachLessSaid : Prop := reachLessRow.holds Tryd.pinned (OpenSpec.ofChange reachLessSpec)

/-- ITS FALSE NEIGHBOUR: 'it returns false'. Refute it at one input. -/
def reachLessWrong : ChangeSpec := { name := "reachLess", fn := fun _ => fun
  | [d1, d2] => { results := [.lit (.bool false)], args := [d1, d2] }
  | _ => none }
def ReachLessWrongFalsely : Prop := reachLessRow.holds Tryd.pinned (OpenSpec.ofChange reachLessWrong)

/- THE SECOND FORM. 'bulk': how many values and letters a reading holds, each counted each time it is reached (what is shared counts as often as it is met; a slice's spare places count too). A statement '..UptoSaid' is the law's where the arguments, and the package variables that the reading takes, are together of bulk at most 1048576: NARROWER than '..Said'. Prove '..Said' where nothing that the law and all that it calls make is longer than what came in: it says more and counts as full. Else prove '..UptoSaid'. A law counts once. -/
mutual
def uptoBulk {H : Type} : DataW H → Nat
  | .lit (.string bytes) => bytes.length + 1
  | .lit _ => 1
  | .nil => 1
  | .ptr d => uptoBulk d + 1
  | .slice elems spare => uptoBulkAll elems + uptoBulkAll spare + 1
  | .agg parts => uptoBulkAll parts + 1
  | .iface _ d => uptoBulk d + 1
  | .map entries => uptoBulkEntries entries + 1
  | .held _ => 1
def uptoBulkAll {H : Type} : List (DataW H) → Nat
  | [] => 0
  | d :: r => uptoBulk d + uptoBulkAll r
def uptoBulkEntries {H : Type} : List (Lit × DataW H) → Nat
  | [] => 0
  | x :: r => uptoBulkEntry x + uptoBulkEntries r
def uptoBulkEntry {H : Type} : Lit × DataW H → Nat
  | (.string bytes, d) => bytes.length + uptoBulk d + 1
  | (_, d) => uptoBulk d + 1
 end
def uptoSmall : (H : Type) → List (DataW H) → Bool := fun _ ds => decide (uptoBulkAll ds ≤ 1048576)
def OpenSpec.upto (s : _root_.Go.ChangeSpec) : _root_.Go.OpenSpec := { _root_.Go.OpenSpec.ofChange s with cond := some uptoSmall }

/-- 'sigillarylaw08.ReachTidy', WHERE WHAT IT READS IS OF BULK AT MOST 1048576: true; the input reads as it did. -/
def reachTidyUptoRow : OpenClaim := { program := "ytphdiiaiclfjgaadoor", sum := "b136c82df7f63adff7700b448e8624bf20fee5aff941ac77626a7064dc6b68af", func := "sigillary/sigillarylaw08.ReachTidy", spec := "reachTidy", inPlace := ["internal/reflectlite.ValueOf", "(internal/reflectlite.Value).Type", "(internal/reflectlite.Value).IsNil", "internal/reflectlite.TypeOf", "(internal/reflectlite.Value).Elem", "(internal/reflectlite.Value).Set"], unfollowed := true, recurses := true, named := ["unicode/utf8.first", "unicode/utf8.acceptRanges", "errors.errorType"], plainKeys := false, apart := false, laid := [("unicode/utf8.acceptRanges", laid_unicode_utf8_acceptRanges), ("errors.errorType", laid_errors_errorType), ("unicode/utf8.first", laid_unicode_utf8_first)], narrowed := true }
def ReachTidyUptoSaid : Prop := reachTidyUptoRow.holds Tryd.pinned (OpenSpec.upto reachTidySpec)

/-- 'sigillarylaw08.ReachPaths', WHERE WHAT IT READS IS OF BULK AT MOST 1048576: true; the input reads as it did. -/
def reachPathsUptoRow : OpenClaim := { program := "ytphdiiaiclfjgaadoor", sum := "b136c82df7f63adff7700b448e8624bf20fee5aff941ac77626a7064dc6b68af", func := "sigillary/sigillarylaw08.ReachPaths", spec := "reachPaths", inPlace := ["internal/reflectlite.ValueOf", "(internal/reflectlite.Value).Type", "(internal/reflectlite.Value).IsNil", "internal/reflectlite.TypeOf", "(internal/reflectlite.Value).Elem", "(internal/reflectlite.Value).Set"], unfollowed := true, recurses := true, named := ["unicode/utf8.first", "unicode/utf8.acceptRanges", "errors.errorType"], plainKeys := false, apart := false, laid := [("unicode/utf8.acceptRanges", laid_unicode_utf8_acceptRanges), ("errors.errorType", laid_errors_errorType), ("unicode/utf8.first", laid_unicode_utf8_first)], narrowed := true }
def ReachPathsUptoSaid : Prop := reachPathsUptoRow.holds Tryd.pinned (OpenSpec.upto reachPathsSpec)

/-- 'sigillarylaw08.ReachWalk', WHERE WHAT IT READS IS OF BULK AT MOST 1048576: true; the input reads as it did. -/
def reachWalkUptoRow : OpenClaim := { program := "ytphdiiaiclfjgaadoor", sum := "b136c82df7f63adff7700b448e8624bf20fee5aff941ac77626a7064dc6b68af", func := "sigillary/sigillarylaw08.ReachWalk", spec := "reachWalk", inPlace := ["internal/reflectlite.ValueOf", "(internal/reflectlite.Value).Type", "(internal/reflectlite.Value).IsNil", "internal/reflectlite.TypeOf", "(internal/reflectlite.Value).Elem", "(internal/reflectlite.Value).Set"], unfollowed := true, recurses := true, named := ["unicode/utf8.first", "unicode/utf8.acceptRanges", "errors.errorType"], plainKeys := false, apart := false, laid := [("unicode/utf8.acceptRanges", laid_unicode_utf8_acceptRanges), ("errors.errorType", laid_errors_errorType), ("unicode/utf8.first", laid_unicode_utf8_first)], narrowed := true }
def ReachWalkUptoSaid : Prop := reachWalkUptoRow.holds Tryd.pinned (OpenSpec.upto reachWalkSpec)

/-- 'sigillarylaw08.ReachPlaces', WHERE WHAT IT READS IS OF BULK AT MOST 1048576: true; the input reads as it did. -/
def reachPlacesUptoRow : OpenClaim := { program := "ytphdiiaiclfjgaadoor", sum := "b136c82df7f63adff7700b448e8624bf20fee5aff941ac77626a7064dc6b68af", func := "sigillary/sigillarylaw08.ReachPlaces", spec := "reachPlaces", inPlace := ["internal/reflectlite.ValueOf", "(internal/reflectlite.Value).Type", "(internal/reflectlite.Value).IsNil", "internal/reflectlite.TypeOf", "(internal/reflectlite.Value).Elem", "(internal/reflectlite.Value).Set"], unfollowed := true, recurses := true, named := ["unicode/utf8.first", "unicode/utf8.acceptRanges", "errors.errorType"], plainKeys := false, apart := false, laid := [("unicode/utf8.acceptRanges", laid_unicode_utf8_acceptRanges), ("errors.errorType", laid_errors_errorType), ("unicode/utf8.first", laid_unicode_utf8_first)], narrowed := true }
def ReachPlacesUptoSaid : Prop := reachPlacesUptoRow.holds Tryd.pinned (OpenSpec.upto reachPlacesSpec)

/-- 'sigillarylaw08.ReachSteps', WHERE WHAT IT READS IS OF BULK AT MOST 1048576: true; the input reads as it did. -/
def reachStepsUptoRow : OpenClaim := { program := "ytphdiiaiclfjgaadoor", sum := "b136c82df7f63adff7700b448e8624bf20fee5aff941ac77626a7064dc6b68af", func := "sigillary/sigillarylaw08.ReachSteps", spec := "reachSteps", inPlace := ["internal/reflectlite.ValueOf", "(internal/reflectlite.Value).Type", "(internal/reflectlite.Value).IsNil", "internal/reflectlite.TypeOf", "(internal/reflectlite.Value).Elem", "(internal/reflectlite.Value).Set"], unfollowed := true, recurses := true, named := ["unicode/utf8.first", "unicode/utf8.acceptRanges", "errors.errorType"], plainKeys := false, apart := false, laid := [("unicode/utf8.acceptRanges", laid_unicode_utf8_acceptRanges), ("errors.errorType", laid_errors_errorType), ("unicode/utf8.first", laid_unicode_utf8_first)], narrowed := true }
def ReachStepsUptoSaid : Prop := reachStepsUptoRow.holds Tryd.pinned (OpenSpec.upto reachStepsSpec)

/-- 'sigillarylaw08.ReachLess', WHERE WHAT IT READS IS OF BULK AT MOST 1048576: true; the input reads as it did. -/
def reachLessUptoRow : OpenClaim := { program := "ytphdiiaiclfjgaadoor", sum := "b136c82df7f63adff7700b448e8624bf20fee5aff941ac77626a7064dc6b68af", func := "sigillary/sigillarylaw08.ReachLess", spec := "reachLess", inPlace := ["internal/reflectlite.ValueOf", "(internal/reflectlite.Value).Type", "(internal/reflectlite.Value).IsNil", "internal/reflectlite.TypeOf", "(internal/reflectlite.Value).Elem", "(internal/reflectlite.Value).Set"], unfollowed := true, recurses := true, named := ["unicode/utf8.first", "unicode/utf8.acceptRanges", "errors.errorType"], plainKeys := false, apart := false, laid := [("unicode/utf8.acceptRanges", laid_unicode_utf8_acceptRanges), ("errors.errorType", laid_errors_errorType), ("unicode/utf8.first", laid_unicode_utf8_first)], narrowed := true }
def ReachLessUptoSaid : Prop := reachLessUptoRow.holds Tryd.pinned (OpenSpec.upto reachLessSpec)

end Rows
end Go.Proofs.YtphdiiaiclfjgaaDoor
