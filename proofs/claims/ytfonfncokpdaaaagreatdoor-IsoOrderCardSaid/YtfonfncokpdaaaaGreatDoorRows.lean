/-
  NARROWER THAN 'FOR EVERY INPUT', by the rows' own cells (each row's printed sentence says how): WalkSums: laid · WalkAnchors: laid · WalkDepths: laid · WalkTrees: laid · IsoPaths: laid · IsoOrder: laid · IsoTidy: laid.
  DERIVED. THE GIVEN ROWS OF THIS SEAT. 7 by the template 'for every input the law returns true; each argument reads behind the call as it read before'; 0 by the template 'total and deterministic' (their statements: YtfonfncokpdaaaaGreatDoorTotals.lean).
  GIVEN WITH THE SEED: the statements are not yours to turn. If you find one false, say at which input.
  Laid BY PROGRAM, IN A SANDBOX (cutbox-rows.mjs): the forced cells as the released guide's own fill.sh prints them over the translation 914a16235de31957… (all of the seat's roots in one cut). By AI agents, Wed Nov 11 2026. No macro, syntax, notation, axiom, sorry.
-/
import Derived.Test.YtfonfncokpdaaaaGreatDoorChecked
import GoSem.PinnedTables
import GoSem.Claim
import GoSem.ClaimJoined
import GoSem.ClaimMapViews
import Derived.JoinedTies
import Derived.KernelRfl
namespace Go.Proofs.YtfonfncokpdaaaaGreatDoor
/- THE CELL 'sum', in the pinned program and in every row, IS THE sha256 OF THE DUMP (.gsa) THAT YtfonfncokpdaaaaGreatDoorProg.lean LOADS. Nothing in Lean hashes anything: it is a label: what it is worth is what the hold of that sum in a sandbox is worth. -/
noncomputable def Tryz.pinned : Pinned := { name := "ytfonfncokpdaaaagreatdoor", sum := "914a16235de31957921c3a5286dbac9837b6d95d2f8402e058ab0cca032c38d7", checked := Tryz.checked }
namespace Rows
def none {H : Type} : Left H := { results := [], args := [] }

/- WHAT THE LISTED PACKAGE-LEVEL VARIABLES READ AS WHEN THE CALL BEGINS. Each datum BY PROGRAM (the guide's laid-datum.mjs) off the statement by which the dump's own 'gosem.cut.vars' lays the variable. In a bare row this is a premise. The card (YtfonfncokpdaaaaGreatDoorCards.lean) ties it to the program's text. -/
def laid_unicode_utf8_acceptRanges {H : Type} : DataW H := .agg [.agg [.lit (.int .u8 128), .lit (.int .u8 191)], .agg [.lit (.int .u8 160), .lit (.int .u8 191)], .agg [.lit (.int .u8 128), .lit (.int .u8 159)], .agg [.lit (.int .u8 144), .lit (.int .u8 191)], .agg [.lit (.int .u8 128), .lit (.int .u8 143)], .agg [.lit (.int .u8 0), .lit (.int .u8 0)], .agg [.lit (.int .u8 0), .lit (.int .u8 0)], .agg [.lit (.int .u8 0), .lit (.int .u8 0)], .agg [.lit (.int .u8 0), .lit (.int .u8 0)], .agg [.lit (.int .u8 0), .lit (.int .u8 0)], .agg [.lit (.int .u8 0), .lit (.int .u8 0)], .agg [.lit (.int .u8 0), .lit (.int .u8 0)], .agg [.lit (.int .u8 0), .lit (.int .u8 0)], .agg [.lit (.int .u8 0), .lit (.int .u8 0)], .agg [.lit (.int .u8 0), .lit (.int .u8 0)], .agg [.lit (.int .u8 0), .lit (.int .u8 0)]]
def laid_errors_errorType {H : Type} : DataW H := .iface "internal/reflectlite.rtype" (.agg [.ptr (.lit (.string [101, 114, 114, 111, 114]))])
/-- One of Go's own tables, pinned by name: the form's constant. -/
def laid_unicode_utf8_first : DataW Unit := Go.Pinned.utf8First
def laid_sigillary_iso_errUnlike {H : Type} : DataW H := .iface "*errors.errorString" (.ptr (.agg [.lit (.string [117, 110, 108, 105, 107, 101])]))

/-- 'sigillarylaw12.WalkSums': WHATEVER THE INPUT: true; the input reads as it did. -/
def walkSumsSpec : ChangeSpec := { name := "walkSums", fn := fun _ => fun
  | [d] => { results := [.lit (.bool true)], args := [d] }
  | _ => none }
def walkSumsRow : OpenClaim := { program := "ytfonfncokpdaaaagreatdoor", sum := "914a16235de31957921c3a5286dbac9837b6d95d2f8402e058ab0cca032c38d7", func := "sigillary/sigillarylaw12.WalkSums", spec := "walkSums", inPlace := ["internal/reflectlite.ValueOf", "(internal/reflectlite.Value).Type", "(internal/reflectlite.Value).IsNil", "internal/reflectlite.TypeOf", "(internal/reflectlite.Value).Elem", "(internal/reflectlite.Value).Set"], unfollowed := true, recurses := true, named := ["unicode/utf8.first", "unicode/utf8.acceptRanges", "errors.errorType"], plainKeys := false, apart := false, laid := [("unicode/utf8.acceptRanges", laid_unicode_utf8_acceptRanges), ("errors.errorType", laid_errors_errorType), ("unicode/utf8.first", laid_unicode_utf8_first)] }
def WalkSumsSaid : Prop := walkSumsRow.holds Tryz.pinned (OpenSpec.ofChange walkSumsSpec)

/-- ITS FALSE NEIGHBOUR: 'it returns false'. Refute it at one input. -/
def walkSumsWrong : ChangeSpec := { name := "walkSums", fn := fun _ => fun
  | [d] => { results := [.lit (.bool false)], args := [d] }
  | _ => none }
def WalkSumsWrongFalsely : Prop := walkSumsRow.holds Tryz.pinned (OpenSpec.ofChange walkSumsWrong)

/-- 'sigillarylaw12.WalkAnchors': WHATEVER THE INPUT: true; the input reads as it did. -/
def walkAnchorsSpec : ChangeSpec := { name := "walkAnchors", fn := fun _ => fun
  | [d] => { results := [.lit (.bool true)], args := [d] }
  | _ => none }
def walkAnchorsRow : OpenClaim := { program := "ytfonfncokpdaaaagreatdoor", sum := "914a16235de31957921c3a5286dbac9837b6d95d2f8402e058ab0cca032c38d7", func := "sigillary/sigillarylaw12.WalkAnchors", spec := "walkAnchors", inPlace := ["internal/reflectlite.ValueOf", "(internal/reflectlite.Value).Type", "(internal/reflectlite.Value).IsNil", "internal/reflectlite.TypeOf", "(internal/reflectlite.Value).Elem", "(internal/reflectlite.Value).Set"], unfollowed := true, recurses := true, named := ["unicode/utf8.first", "unicode/utf8.acceptRanges", "errors.errorType"], plainKeys := false, apart := false, laid := [("unicode/utf8.acceptRanges", laid_unicode_utf8_acceptRanges), ("errors.errorType", laid_errors_errorType), ("unicode/utf8.first", laid_unicode_utf8_first)] }
def WalkAnchorsSaid : Prop := walkAnchorsRow.holds Tryz.pinned (OpenSpec.ofChange walkAnchorsSpec)

/-- ITS FALSE NEIGHBOUR: 'it returns false'. Refute it at one input. -/
def walkAnchorsWrong : ChangeSpec := { name := "walkAnchors", fn := fun _ => fun
  | [d] => { results := [.lit (.bool false)], args := [d] }
  | _ => none }
def WalkAnchorsWrongFalsely : Prop := walkAnchorsRow.holds Tryz.pinned (OpenSpec.ofChange walkAnchorsWrong)

/-- 'sigillarylaw12.WalkDepths': WHATEVER THE INPUT: true; the input reads as it did. -/
def walkDepthsSpec : ChangeSpec := { name := "walkDepths", fn := fun _ => fun
  | [d] => { results := [.lit (.bool true)], args := [d] }
  | _ => none }
def walkDepthsRow : OpenClaim := { program := "ytfonfncokpdaaaagreatdoor", sum := "914a16235de31957921c3a5286dbac9837b6d95d2f8402e058ab0cca032c38d7", func := "sigillary/sigillarylaw12.WalkDepths", spec := "walkDepths", inPlace := ["internal/reflectlite.ValueOf", "(internal/reflectlite.Value).Type", "(internal/reflectlite.Value).IsNil", "internal/reflectlite.TypeOf", "(internal/reflectlite.Value).Elem", "(internal/reflectlite.Value).Set"], unfollowed := true, recurses := true, named := ["unicode/utf8.first", "unicode/utf8.acceptRanges", "errors.errorType"], plainKeys := false, apart := false, laid := [("unicode/utf8.acceptRanges", laid_unicode_utf8_acceptRanges), ("errors.errorType", laid_errors_errorType), ("unicode/utf8.first", laid_unicode_utf8_first)] }
def WalkDepthsSaid : Prop := walkDepthsRow.holds Tryz.pinned (OpenSpec.ofChange walkDepthsSpec)

/-- ITS FALSE NEIGHBOUR: 'it returns false'. Refute it at one input. -/
def walkDepthsWrong : ChangeSpec := { name := "walkDepths", fn := fun _ => fun
  | [d] => { results := [.lit (.bool false)], args := [d] }
  | _ => none }
def WalkDepthsWrongFalsely : Prop := walkDepthsRow.holds Tryz.pinned (OpenSpec.ofChange walkDepthsWrong)

/-- 'sigillarylaw12.WalkTrees': WHATEVER THE INPUT: true; the input reads as it did. -/
def walkTreesSpec : ChangeSpec := { name := "walkTrees", fn := fun _ => fun
  | [d] => { results := [.lit (.bool true)], args := [d] }
  | _ => none }
def walkTreesRow : OpenClaim := { program := "ytfonfncokpdaaaagreatdoor", sum := "914a16235de31957921c3a5286dbac9837b6d95d2f8402e058ab0cca032c38d7", func := "sigillary/sigillarylaw12.WalkTrees", spec := "walkTrees", inPlace := ["internal/reflectlite.ValueOf", "(internal/reflectlite.Value).Type", "(internal/reflectlite.Value).IsNil", "internal/reflectlite.TypeOf", "(internal/reflectlite.Value).Elem", "(internal/reflectlite.Value).Set"], unfollowed := true, recurses := true, named := ["unicode/utf8.first", "unicode/utf8.acceptRanges", "errors.errorType"], plainKeys := false, apart := false, laid := [("unicode/utf8.acceptRanges", laid_unicode_utf8_acceptRanges), ("errors.errorType", laid_errors_errorType), ("unicode/utf8.first", laid_unicode_utf8_first)] }
def WalkTreesSaid : Prop := walkTreesRow.holds Tryz.pinned (OpenSpec.ofChange walkTreesSpec)

/-- ITS FALSE NEIGHBOUR: 'it returns false'. Refute it at one input. -/
def walkTreesWrong : ChangeSpec := { name := "walkTrees", fn := fun _ => fun
  | [d] => { results := [.lit (.bool false)], args := [d] }
  | _ => none }
def WalkTreesWrongFalsely : Prop := walkTreesRow.holds Tryz.pinned (OpenSpec.ofChange walkTreesWrong)

/-- 'sigillarylaw09.IsoPaths': WHATEVER THE INPUT: true; the input reads as it did. -/
def isoPathsSpec : ChangeSpec := { name := "isoPaths", fn := fun _ => fun
  | [d1, d2, d3] => { results := [.lit (.bool true)], args := [d1, d2, d3] }
  | _ => none }
def isoPathsRow : OpenClaim := { program := "ytfonfncokpdaaaagreatdoor", sum := "914a16235de31957921c3a5286dbac9837b6d95d2f8402e058ab0cca032c38d7", func := "sigillary/sigillarylaw09.IsoPaths", spec := "isoPaths", inPlace := ["internal/reflectlite.ValueOf", "(internal/reflectlite.Value).Type", "(internal/reflectlite.Value).IsNil", "internal/reflectlite.TypeOf", "(internal/reflectlite.Value).Elem", "(internal/reflectlite.Value).Set"], unfollowed := true, recurses := true, named := ["unicode/utf8.first", "unicode/utf8.acceptRanges", "errors.errorType", "sigillary/iso.errUnlike"], plainKeys := false, apart := false, laid := [("unicode/utf8.acceptRanges", laid_unicode_utf8_acceptRanges), ("errors.errorType", laid_errors_errorType), ("sigillary/iso.errUnlike", laid_sigillary_iso_errUnlike), ("unicode/utf8.first", laid_unicode_utf8_first)] }
def IsoPathsSaid : Prop := isoPathsRow.holds Tryz.pinned (OpenSpec.ofChange isoPathsSpec)

/-- ITS FALSE NEIGHBOUR: 'it returns false'. Refute it at one input. -/
def isoPathsWrong : ChangeSpec := { name := "isoPaths", fn := fun _ => fun
  | [d1, d2, d3] => { results := [.lit (.bool false)], args := [d1, d2, d3] }
  | _ => none }
def IsoPathsWrongFalsely : Prop := isoPathsRow.holds Tryz.pinned (OpenSpec.ofChange isoPathsWrong)

/-- 'sigillarylaw09.IsoOrder': WHATEVER THE INPUT: true; the input reads as it did. -/
def isoOrderSpec : ChangeSpec := { name := "isoOrder", fn := fun _ => fun
  | [d1, d2, d3] => { results := [.lit (.bool true)], args := [d1, d2, d3] }
  | _ => none }
def isoOrderRow : OpenClaim := { program := "ytfonfncokpdaaaagreatdoor", sum := "914a16235de31957921c3a5286dbac9837b6d95d2f8402e058ab0cca032c38d7", func := "sigillary/sigillarylaw09.IsoOrder", spec := "isoOrder", inPlace := ["internal/reflectlite.ValueOf", "(internal/reflectlite.Value).Type", "(internal/reflectlite.Value).IsNil", "internal/reflectlite.TypeOf", "(internal/reflectlite.Value).Elem", "(internal/reflectlite.Value).Set"], unfollowed := true, recurses := true, named := ["unicode/utf8.first", "unicode/utf8.acceptRanges", "errors.errorType", "sigillary/iso.errUnlike"], plainKeys := false, apart := false, laid := [("unicode/utf8.acceptRanges", laid_unicode_utf8_acceptRanges), ("errors.errorType", laid_errors_errorType), ("sigillary/iso.errUnlike", laid_sigillary_iso_errUnlike), ("unicode/utf8.first", laid_unicode_utf8_first)] }
def IsoOrderSaid : Prop := isoOrderRow.holds Tryz.pinned (OpenSpec.ofChange isoOrderSpec)

/-- ITS FALSE NEIGHBOUR: 'it returns false'. Refute it at one input. -/
def isoOrderWrong : ChangeSpec := { name := "isoOrder", fn := fun _ => fun
  | [d1, d2, d3] => { results := [.lit (.bool false)], args := [d1, d2, d3] }
  | _ => none }
def IsoOrderWrongFalsely : Prop := isoOrderRow.holds Tryz.pinned (OpenSpec.ofChange isoOrderWrong)

/-- 'sigillarylaw09.IsoTidy': WHATEVER THE INPUT: true; the input reads as it did. -/
def isoTidySpec : ChangeSpec := { name := "isoTidy", fn := fun _ => fun
  | [d1, d2] => { results := [.lit (.bool true)], args := [d1, d2] }
  | _ => none }
def isoTidyRow : OpenClaim := { program := "ytfonfncokpdaaaagreatdoor", sum := "914a16235de31957921c3a5286dbac9837b6d95d2f8402e058ab0cca032c38d7", func := "sigillary/sigillarylaw09.IsoTidy", spec := "isoTidy", inPlace := ["internal/reflectlite.ValueOf", "(internal/reflectlite.Value).Type", "(internal/reflectlite.Value).IsNil", "internal/reflectlite.TypeOf", "(internal/reflectlite.Value).Elem", "(internal/reflectlite.Value).Set"], unfollowed := true, recurses := true, named := ["unicode/utf8.first", "unicode/utf8.acceptRanges", "errors.errorType", "sigillary/iso.errUnlike"], plainKeys := false, apart := false, laid := [("unicode/utf8.acceptRanges", laid_unicode_utf8_acceptRanges), ("errors.errorType", laid_errors_errorType), ("sigillary/iso.errUnlike", laid_sigillary_iso_errUnlike), ("unicode/utf8.first", laid_unicode_utf8_first)] }
def IsoTidySaid : Prop := isoTidyRow.holds Tryz.pinned (OpenSpec.ofChange isoTidySpec)

/-- ITS FALSE NEIGHBOUR: 'it returns false'. Refute it at one input. -/
def isoTidyWrong : ChangeSpec := { name := "isoTidy", fn := fun _ => fun
  | [d1, d2] => { results := [.lit (.bool false)], args := [d1, d2] }
  | _ => none }
def IsoTidyWrongFalsely : Prop := isoTidyRow.holds Tryz.pinned (OpenSpec.ofChange isoTidyWrong)

/- THE SECOND FORM. 'bulk': how many values and letters a reading holds, each counted each time it is reached (what is shared counts as often as it is met; a slice's spare places count too). A statement '..UptoSaid' is the law's where the arguments, and the package variables that the reading takes, are together of bulk at most 1048576: NARROWER than '..Said'. Prove '..Said' where nothing that the law and all that it calls make is longer than what came in: it says more and counts as full. Else prove '..UptoSaid'. A law counts once. -/
mutual
def uptoBulk {H : Type} : DataW H → Nat
  | .lit (.string bytes) => bytes.length + 1
  | .lit _ => 1
  | .nil => 1
  | .ptr d => uptoBulk d + 1
  | .slice elems spare => uptoBulkAll elems + uptoBulkAll spare + 1
  | .agg parts => uptoBulkAll parts + 1
  | .iface _ d => uptoBulk d + 1
  | .map entries => uptoBulkEntries entries + 1
  | .held _ => 1
def uptoBulkAll {H : Type} : List (DataW H) → Nat
  | [] => 0
  | d :: r => uptoBulk d + uptoBulkAll r
def uptoBulkEntries {H : Type} : List (Lit × DataW H) → Nat
  | [] => 0
  | x :: r => uptoBulkEntry x + uptoBulkEntries r
def uptoBulkEntry {H : Type} : Lit × DataW H → Nat
  | (.string bytes, d) => bytes.length + uptoBulk d + 1
  | (_, d) => uptoBulk d + 1
 end
def uptoSmall : (H : Type) → List (DataW H) → Bool := fun _ ds => decide (uptoBulkAll ds ≤ 1048576)
def OpenSpec.upto (s : _root_.Go.ChangeSpec) : _root_.Go.OpenSpec := { _root_.Go.OpenSpec.ofChange s with cond := some uptoSmall }

/-- 'sigillarylaw12.WalkSums', WHERE WHAT IT READS IS OF BULK AT MOST 1048576: true; the input reads as it did. -/
def walkSumsUptoRow : OpenClaim := { program := "ytfonfncokpdaaaagreatdoor", sum := "914a16235de31957921c3a5286dbac9837b6d95d2f8402e058ab0cca032c38d7", func := "sigillary/sigillarylaw12.WalkSums", spec := "walkSums", inPlace := ["internal/reflectlite.ValueOf", "(internal/reflectlite.Value).Type", "(internal/reflectlite.Value).IsNil", "internal/reflectlite.TypeOf", "(internal/reflectlite.Value).Elem", "(internal/reflectlite.Value).Set"], unfollowed := true, recurses := true, named := ["unicode/utf8.first", "unicode/utf8.acceptRanges", "errors.errorType"], plainKeys := false, apart := false, laid := [("unicode/utf8.acceptRanges", laid_unicode_utf8_acceptRanges), ("errors.errorType", laid_errors_errorType), ("unicode/utf8.first", laid_unicode_utf8_first)], narrowed := true }
def WalkSumsUptoSaid : Prop := walkSumsUptoRow.holds Tryz.pinned (OpenSpec.upto walkSumsSpec)

/-- 'sigillarylaw12.WalkAnchors', WHERE WHAT IT READS IS OF BULK AT MOST 1048576: true; the input reads as it did. -/
def walkAnchorsUptoRow : OpenClaim := { program := "ytfonfncokpdaaaagreatdoor", sum := "914a16235de31957921c3a5286dbac9837b6d95d2f8402e058ab0cca032c38d7", func := "sigillary/sigillarylaw12.WalkAnchors", spec := "walkAnchors", inPlace := ["internal/reflectlite.ValueOf", "(internal/reflectlite.Value).Type", "(internal/reflectlite.Value).IsNil", "internal/reflectlite.TypeOf", "(internal/reflectlite.Value).Elem", "(internal/reflectlite.Value).Set"], unfollowed := true, recurses := true, named := ["unicode/utf8.first", "unicode/utf8.acceptRanges", "errors.errorType"], plainKeys := false, apart := false, laid := [("unicode/utf8.acceptRanges", laid_unicode_utf8_acceptRanges), ("errors.errorType", laid_errors_errorType), ("unicode/utf8.first", laid_unicode_utf8_first)], narrowed := true }
def WalkAnchorsUptoSaid : Prop := walkAnchorsUptoRow.holds Tryz.pinned (OpenSpec.upto walkAnchorsSpec)

/-- 'sigillarylaw12.WalkDepths', WHERE WHAT IT READS IS OF BULK AT MOST 1048576: true; the input reads as it did. -/
def walkDepthsUptoRow : OpenClaim := { program := "ytfonfncokpdaaaagreatdoor", sum := "914a16235de31957921c3a5286dbac9837b6d95d2f8402e058ab0cca032c38d7", func := "sigillary/sigillarylaw12.WalkDepths", spec := "walkDepths", inPlace := ["internal/reflectlite.ValueOf", "(internal/reflectlite.Value).Type", "(internal/reflectlite.Value).IsNil", "internal/reflectlite.TypeOf", "(internal/reflectlite.Value).Elem", "(internal/reflectlite.Value).Set"], unfollowed := true, recurses := true, named := ["unicode/utf8.first", "unicode/utf8.acceptRanges", "errors.errorType"], plainKeys := false, apart := false, laid := [("unicode/utf8.acceptRanges", laid_unicode_utf8_acceptRanges), ("errors.errorType", laid_errors_errorType), ("unicode/utf8.first", laid_unicode_utf8_first)], narrowed := true }
def WalkDepthsUptoSaid : Prop := walkDepthsUptoRow.holds Tryz.pinned (OpenSpec.upto walkDepthsSpec)

/-- 'sigillarylaw12.WalkTrees', WHERE WHAT IT READS IS OF BULK AT MOST 1048576: true; the input reads as it did. -/
def walkTreesUptoRow : OpenClaim := { program := "ytfonfncokpdaaaagreatdoor", sum := "914a16235de31957921c3a5286dbac9837b6d95d2f8402e058ab0cca032c38d7", func := "sigillary/sigillarylaw12.WalkTrees", spec := "walkTrees", inPlace := ["internal/reflectlite.ValueOf", "(internal/reflectlite.Value).Type", "(internal/reflectlite.Value).IsNil", "internal/reflectlite.TypeOf", "(internal/reflectlite.Value).Elem", "(internal/reflectlite.Value).Set"], unfollowed := true, recurses := true, named := ["unicode/utf8.first", "unicode/utf8.acceptRanges", "errors.errorType"], plainKeys := false, apart := false, laid := [("unicode/utf8.acceptRanges", laid_unicode_utf8_acceptRanges), ("errors.errorType", laid_errors_errorType), ("unicode/utf8.first", laid_unicode_utf8_first)], narrowed := true }
def WalkTreesUptoSaid : Prop := walkTreesUptoRow.holds Tryz.pinned (OpenSpec.upto walkTreesSpec)

/-- 'sigillarylaw09.IsoPaths', WHERE WHAT IT READS IS OF BULK AT MOST 1048576: true; the input reads as it did. -/
def isoPathsUptoRow : OpenClaim := { program := "ytfonfncokpdaaaagreatdoor", sum := "914a16235de31957921c3a5286dbac9837b6d95d2f8402e058ab0cca032c38d7", func := "sigillary/sigillarylaw09.IsoPaths", spec := "isoPaths", inPlace := ["internal/reflectlite.ValueOf", "(internal/reflectlite.Value).Type", "(internal/reflectlite.Value).IsNil", "internal/reflectlite.TypeOf", "(internal/reflectlite.Value).Elem", "(internal/reflectlite.Value).Set"], unfollowed := true, recurses := true, named := ["unicode/utf8.first", "unicode/utf8.acceptRanges", "errors.errorType", "sigillary/iso.errUnlike"], plainKeys := false, apart := false, laid := [("unicode/utf8.acceptRanges", laid_unicode_utf8_acceptRanges), ("errors.errorType", laid_errors_errorType), ("sigillary/iso.errUnlike", laid_sigillary_iso_errUnlike), ("unicode/utf8.first", laid_unicode_utf8_first)], narrowed := true }
def IsoPathsUptoSaid : Prop := isoPathsUptoRow.holds Tryz.pinned (OpenSpec.upto isoPathsSpec)

/-- 'sigillarylaw09.IsoOrder', WHERE WHAT IT READS IS OF BULK AT MOST 1048576: true; the input reads as it did. -/
def isoOrderUptoRow : OpenClaim := { program := "ytfonfncokpdaaaagreatdoor", sum := "914a16235de31957921c3a5286dbac9837b6d95d2f8402e058ab0cca032c38d7", func := "sigillary/sigillarylaw09.IsoOrder", spec := "isoOrder", inPlace := ["internal/reflectlite.ValueOf", "(internal/reflectlite.Value).Type", "(internal/reflectlite.Value).IsNil", "internal/reflectlite.TypeOf", "(internal/reflectlite.Value).Elem", "(internal/reflectlite.Value).Set"], unfollowed := true, recurses := true, named := ["unicode/utf8.first", "unicode/utf8.acceptRanges", "errors.errorType", "sigillary/iso.errUnlike"], plainKeys := false, apart := false, laid := [("unicode/utf8.acceptRanges", laid_unicode_utf8_acceptRanges), ("errors.errorType", laid_errors_errorType), ("sigillary/iso.errUnlike", laid_sigillary_iso_errUnlike), ("unicode/utf8.first", laid_unicode_utf8_first)], narrowed := true }
def IsoOrderUptoSaid : Prop := isoOrderUptoRow.holds Tryz.pinned (OpenSpec.upto isoOrderSpec)

/-- 'sigillarylaw09.IsoTidy', WHERE WHAT IT READS IS OF BULK AT MOST 1048576: true; the input reads as it did. -/
def isoTidyUptoRow : OpenClaim := { program := "ytfonfncokpdaaaagreatdoor", sum := "914a16235de31957921c3a5286dbac9837b6d95d2f8402e058ab0cca032c38d7", func := "sigillary/sigillarylaw09.IsoTidy", spec := "isoTidy", inPlace := ["internal/reflectlite.ValueOf", "(internal/reflectlite.Value).Type", "(internal/reflectlite.Value).IsNil", "internal/reflectlite.TypeOf", "(internal/reflectlite.Value).Elem", "(internal/reflectlite.Value).Set"], unfollowed := true, recurses := true, named := ["unicode/utf8.first", "unicode/utf8.acceptRanges", "errors.errorType", "sigillary/iso.errUnlike"], plainKeys := false, apart := false, laid := [("unicode/utf8.acceptRanges", laid_unicode_utf8_acceptRanges), ("errors.errorType", laid_errors_errorType), ("sigillary/iso.errUnlike", laid_sigillary_iso_errUnlike), ("unicode/utf8.first", laid_unicode_utf8_first)], narrowed := true }
def IsoTidyUptoSaid : Prop := isoTidyUptoRow.holds Tryz.pinned (OpenSpec.upto isoTidySpec)

end Rows
end Go.Proofs.YtfonfncokpdaaaaGreatDoor
