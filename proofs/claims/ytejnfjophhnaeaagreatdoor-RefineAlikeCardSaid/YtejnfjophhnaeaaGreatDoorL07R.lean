/- Chapter 7,part 20: what the rows give. -/
import Derived.Test.YtejnfjophhnaeaaGreatDoorLc
import Derived.Test.YtejnfjophhnaeaaGreatDoorFe
import Derived.Test.YtejnfjophhnaeaaGreatDoorRows
import Derived.Lay
import Derived.LaidHandle
import Derived.Lib.LaidU8
import Derived.Handed
set_option linter.all false
namespace Go.Fw.L07
open Go Go.Fw Go.Proofs Go.RowKit Go.Proofs.YtejnfjophhnaeaaGreatDoor
set_option maxRecDepth 4000
abbrev Wh2 : List (String × DataW Unit) := [("unicode/utf8.acceptRanges", Rows.laid_unicode_utf8_acceptRanges), ("errors.errorType", Rows.laid_errors_errorType), ("unicode/utf8.first", Rows.laid_unicode_utf8_first)]
abbrev Wgq : List (String × DataW Unit) := [("unicode/utf8.acceptRanges", Rows.laid_unicode_utf8_acceptRanges), ("unicode/utf8.first", Rows.laid_unicode_utf8_first)]
theorem own : ownKnob Tryz.prog.godebug = none := by kernel_rfl
theorem Ywh : laidOutB Tryz.prog = true := by kernel_rfl
theorem gErr : Tryz.prog.globalNamed "errors.errorType" = some 0 := by kernel_rfl
theorem Y9v : (Tryz.prog.cutTypes.find? (·.1 == "internal/reflectlite.rtype")).map (·.2) = some 211 := by kernel_rfl
theorem Wgr : Tryz.prog.types.size = (411 - 100) := by kernel_rfl
theorem Y9w : ((List.range (411 - 100)).filter fun t => Tryz.prog.rowNamed t [101,114,114,111,114]) = [93] := by kernel_rfl
theorem Ywi : Lib.firstData = Rows.laid_unicode_utf8_first := by kernel_rfl
theorem Yfr : Lib.acceptData = Rows.laid_unicode_utf8_acceptRanges := by kernel_rfl
noncomputable def Xeo (os : Os) : World :=
 let w0 := World.holding Tryz.prog os ⟨#[],#[],[]⟩
 { w0 with heap := w0.heap.modify 0 fun
   | .cells _ t frozen => .cells #[.iface 211 (.agg #[.pointer (some ⟨7,93,none⟩)])] t frozen
   | o => o }
noncomputable def Y9x (os : Os) : World := (Xeo os).layVars Tryz.prog Wgq
theorem Yfs : Tryz.prog.underlying 4 = some .bool := by kernel_rfl
set_option maxRecDepth 100000
theorem Y9y {n : Nat} {ds : List D} (h : Xc5 Tryz.prog (n + 2) 41 ds) : ∃ x : Sc,ds = x.ds := by
 obtain ⟨d1,_,rfl,h1,d2,_,rfl,h2,d3,_,rfl,h3,rfl⟩ := Xfo (ts := [3,3,9]) (by kernel_rfl) h
 obtain ⟨k,rfl⟩ := Xfp (k := .i64) (by kernel_rfl) h1
 obtain ⟨m,rfl⟩ := Xfp (k := .i64) (by kernel_rfl) h2
 obtain ⟨s,rfl⟩ := X4j (by kernel_rfl) h3
 exact ⟨⟨k,m,s⟩,rfl⟩
theorem Wgs {n : Nat} {ds : List D} (h : Xc5 Tryz.prog (n + 4) 44 ds) : ∃ x : Nd,ds = x.ds := by
 obtain ⟨d1,_,rfl,h1,d2,_,rfl,h2,d3,_,rfl,h3,d4,_,rfl,h4,rfl⟩ := Xfo (ts := [3,41,42,27]) (by kernel_rfl) h
 obtain ⟨k,rfl⟩ := Xfp (k := .i64) (by kernel_rfl) h1
 obtain ⟨x,rfl⟩ := Y9y h2
 obtain ⟨xs,rfl,k3⟩ := Xgu (e := 41) (by kernel_rfl) h3
 obtain ⟨keys,rfl⟩ := Xnh (fun x h => Y9y h) k3
 obtain ⟨ys,rfl,k4⟩ := Xgu (e := 3) (by kernel_rfl) h4
 obtain ⟨kids,rfl⟩ := Xnh (f := fun m : Int => [.int .i64 m]) (fun x h => Xfp (k := .i64) (by kernel_rfl) h) k4
 exact ⟨⟨k,x,keys,kids⟩,rfl⟩
theorem Ywj {n : Nat} {ds : List D} (h : Xc5 Tryz.prog (n + 6) 24 ds) : ∃ g : Gr,ds = [.int .i64 g.root,.sl (nds g.l)] := by
 obtain ⟨d1,_,rfl,h1,d2,_,rfl,h2,rfl⟩ := Xfo (ts := [3,22]) (by kernel_rfl) h
 obtain ⟨r,rfl⟩ := Xfp (k := .i64) (by kernel_rfl) h1
 obtain ⟨xs,rfl,k2⟩ := Xgu (e := 44) (by kernel_rfl) h2
 obtain ⟨l,rfl⟩ := Xnh (fun x h => Wgs h) k2
 exact ⟨⟨r,l⟩,rfl⟩
end Go.Fw.L07
