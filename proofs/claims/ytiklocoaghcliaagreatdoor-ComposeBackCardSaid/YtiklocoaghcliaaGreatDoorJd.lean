/- Chapter 11: errors.As at quotients' errors (M.t,turned). -/
import Derived.Test.YtiklocoaghcliaaGreatDoorLc
import Derived.Test.YtiklocoaghcliaaGreatDoorJc
import Derived.Test.YtiklocoaghcliaaGreatDoorJa
set_option linter.all false
namespace Go.Fw.L07
open Go Go.Proofs Go.RowKit Go.Extern.Stop Go.Stop Go.Extern
end Go.Fw.L07
namespace Go.Fw.L07
open Go Go.Fw
set_option maxRecDepth 4000
variable {gp:Xaj}
abbrev qD (g:Gr):D:=.bx [.int .i64 g.root,.sl (nds g.l),.sl (Xai (Xgg g.l))]
def upI (n:Nat):List Int:=(List.range n).map fun m:Nat=>(m:Int)
abbrev W2q (n:Nat):List (V × V):=(upI n).map fun a=>(vi a,vb true)
end Go.Fw.L07
