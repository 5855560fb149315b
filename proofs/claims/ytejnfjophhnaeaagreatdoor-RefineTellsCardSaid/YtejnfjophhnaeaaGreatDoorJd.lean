/- Chapter 11: errors.As at quotients' errors (M.t,turned). -/
import Derived.Test.YtejnfjophhnaeaaGreatDoorLc
import Derived.Test.YtejnfjophhnaeaaGreatDoorL07L11Mini
import Derived.Test.YtejnfjophhnaeaaGreatDoorJc
import Derived.Test.YtejnfjophhnaeaaGreatDoorJa
import Derived.Test.YtejnfjophhnaeaaGreatDoorEa
set_option linter.all false
namespace Go.Fw.L07
open Go Go.Proofs Go.RowKit Go.Extern.Stop Go.Stop Go.Extern
open Go.Fw
def Wvq:Option Int->D
 | none=>.nilI
 | some e=>.ifc 132 true [.int .i64 e]
end Go.Fw.L07
namespace Go.Fw.L07
open Go Go.Fw
set_option maxRecDepth 4000
variable {gp:Xag}
abbrev qD (g:Gr):D:=.bx [.int .i64 g.root,.sl (nds g.l),.sl (Xai (Xc5 g.l))]
def upI (n:Nat):List Int:=(List.range n).map fun m:Nat=>(m:Int)
abbrev Wvr (n:Nat):List (V × V):=(upI n).map fun a=>(vi a,vb true)
noncomputable def qOf (g:Gr):Gr:=if chk g=none then Wne g else ⟨0,[]⟩
noncomputable def pOf (g:Gr):List Int:=if chk g=none then Wvi g else []
end Go.Fw.L07
