/- Small codes. -/
import Derived.Test.YtejnfjophhnaeaaGreatDoorFd
import Derived.Test.YtejnfjophhnaeaaGreatDoorProg
set_option linter.all false
namespace Go.Fw.L07
open Go Go.Fw
variable {gp:Xag} {args:List V} {res:V} {pre:List Ch} {R:V->List Ch->Prop}
end Go.Fw.L07
