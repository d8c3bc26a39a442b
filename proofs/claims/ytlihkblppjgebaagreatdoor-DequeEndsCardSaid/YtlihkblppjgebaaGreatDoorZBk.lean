import Derived.Test.YtlihkblppjgebaaGreatDoorZBf
import Derived.Test.YtlihkblppjgebaaGreatDoorZBg
import Derived.Test.YtlihkblppjgebaaGreatDoorZBh
import Derived.Test.YtlihkblppjgebaaGreatDoorZBi
set_option linter.all false
set_option maxRecDepth 100000
set_option maxHeartbeats 8000000
namespace Go.Proofs.YtlihkblppjgebaaGreatDoor
open Go.RowKit Go.Proofs.Tryz
section
section
variable{w:World}{χ:Nat->a4}{L:cw}{Y:Var}{C:KC}{K:KS}
end
end
end Go.Proofs.YtlihkblppjgebaaGreatDoor
