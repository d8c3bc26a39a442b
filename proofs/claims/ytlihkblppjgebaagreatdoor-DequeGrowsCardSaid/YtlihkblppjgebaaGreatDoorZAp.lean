import Derived.Test.YtlihkblppjgebaaGreatDoorZAn
set_option linter.all false
set_option maxRecDepth 100000
set_option maxHeartbeats 8000000
namespace Go.Proofs.YtlihkblppjgebaaGreatDoor
open Go.RowKit Go.Proofs.Tryz
end Go.Proofs.YtlihkblppjgebaaGreatDoor
