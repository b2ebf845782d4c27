import Derived.Test.YtjmekckcffckoabGreatDoorR3
import Derived.Test.YtjmekckcffckoabGreatDoorVmAp
set_option linter.all false
namespace Go.Proofs.YtjmekckcffckoabGreatDoor.w
open Go Go.VM
set_option maxRecDepth 20000
set_option maxHeartbeats 0
set_option pp.deepTerms false
end Go.Proofs.YtjmekckcffckoabGreatDoor.w
