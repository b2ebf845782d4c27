import Derived.Test.YtjmekckcffckoabGreatDoorR4
set_option linter.all false
namespace Go.Proofs.YtjmekckcffckoabGreatDoor.w
open Go Go.VM
set_option maxRecDepth 20000
set_option maxHeartbeats 0
set_option pp.deepTerms false
theorem closed_encI (l:List Int):Closed (.sl 1 (encI l)):=closed_ints l
end Go.Proofs.YtjmekckcffckoabGreatDoor.w
