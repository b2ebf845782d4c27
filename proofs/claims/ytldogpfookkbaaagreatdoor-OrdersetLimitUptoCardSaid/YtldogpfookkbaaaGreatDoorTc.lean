import Derived.Test.YtldogpfookkbaaaGreatDoorB7
import Derived.Test.YtldogpfookkbaaaGreatDoorVmBl
import Derived.Test.YtldogpfookkbaaaGreatDoorVmBa
set_option linter.all false
set_option maxRecDepth 20000
set_option maxHeartbeats 0
namespace Go.VM
open Go
end Go.VM
namespace Go.Proofs.YtldogpfookkbaaaGreatDoor.w
open Go Go.VM
end Go.Proofs.YtldogpfookkbaaaGreatDoor.w
namespace Go.VM
open Go
end Go.VM
namespace Go.Proofs.YtldogpfookkbaaaGreatDoor.w
open Go Go.VM
end Go.Proofs.YtldogpfookkbaaaGreatDoor.w
namespace Go.VM
open Go
end Go.VM
namespace Go.Proofs.YtldogpfookkbaaaGreatDoor.w
open Go Go.VM
end Go.Proofs.YtldogpfookkbaaaGreatDoor.w
