import Derived.Test.YtldogpfookkbaaaGreatDoorVmZ
import Derived.Shelf.Spec.SlicesGrow
set_option linter.all false
namespace Go.VM
open Go Go.Shelf
variable {P:Program} {ρ:Go.Shelf.Ren}
end Go.VM
