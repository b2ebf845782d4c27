import Derived.Test.YtjmekckcffckoabGreatDoorVmA
set_option linter.all false
namespace Go.VM
open Go
end Go.VM
