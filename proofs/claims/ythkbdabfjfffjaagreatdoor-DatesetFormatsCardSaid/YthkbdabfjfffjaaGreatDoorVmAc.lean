import Derived.Test.YthkbdabfjfffjaaGreatDoorVmD
set_option linter.all false
namespace Go.VM
open Go
end Go.VM
