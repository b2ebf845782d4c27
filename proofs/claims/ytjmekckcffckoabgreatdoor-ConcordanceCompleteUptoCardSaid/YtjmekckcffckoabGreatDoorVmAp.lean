import Derived.Test.YtjmekckcffckoabGreatDoorVmA
set_option linter.all false
namespace Go.VM
open Go
section
variable {P : Program} {N : Nat} {hqf : Nat → Heap} {Z : Nat → Heap → Heap → Prop} {E : List Nat} {ops : Array Oper} {q : List VOper}
end
end Go.VM
