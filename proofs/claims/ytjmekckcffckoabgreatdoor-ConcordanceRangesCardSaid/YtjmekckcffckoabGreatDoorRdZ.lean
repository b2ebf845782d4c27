import Derived.Test.YtjmekckcffckoabGreatDoorK6
import Derived.Test.YtjmekckcffckoabGreatDoorVmAa
import Derived.KernelRfl
set_option linter.all false
namespace Go.Proofs.YtjmekckcffckoabGreatDoor.rd
open Go Go.VM
variable {W : World}
theorem rU8 (n:Nat):Reads Tryz.prog W n 5 (fun a=>(Lit.int .u8 a).wf = true) (fun a=>[.int .u8 a]):=reads_int Tryz.underlying5
end Go.Proofs.YtjmekckcffckoabGreatDoor.rd
