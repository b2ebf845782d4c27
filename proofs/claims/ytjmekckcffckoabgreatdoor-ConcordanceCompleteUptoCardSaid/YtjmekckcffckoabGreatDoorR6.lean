import Derived.Test.YtjmekckcffckoabGreatDoorR5
import Derived.Test.YtjmekckcffckoabGreatDoorVmS
import Derived.Test.YtjmekckcffckoabGreatDoorVmA
import Derived.Test.YtjmekckcffckoabGreatDoorRows
set_option linter.all false
namespace Go.Proofs.YtjmekckcffckoabGreatDoor.w
open Go Go.VM
set_option maxRecDepth 20000
set_option maxHeartbeats 0
set_option pp.deepTerms false
end Go.Proofs.YtjmekckcffckoabGreatDoor.w
namespace Go.Proofs.YtjmekckcffckoabGreatDoor.rd
open Go Go.VM
variable {W : World}
theorem k3:Tryz.prog.cellsOf 3 = 1:=by kernel_rfl
theorem k9:Tryz.prog.cellsOf 9 = 1:=by kernel_rfl
theorem k38:Tryz.prog.cellsOf 38 = 1:=by kernel_rfl
theorem rI (n:Nat):Reads Tryz.prog W n 3 i64 (fun a=>[pI a]):=reads_int Tryz.underlying3
end Go.Proofs.YtjmekckcffckoabGreatDoor.rd
