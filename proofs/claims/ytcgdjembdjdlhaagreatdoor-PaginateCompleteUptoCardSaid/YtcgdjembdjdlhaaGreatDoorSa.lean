import Derived.Test.YtcgdjembdjdlhaaGreatDoorPf
import Derived.Test.YtcgdjembdjdlhaaGreatDoorYp
import Derived.Test.YtcgdjembdjdlhaaGreatDoorVmPk
set_option linter.all false
set_option maxRecDepth 20000
set_option maxHeartbeats 0
namespace Go.VM
open Go Go.Proofs.YtcgdjembdjdlhaaGreatDoor.w
theorem toN_mono {u:Un} {a b:Nat} (h:a≤b):toN u a≤toN u b:=by unfold toN;omega
theorem linesA_cons (w:Int) (a:Un) (L:List Un):Zap w (a::L)=Zas w a++Zap w L:=by unfold Zap;rw [List.flatMap_cons]
theorem linesA_app (w:Int) (L M:List Un):Zap w (L++M)=Zap w L++Zap w M:=by unfold Zap;rw [List.flatMap_append]
end Go.VM
namespace Go.Proofs.YtcgdjembdjdlhaaGreatDoor.w
open Go Go.VM
end Go.Proofs.YtcgdjembdjdlhaaGreatDoor.w
