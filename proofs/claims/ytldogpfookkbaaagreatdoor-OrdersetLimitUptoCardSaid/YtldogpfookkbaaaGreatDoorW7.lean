import Derived.Test.YtldogpfookkbaaaGreatDoorB4
import Derived.Test.YtldogpfookkbaaaGreatDoorVmBa
import Derived.Test.YtldogpfookkbaaaGreatDoorVmAd
import Derived.Test.YtldogpfookkbaaaGreatDoorVmZ
set_option linter.all false
set_option maxRecDepth 20000
set_option maxHeartbeats 0
namespace Go.VM
open Go
theorem Aft.off {L L':List (Nat×AB)} {t t0:Nat} (o:Off L t0) (h:t0<t) (hold:∀ q∈L',(∃ r∈L,r.1=q.1)∨t≤q.1):Off L' t0:=fun q hq e=>by
 rcases hold q hq with ⟨r,hr,er⟩|h'
 ·exact o r hr (er.trans e)
 ·omega
end Go.VM
namespace Go.Proofs.YtldogpfookkbaaaGreatDoor.w
open Go Go.VM
end Go.Proofs.YtldogpfookkbaaaGreatDoor.w
