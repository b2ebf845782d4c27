import Derived.Test.YtldogpfookkbaaaGreatDoorC5
import Derived.Test.YtldogpfookkbaaaGreatDoorD0
import Derived.Test.YtldogpfookkbaaaGreatDoorVmAg
import Derived.Test.YtldogpfookkbaaaGreatDoorVmBa
set_option linter.all false
set_option maxRecDepth 20000
set_option maxHeartbeats 0
namespace Go.Proofs.YtldogpfookkbaaaGreatDoor.w
open Go Go.VM
theorem cf_h:Zaj Tryz.prog 255 [.sl 1 [[.int .u8 104]],.fn (.func 254) [] []] (.bool false):=run_pcall T_ok 60 rfl (by kernel_rfl)
theorem word_h:Zaj Tryz.prog 226 [.str [104]] (.bool true):=by
 have H:=cf_h;refine Gp (vc:=c_wordseq_word) [.t 2] (cB _) Tryz.func226 ?_;unfold c_wordseq_word;try dsimp only [ZM,ZO,ZN,ZG,ZR,ZU]
 refine Rp0 [0] ?_;refine Rp0 [0,3] ?_;have h1:(([104]:Str) != [])=true:=rfl;refine Zab (Zag [2] ?_);have h2:decide (((1:Nat):Int)≤24)=true:=rfl;refine Sp1 (x2 h1 h2) ?_;refine OpS_bytes (s:=[104]) (el:=5) rfl Tryz.underlying9 (by kernel_rfl) (by kernel_rfl) rfl rfl ?_;refine Sp0 ?_;refine Ap0 H ?_;exact Tv0
end Go.Proofs.YtldogpfookkbaaaGreatDoor.w
