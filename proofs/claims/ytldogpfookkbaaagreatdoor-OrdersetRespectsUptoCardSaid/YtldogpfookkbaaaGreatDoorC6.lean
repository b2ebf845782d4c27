import Derived.Test.YtldogpfookkbaaaGreatDoorC5
import Derived.Test.YtldogpfookkbaaaGreatDoorD0
import Derived.Test.YtldogpfookkbaaaGreatDoorVmAg
import Derived.Test.YtldogpfookkbaaaGreatDoorVmBa
set_option linter.all false
set_option maxRecDepth 20000
set_option maxHeartbeats 0
namespace Go.Proofs.YtldogpfookkbaaaGreatDoor.w
open Go Go.VM
def c_wordseq_word : VC := (ZR [ZO 2 (.mv (.c (.bool false)))] (ZR [ZO 3 (.mv (.c (.fn (.func 254) [] [])))] (ZR [ZM 4 0,ZO 5 (.bin .neq (.t 4) (.c (.str []))),ZM 6 5,ZG 7 (.mv (.t 0)) 6 true,ZG 8 (.len true (.t 7)) 6 true,ZG 9 (.bin .leq (.t 8) (.c (.int .i64 24))) 6 true,ZO 10 (.pick (.t 6) (.t 9) (.c (.bool false))),ZM 11 10,ZG 12 (.mv (.t 0)) 11 true,ZG 13 (.other ({ dst := some 13,op := Op.convert 9 256 (Operand.tmp 12),type := 256,pos := "wordseq.go:14",after := #[{ on := 8,ground := Ground.data },{ on := 7,ground := Ground.guard }],guard := some (7,true) } : Oper)) 11 true,ZG 14 (.mv (.t 3)) 11 true,ZG 15 (.call 255 [.t 13,.t 14]) 11 true,ZG 16 (.un .not (.t 15)) 11 true,ZO 17 (.pick (.t 11) (.t 16) (.c (.bool false))),ZM 2 17] .ret)))
theorem cf_h:Zan Tryz.prog 255 [.sl 1 [[.int .u8 104]],.fn (.func 254) [] []] (.bool false):=run_pcall T_ok 60 rfl (by kernel_rfl)
theorem word_h:Zan Tryz.prog 226 [.str [104]] (.bool true):=by
 have H:=cf_h;refine Gp (vc:=c_wordseq_word) [.t 2] (cB _) Tryz.func226 ?_;unfold c_wordseq_word;try dsimp only [ZM,ZO,ZN,ZG,ZR,ZU]
 refine Rp0 [0] ?_;refine Rp0 [0,3] ?_;have h1:(([104]:Str) != [])=true:=rfl;refine Zac (Zay [2] ?_);have h2:decide (((1:Nat):Int)≤24)=true:=rfl;refine Sp1 (x2 h1 h2) ?_;refine OpS_bytes (s:=[104]) (el:=5) rfl Tryz.underlying9 (by kernel_rfl) (by kernel_rfl) rfl rfl ?_;refine Sp0 ?_;refine Ap0 H ?_;exact Tv0
end Go.Proofs.YtldogpfookkbaaaGreatDoor.w
