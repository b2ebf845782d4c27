import Derived.Test.YtehokmhebnkfdaaGreatH9
set_option linter.all false
namespace Go.Proofs.YtehokmhebnkfdaaGreat.w
open Go Go.VM
set_option maxRecDepth 20000
set_option maxHeartbeats 0
theorem acts_num (row:List Ac):(Zb1 row).Pairwise (fun a b=>a.number ≠ b.number) :=
  ((actsS_perm row).pairwise_iff (fun {_ _} h=>Ne.symm h)).2 (fstA_spec row []).1
end Go.Proofs.YtehokmhebnkfdaaGreat.w
