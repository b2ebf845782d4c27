import Derived.Test.YtehokmhebnkfdaaGreatH8
set_option linter.all false
namespace Go.Proofs.YtehokmhebnkfdaaGreat.w
open Go Go.VM
set_option maxRecDepth 20000
set_option maxHeartbeats 0
set_option pp.deepTerms false
end Go.Proofs.YtehokmhebnkfdaaGreat.w
