import Derived.Test.YtehokmhebnkfdaaGreatJ5
import Derived.Test.YtehokmhebnkfdaaGreatL2
set_option linter.all false
namespace Go.Proofs.YtehokmhebnkfdaaGreat.w
open Go Go.VM
set_option maxRecDepth 20000
set_option maxHeartbeats 0
set_option pp.deepTerms false
theorem mem_bpS (l:List Gz) (x:Int):x ∈ bpS l ↔ x = 0 ∨ ∃ d ∈ chgS l,x ∈ c.edges (Zcj l d):=by
  rw [bp_fold,(fold_put _ [0] (List.pairwise_singleton _ _)).2]
  simp
end Go.Proofs.YtehokmhebnkfdaaGreat.w
