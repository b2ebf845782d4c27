import Derived.Test.YtehokmhebnkfdaaGreatT0
import Derived.Test.YtehokmhebnkfdaaGreatL2
set_option linter.all false
namespace Go.Proofs.YtehokmhebnkfdaaGreat.w
open Go Go.VM
set_option maxRecDepth 20000
set_option maxHeartbeats 0
set_option pp.deepTerms false
theorem pur_len (l:List Gz):(purS l).length ≤ (dds l).length:=by
  have h1:=Lib.compact_length_le (sortT (Zdm (chgS l)))
  have h2:(sortT (Zdm (chgS l))).length = (Zdm (chgS l)).length:=by simp [sortT]
  have h3:=forsS_len (chgS l)
  have h4:=(chg_sub l).length_le
  unfold purS
  omega
end Go.Proofs.YtehokmhebnkfdaaGreat.w
