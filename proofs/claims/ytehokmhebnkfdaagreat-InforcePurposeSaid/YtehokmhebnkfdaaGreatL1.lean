import Derived.Test.YtehokmhebnkfdaaGreatJ3
import Derived.Test.YtehokmhebnkfdaaGreatJ1
set_option linter.all false
namespace Go.Proofs.YtehokmhebnkfdaaGreat.w
open Go Go.VM
set_option maxRecDepth 20000
set_option maxHeartbeats 0
set_option pp.deepTerms false
theorem Nice.dds {l:List Gz} (h:Nice l) (hf:FewG 30 l):(dds l).length ≤ 30:=by
  have h1:=acts_items (rowG l)
  have h2:=hf.2.2
  have h3:=deedsF_len (Zbc (Zb1 (rowG l))) (Zb1 (rowG l))
  show (deedsS _).length ≤ 30
  unfold deedsS
  omega
end Go.Proofs.YtehokmhebnkfdaaGreat.w
