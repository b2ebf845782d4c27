import Derived.Test.YtehokmhebnkfdaaGreatL1
import Derived.Test.YtehokmhebnkfdaaGreatH9
set_option linter.all false
namespace Go.Proofs.YtehokmhebnkfdaaGreat.w
open Go Go.VM
set_option maxRecDepth 20000
set_option maxHeartbeats 0
set_option pp.deepTerms false
theorem on_sub (l:List Gz) (day:Int) (purpose:Str):(onS l day purpose).Sublist (dds l):=List.filter_sublist.trans (chg_sub l)
end Go.Proofs.YtehokmhebnkfdaaGreat.w
