import Derived.Test.YtehokmhebnkfdaaGreatVmS
set_option linter.all false
namespace Go.Proofs.YtehokmhebnkfdaaGreat.run
end Go.Proofs.YtehokmhebnkfdaaGreat.run
