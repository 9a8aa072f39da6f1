import Derived.Test.YtfhnegfoglngoaaGreatVc
import Derived.Test.YtfhnegfoglngoaaGreatH
import Derived.Test.YtfhnegfoglngoaaGreatProg
import Derived.KernelRfl
set_option linter.unusedVariables false
set_option maxRecDepth 100000
namespace Go.Proofs.YtfhnegfoglngoaaGreat.Vc
open Go Go.Proofs Go.Proofs.YtfhnegfoglngoaaGreat.V
end Go.Proofs.YtfhnegfoglngoaaGreat.Vc
