import Derived.Test.YtbadkcnemcnhfaaDoorVc
import Derived.Test.YtbadkcnemcnhfaaDoorH
import Derived.Test.YtbadkcnemcnhfaaDoorProg
import Derived.KernelRfl
set_option linter.unusedVariables false
set_option maxRecDepth 100000
namespace Go.Proofs.YtbadkcnemcnhfaaDoor.Vc
open Go Go.Proofs Go.Proofs.YtbadkcnemcnhfaaDoor.V
end Go.Proofs.YtbadkcnemcnhfaaDoor.Vc
