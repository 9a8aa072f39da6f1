/- For all whole numbers: what layer 1's Clamp and Sat answer. -/
import Derived.Test.YtbadkcnemcnhfaaDoorArith
import Derived.Test.YtbadkcnemcnhfaaDoorVcNum
set_option linter.unusedVariables false
set_option linter.unusedSimpArgs false
namespace Go.Proofs.YtbadkcnemcnhfaaDoor.Num
open Go Go.Proofs Go.Proofs.YtbadkcnemcnhfaaDoor.V Go.Proofs.YtbadkcnemcnhfaaDoor.Vc

end Go.Proofs.YtbadkcnemcnhfaaDoor.Num
