import Derived.Test.YtkbikekbaboclaaGreatPkB
set_option linter.unusedVariables false
set_option linter.unusedSimpArgs false
namespace Go.Proofs.YtkbikekbaboclaaGreat.Conf
open Go Go.Proofs V Vc Go.RowKit
end Go.Proofs.YtkbikekbaboclaaGreat.Conf
