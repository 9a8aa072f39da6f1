/- For every shape of a model that is read as data: its numbers; the conditions stand in each theorem. -/
import Derived.Test.YtkbikekbaboclaaGreatPkB
set_option linter.unusedVariables false
set_option linter.unusedSimpArgs false
namespace Go.Proofs.YtkbikekbaboclaaGreat.Conf
open Go Go.Proofs Go.Proofs.YtkbikekbaboclaaGreat.V Go.Proofs.YtkbikekbaboclaaGreat.Vc Go.RowKit

end Go.Proofs.YtkbikekbaboclaaGreat.Conf
