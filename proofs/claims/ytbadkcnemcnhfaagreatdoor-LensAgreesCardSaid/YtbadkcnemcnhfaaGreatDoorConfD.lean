/- For every shape of a model that is read as data: its numbers; the conditions stand in each theorem. -/
import Derived.Test.YtbadkcnemcnhfaaGreatDoorPkB
set_option linter.unusedVariables false
set_option linter.unusedSimpArgs false
namespace Go.Proofs.YtbadkcnemcnhfaaGreatDoor.Conf
open Go Go.Proofs Go.Proofs.YtbadkcnemcnhfaaGreatDoor.V Go.Proofs.YtbadkcnemcnhfaaGreatDoor.Vc Go.RowKit

end Go.Proofs.YtbadkcnemcnhfaaGreatDoor.Conf
