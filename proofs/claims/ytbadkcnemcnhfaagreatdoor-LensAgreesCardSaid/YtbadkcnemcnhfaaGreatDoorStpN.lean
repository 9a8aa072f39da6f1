/- For every call with no model, and for blocks behind which a mark stands: what is answered, what is changed; the conditions stand in each theorem. -/
import Derived.Test.YtbadkcnemcnhfaaGreatDoorStp3
import Derived.Test.YtbadkcnemcnhfaaGreatDoorPkA
import Derived.Test.YtbadkcnemcnhfaaGreatDoorFb
import Derived.Test.YtbadkcnemcnhfaaGreatDoorConfD
import Derived.Test.YtbadkcnemcnhfaaGreatDoorPkV
set_option linter.unusedVariables false
set_option linter.unusedSimpArgs false
namespace Go.Proofs.YtbadkcnemcnhfaaGreatDoor.Stp
open Go Go.Proofs Go.Proofs.YtbadkcnemcnhfaaGreatDoor.V Go.Proofs.YtbadkcnemcnhfaaGreatDoor.Vc Go.Proofs.YtbadkcnemcnhfaaGreatDoor.Conf Go.Proofs.YtbadkcnemcnhfaaGreatDoor.Brain Go.Proofs.YtbadkcnemcnhfaaGreatDoor.Num Go.RowKit
section
variable {w : World} {o o2 : Option Addr} {n cp n2 c2 : Nat}
end
end Go.Proofs.YtbadkcnemcnhfaaGreatDoor.Stp
