import Derived.Test.YtkbikekbaboclaaGreatStp3
import Derived.Test.YtkbikekbaboclaaGreatPkA
import Derived.Test.YtkbikekbaboclaaGreatFb
import Derived.Test.YtkbikekbaboclaaGreatConfD
import Derived.Test.YtkbikekbaboclaaGreatPkV
set_option linter.unusedVariables false
set_option linter.unusedSimpArgs false
namespace Go.Proofs.YtkbikekbaboclaaGreat.Stp
open Go Go.Proofs V Vc Conf Brain Num Go.RowKit
section
variable {w : World} {o o2 : Option Addr} {n cp n2 c2 : Nat}
end
end Go.Proofs.YtkbikekbaboclaaGreat.Stp
