import Derived.Test.YtkbikekbaboclaaGreatCut
import Derived.Test.YtkbikekbaboclaaGreatVcWardI
import Derived.Lib.Overlaps
import Derived.Lib.AppendZerosOnto
import Derived.Laws.IdiomCopy
set_option linter.unusedVariables false
set_option linter.unusedSimpArgs false
namespace Go.Proofs.YtkbikekbaboclaaGreat.V
open Go Go.Proofs Vc Go.RowKit
section
variable {P : Program} {w w' : World} {t T sz n c bytes g : Nat} {o : Option Addr} {cs cur : List Value} {F : Nat → Prop}
end
end Go.Proofs.YtkbikekbaboclaaGreat.V
