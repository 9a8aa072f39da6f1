import Derived.Test.YtkbikekbaboclaaGreatPagesLaw4
import Derived.Test.YtkbikekbaboclaaGreatVcPagesN
set_option linter.unusedVariables false
set_option linter.unusedSimpArgs false
namespace Go.Proofs.YtkbikekbaboclaaGreat.Pages
open Go Go.Proofs V Vc Step Go.RowKit
section
variable {w : World} {o : Option Addr} {l : List Int} {F G : Nat → Prop}
end
section
variable {w w' : World} {ub : Nat} {ps : List PageD} {F : Nat → Prop}
end
section
variable {W w w' : World} {pb ub : Nat} {ps qs ps' qs' : List PageD} {F FU G : Nat → Prop}
end
end Go.Proofs.YtkbikekbaboclaaGreat.Pages
