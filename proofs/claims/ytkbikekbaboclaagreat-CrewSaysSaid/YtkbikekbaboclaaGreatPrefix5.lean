import Derived.Test.YtkbikekbaboclaaGreatPkX
set_option linter.unusedVariables false
set_option linter.unusedSimpArgs false
namespace Go.Proofs.YtkbikekbaboclaaGreat.Prefix
open Go Go.Proofs V Vc Step Pages Go.RowKit
section
variable {w w' : World} {pb xb c0 c1 k n : Nat} {B v : Int} {ps ps' : List PageD} {es : List EntD} {FP Fa Fd G : Nat → Prop} {o : Option Addr} {c : Nat} {gs : List EcC}
end
section
variable {W w : World} {pb xb k : Nat} {B : Int} {ps : List PageD} {es : List EntD} {FP FI : Nat → Prop}
end
end Go.Proofs.YtkbikekbaboclaaGreat.Prefix
