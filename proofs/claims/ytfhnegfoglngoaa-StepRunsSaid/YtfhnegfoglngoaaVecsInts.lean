/- For all rows of whole numbers: what the law's comparison answers. -/
import Derived.Test.YtfhnegfoglngoaaNumS
import Derived.Test.YtfhnegfoglngoaaVcVecs
set_option linter.unusedVariables false
set_option linter.unusedSimpArgs false
namespace Go.Proofs.Ytfhnegfoglngoaa.Vecs
open Go Go.Proofs Go.Proofs.Ytfhnegfoglngoaa.V Go.Proofs.Ytfhnegfoglngoaa.Vc Go.Proofs.Ytfhnegfoglngoaa.Num Go.RowKit

theorem zeroRow_one (v : Value) : ∀ n, zeroRow [v] n = List.replicate n v
  | 0 => rfl
  | n + 1 => by rw [zeroRow, zeroRow_one v n, List.replicate_succ]; rfl
section
variable {w : World} {oa ob : Option Addr} {ca cb : Nat} {xs ys : List Int} {F G : Nat → Prop}
end
end Go.Proofs.Ytfhnegfoglngoaa.Vecs
