/- For all rows of whole numbers: what the law's comparison answers. -/
import Derived.Test.YtbadkcnemcnhfaaDoorNumS
import Derived.Test.YtbadkcnemcnhfaaDoorVcVecs
set_option linter.unusedVariables false
set_option linter.unusedSimpArgs false
namespace Go.Proofs.YtbadkcnemcnhfaaDoor.Vecs
open Go Go.Proofs Go.Proofs.YtbadkcnemcnhfaaDoor.V Go.Proofs.YtbadkcnemcnhfaaDoor.Vc Go.Proofs.YtbadkcnemcnhfaaDoor.Num Go.RowKit

theorem zeroRow_one (v : Value) : ∀ n, zeroRow [v] n = List.replicate n v
  | 0 => rfl
  | n + 1 => by rw [zeroRow, zeroRow_one v n, List.replicate_succ]; rfl
section
variable {w : World} {oa ob : Option Addr} {ca cb : Nat} {xs ys : List Int} {F G : Nat → Prop}
end
end Go.Proofs.YtbadkcnemcnhfaaDoor.Vecs
