/- For all tables, rows of whole numbers and bytes: what layer 11's functions answer, and the document's; the conditions stand in each theorem. -/
import Derived.Test.YtbadkcnemcnhfaaDoorVecs
set_option linter.unusedVariables false
set_option linter.unusedSimpArgs false
namespace Go.Proofs.YtbadkcnemcnhfaaDoor.Vecs
open Go Go.Proofs Go.Proofs.YtbadkcnemcnhfaaDoor.V Go.Proofs.YtbadkcnemcnhfaaDoor.Vc Go.Proofs.YtbadkcnemcnhfaaDoor.Num Go.RowKit

section
variable {w : World} {r c : Int} {o : Option Addr} {n cap : Nat} {ds vs xs ys : List Int} {F G : Nat → Prop} {ov oa ob : Option Addr} {cv ca cb : Nat}
/-- A table times a row. -/
def timesL (ds : List Int) (R C : Nat) (vs : List Int) (s : Int) : List Int := (List.range R).map fun i => sat (shift (dotC (rowAt ds C i) vs) s)
def timesOk (ds : List Int) (r c : Int) (vs : List Int) : Bool := goodB r c ds.length && decide ((vs.length : Int) = c)
def timesT (ds : List Int) (r c : Int) (vs : List Int) (s : Int) : List Int := if timesOk ds r c vs then timesL ds r.toNat c.toNat vs s else []
theorem dot_in (xs ys : List Int) : inI (dotC xs ys) := by have := dotC_le xs ys; exact ⟨by omega, by omega⟩
end
end Go.Proofs.YtbadkcnemcnhfaaDoor.Vecs
