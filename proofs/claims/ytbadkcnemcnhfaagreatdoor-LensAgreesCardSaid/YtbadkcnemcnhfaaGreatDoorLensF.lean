/- For every two rows of weights: sums over the parts are sums over all, in plain Lean. -/
import Derived.Test.YtbadkcnemcnhfaaGreatDoorLensD
set_option linter.unusedVariables false
set_option linter.unusedSimpArgs false
namespace Go.Proofs.YtbadkcnemcnhfaaGreatDoor.Lens
open Go Go.Proofs Go.Proofs.YtbadkcnemcnhfaaGreatDoor.V Go.Proofs.YtbadkcnemcnhfaaGreatDoor.Vc Go.Proofs.YtbadkcnemcnhfaaGreatDoor.Conf Go.Proofs.YtbadkcnemcnhfaaGreatDoor.Brain Go.Proofs.YtbadkcnemcnhfaaGreatDoor.Num Go.RowKit

/-- Ranges that follow each other. -/
def contig : Int → List (Int × Int) → Int → Prop
  | s, [], e => s = e
  | s, x :: r, e => x.1 = s ∧ 0 ≤ x.2 ∧ contig (s + x.2) r e
theorem contig.app : ∀ {a : List (Int × Int)} {b : List (Int × Int)} {s m e : Int}, contig s a m → contig m b e → contig s (a ++ b) e
  | [], b, s, m, e, h, k => by
    have h : s = m := h
    subst h; exact k
  | x :: r, b, s, m, e, h, k => ⟨h.1, h.2.1, contig.app h.2.2 k⟩
theorem contig.le : ∀ {a : List (Int × Int)} {s e : Int}, contig s a e → s ≤ e
  | [], s, e, h => Int.le_of_eq h
  | x :: r, s, e, h => by have := contig.le h.2.2; have := h.2.1; omega
structure Additive (φ : List Int → List Int → Int) : Prop where
  nil : φ [] [] = 0
  app : ∀ a b c d : List Int, a.length = c.length → φ (a ++ b) (c ++ d) = φ a c + φ b d
section
variable {c : CfD} {wa wb : ByteArray}
end
end Go.Proofs.YtbadkcnemcnhfaaGreatDoor.Lens
