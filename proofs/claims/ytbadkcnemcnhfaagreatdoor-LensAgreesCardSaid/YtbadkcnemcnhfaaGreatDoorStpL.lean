/- For every world of the model: what the laws' own helpers answer; the conditions stand in each theorem. -/
import Derived.Test.YtbadkcnemcnhfaaGreatDoorRun
import Derived.Test.YtbadkcnemcnhfaaGreatDoorStpN
import Derived.Test.YtbadkcnemcnhfaaGreatDoorPkB
import Derived.Test.YtbadkcnemcnhfaaGreatDoorVcStpL
set_option linter.unusedVariables false
set_option linter.unusedSimpArgs false
namespace Go.Proofs.YtbadkcnemcnhfaaGreatDoor.Stp
open Go Go.Proofs Go.Proofs.YtbadkcnemcnhfaaGreatDoor.V Go.Proofs.YtbadkcnemcnhfaaGreatDoor.Vc Go.Proofs.YtbadkcnemcnhfaaGreatDoor.Conf Go.Proofs.YtbadkcnemcnhfaaGreatDoor.Brain Go.Proofs.YtbadkcnemcnhfaaGreatDoor.Num Go.Proofs.YtbadkcnemcnhfaaGreatDoor.IntsT Go.RowKit

abbrev smallC (c : CfD) : Prop := c.dim ≤ 6 ∧ c.hidden ≤ 6 ∧ c.blocks ≤ 2 ∧ c.vocab ≤ 8
section
variable {w w' : World} {bb : Nat} {c : CfD} {wt : ByteArray} {F G : Nat → Prop}
def c17 : CfD := ⟨3, 2, 1, 1, 1, 2⟩
def w17 : ByteArray := ⟨(List.replicate 38 (0 : UInt8)).toArray⟩
theorem ents_of {p : Value × Value} {e : Ent} (h : EV w p e F) : ∃ (o1 : Option Addr) (c1 : Nat) (o2 : Option Addr) (c2 : Nat), p = (.slice o1 e.1.length c1, .slice o2 e.2.length c2) := by
  obtain ⟨a, b⟩ := p
  obtain ⟨⟨o1, c1, _, h1, _⟩, ⟨o2, c2, _, h2, _⟩⟩ := h
  exact ⟨o1, c1, o2, c2, by rw [show a = _ from h1, show b = _ from h2]⟩
end
end Go.Proofs.YtbadkcnemcnhfaaGreatDoor.Stp
