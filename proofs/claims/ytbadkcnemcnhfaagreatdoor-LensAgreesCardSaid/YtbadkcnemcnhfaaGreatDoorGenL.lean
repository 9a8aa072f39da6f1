/- For every world of the model: what the laws' own helpers of layer 18 answer; the conditions stand in each theorem. -/
import Derived.Test.YtbadkcnemcnhfaaGreatDoorGenC
import Derived.Test.YtbadkcnemcnhfaaGreatDoorStpL
import Derived.Test.YtbadkcnemcnhfaaGreatDoorVcGenL
set_option linter.unusedVariables false
set_option linter.unusedSimpArgs false
namespace Go.Proofs.YtbadkcnemcnhfaaGreatDoor.Gen
open Go Go.Proofs Go.Proofs.YtbadkcnemcnhfaaGreatDoor.V Go.Proofs.YtbadkcnemcnhfaaGreatDoor.Vc Go.Proofs.YtbadkcnemcnhfaaGreatDoor.Conf Go.Proofs.YtbadkcnemcnhfaaGreatDoor.Brain Go.Proofs.YtbadkcnemcnhfaaGreatDoor.Num Go.Proofs.YtbadkcnemcnhfaaGreatDoor.Stp Go.Proofs.YtbadkcnemcnhfaaGreatDoor.IntsT Go.RowKit

abbrev smallG (c : CfD) : Prop := c.dim ≤ 6 ∧ c.hidden ≤ 6 ∧ c.blocks ≤ 2 ∧ c.vocab ≤ 8 ∧ c.context ≤ 12
section
variable {w w' : World} {c : CfD} {wt : ByteArray} {F G : Nat → Prop} {sv : Value} {sc : List Int}
theorem rNext_spec (hs : IV w sv sc F) (hl : sc.length ≤ 1000000) (draw : Int) : Calls Tryz.prog i_coadjutorref18_Next #[.int .i64 draw, sv] w (Ret fun v w' => v = .int .i64 (nextI draw sc) ∧ Ch Non w w') := by
  obtain ⟨o, cc, rfl, h1, h2, hr⟩ := hs
  refine coadjutorref18_Next.calls _ _ _ _ ?_
  unfold coadjutorref18_Next.vc
  refine step_call (Soft.rWeights_spec hr hl cc) ?_
  rintro v w1 ⟨A, C, rfl, hg⟩
  refine ⟨_, _, _, rfl, step_call (Soft.rChoose_spec hg.rd (by rw [weights_len]; exact hl) draw C) ?_⟩
  rintro v w2 ⟨rfl, rfl⟩
  refine ⟨_, rfl, ?_, hg.2⟩
  unfold nextI
  congr 1
  split <;> omega
def c18 : CfD := ⟨3, 2, 1, 1, 1, 4⟩
def w18 : ByteArray := ⟨(List.replicate 42 (0 : UInt8)).toArray⟩
end
end Go.Proofs.YtbadkcnemcnhfaaGreatDoor.Gen
