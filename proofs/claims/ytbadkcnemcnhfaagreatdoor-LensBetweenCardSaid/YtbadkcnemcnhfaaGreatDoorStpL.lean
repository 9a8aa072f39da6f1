/- For every world of the model: what the laws' own helpers answer; the conditions stand in each theorem. -/
import Derived.Test.YtbadkcnemcnhfaaGreatDoorRun
import Derived.Test.YtbadkcnemcnhfaaGreatDoorStpN
import Derived.Test.YtbadkcnemcnhfaaGreatDoorPkB
import Derived.Test.YtbadkcnemcnhfaaGreatDoorVcStpL
set_option linter.unusedVariables false
set_option linter.unusedSimpArgs false
namespace Go.Proofs.YtbadkcnemcnhfaaGreatDoor.Stp
open Go Go.Proofs Go.Proofs.YtbadkcnemcnhfaaGreatDoor.V Go.Proofs.YtbadkcnemcnhfaaGreatDoor.Vc Go.Proofs.YtbadkcnemcnhfaaGreatDoor.Conf Go.Proofs.YtbadkcnemcnhfaaGreatDoor.Brain Go.Proofs.YtbadkcnemcnhfaaGreatDoor.Num Go.Proofs.YtbadkcnemcnhfaaGreatDoor.IntsT Go.RowKit

abbrev smallC (c : CfD) : Prop := c.dim ≤ 6 ∧ c.hidden ≤ 6 ∧ c.blocks ≤ 2 ∧ c.vocab ≤ 8
section
variable {w w' : World} {bb : Nat} {c : CfD} {wt : ByteArray} {F G : Nat → Prop}
theorem str_size2 (l : List UInt8) : (ByteArray.mk l.toArray).size = l.length := by simp [ByteArray.size]
/-- What brain.Of answers: a model, or an error. -/
theorem brOf_law (w : World) (c : CfD) (wt : ByteArray) : Calls Tryz.prog i_brain_Of #[.agg (cfE c).toArray, .string wt] w (Ret fun v w' => Ch Non w w' ∧ ((∃ b, v = .tuple #[.pointer (some ⟨b, 0, none⟩), .int .i64 0] ∧ w.heap.size ≤ b ∧ BrK w' b c wt) ∨ (¬ Md c wt ∧ ∃ e : Int, v = .tuple #[.pointer none, .int .i64 e] ∧ e ≠ 0))) := by
  refine step_call (brOf_spec w c wt) ?_
  rintro v w' ⟨hc, h1, h2, h3⟩
  refine ⟨hc, ?_⟩
  by_cases ok : okC c
  · by_cases hs : (wt.size : Int) = allN c
    · obtain ⟨b, rfl, hb, hr⟩ := h1 ⟨ok, hs⟩
      exact .inl ⟨b, rfl, hb, hr, ok, hs⟩
    · exact .inr ⟨fun m => hs m.sz, 5, h2 ⟨ok, hs⟩, by decide⟩
  · exact .inr ⟨fun m => ok m.ok, 1, h3 ok, by decide⟩
def c17 : CfD := ⟨3, 2, 1, 1, 1, 2⟩
def w17 : ByteArray := ⟨(List.replicate 38 (0 : UInt8)).toArray⟩
set_option maxRecDepth 100000 in
theorem md17 : Md c17 w17 := ⟨by decide, by decide⟩
set_option maxRecDepth 100000 in
theorem conv17 {w w1 : World} {b : Nat} (e : w1 = w.alloc (.cells (zeroRow [(.int .u8 0)] (38 : Int).toNat).toArray 5 (0, 0))) (hb : b = w.heap.size) :
    (convert 64 9 (.slice (some ⟨b, 0, none⟩) ((38 : Int).toNat) ((38 : Int).toNat))).run Tryz.prog w1 = .ok (.string w17) w1 := by
  subst hb
  have hB := Blk.new e
  have hr : Rd w1 (some ⟨w.heap.size, 0, none⟩) ((List.replicate 38 (0 : UInt8)).map u8v) (· = w.heap.size) := hB.rd
  exact conv_out (src := 64) (dst := 9) (e := 5) (c := 38) hr (by kernel_rfl) (by kernel_rfl) (by kernel_rfl)
theorem stepL17 : stepL c17 w17 [] 1 = [0, 0, 0] := by kernel_rfl
theorem ents_of {p : Value × Value} {e : Ent} (h : EV w p e F) : ∃ (o1 : Option Addr) (c1 : Nat) (o2 : Option Addr) (c2 : Nat), p = (.slice o1 e.1.length c1, .slice o2 e.2.length c2) := by
  obtain ⟨a, b⟩ := p
  obtain ⟨⟨o1, c1, _, h1, _⟩, ⟨o2, c2, _, h2, _⟩⟩ := h
  exact ⟨o1, c1, o2, c2, by rw [show a = _ from h1, show b = _ from h2]⟩
end
end Go.Proofs.YtbadkcnemcnhfaaGreatDoor.Stp
