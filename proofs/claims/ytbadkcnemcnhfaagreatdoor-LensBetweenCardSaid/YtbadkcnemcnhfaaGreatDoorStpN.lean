/- For every call with no model, and for blocks behind which a mark stands: what is answered, what is changed; the conditions stand in each theorem. -/
import Derived.Test.YtbadkcnemcnhfaaGreatDoorStp3
import Derived.Test.YtbadkcnemcnhfaaGreatDoorPkA
import Derived.Test.YtbadkcnemcnhfaaGreatDoorFb
import Derived.Test.YtbadkcnemcnhfaaGreatDoorConfD
import Derived.Test.YtbadkcnemcnhfaaGreatDoorPkV
set_option linter.unusedVariables false
set_option linter.unusedSimpArgs false
namespace Go.Proofs.YtbadkcnemcnhfaaGreatDoor.Stp
open Go Go.Proofs Go.Proofs.YtbadkcnemcnhfaaGreatDoor.V Go.Proofs.YtbadkcnemcnhfaaGreatDoor.Vc Go.Proofs.YtbadkcnemcnhfaaGreatDoor.Conf Go.Proofs.YtbadkcnemcnhfaaGreatDoor.Brain Go.Proofs.YtbadkcnemcnhfaaGreatDoor.Num Go.RowKit
section
variable {w : World} {o o2 : Option Addr} {n cp n2 c2 : Nat}
theorem check_nil (w : World) (o : Option Addr) (n cp : Nat) : Calls Tryz.prog i_step_check #[.pointer none, .slice o n cp] w (Ret fun v w' => v = .int .i64 2 ∧ Ch Non w w') := by
  refine step_check.calls_nil _ _ _ ?_
  unfold step_check.vc_nil
  intro w1 e1
  have hC := Blk.new e1
  exact ⟨_, hC.cell 0 rfl, iteT rfl ⟨rfl, Ch.alloc e1⟩⟩
theorem Step_nil (w : World) (o : Option Addr) (n cp : Nat) (t : Int) : Calls Tryz.prog i_step_Step #[.pointer none, .slice o n cp, .int .i64 t] w (Ret fun v w' => v = nilE 2 ∧ Ch Non w w') := by
  refine step_Step.calls_nil _ _ _ _ ?_
  unfold step_Step.vc_nil
  intro w1 e1
  have hE1 := Blk.new e1
  have hs1 := hE1.lt
  refine step_call (check_nil w1 o n cp) ?_
  rintro v w2 ⟨rfl, hc2⟩
  refine ⟨_, rfl, iteT rfl ?_⟩
  have hE := hE1.keepN hc2
  refine ⟨⟨hE.ok 0 rfl, hE.ok 1 rfl⟩, fun w3 e3 => ?_⟩
  have hE3 := (hE.set (o := 0) rfl).set e3
  refine ⟨_, _, _, _, _, _, ⟨hE3.cell 0 rfl, hE3.cell 1 rfl⟩, rfl, ((Ch.alloc e1).andN hc2).trans (Ch.set2 (F := (· = w.heap.size)) e3 rfl rfl) (fun i hi he => by omega)⟩
theorem Run_nil (w : World) (o : Option Addr) (n cp : Nat) (o2 : Option Addr) (n2 c2 : Nat) : Calls Tryz.prog i_step_Run #[.pointer none, .slice o n cp, .slice o2 n2 c2] w (Ret fun v w' => v = .tuple #[.slice none 0 0, .slice none 0 0, .int .i64 2] ∧ Ch Non w w') := by
  refine step_Run.calls_nil _ _ _ _ _ _ ?_
  unfold step_Run.vc_nil
  intro w1 e1
  have hC := Blk.new e1
  refine ⟨_, hC.cell 0 rfl, step_call (check_nil w1 o n cp) ?_⟩
  rintro v w2 ⟨rfl, hc2⟩
  exact ⟨_, rfl, iteT rfl ⟨rfl, (Ch.alloc e1).andN hc2⟩⟩
end
end Go.Proofs.YtbadkcnemcnhfaaGreatDoor.Stp
