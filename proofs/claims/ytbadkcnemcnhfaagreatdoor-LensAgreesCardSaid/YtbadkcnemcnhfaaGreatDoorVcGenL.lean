import Derived.Test.YtbadkcnemcnhfaaGreatDoorVc
import Derived.Test.YtbadkcnemcnhfaaGreatDoorH
import Derived.Test.YtbadkcnemcnhfaaGreatDoorProg
import Derived.KernelRfl
set_option linter.unusedVariables false
set_option maxRecDepth 100000
namespace Go.Proofs.YtbadkcnemcnhfaaGreatDoor.Vc
open Go Go.Proofs Go.Proofs.YtbadkcnemcnhfaaGreatDoor.V
/-- function 25 -/
def coadjutorref18_Next.vc (draw : Int) (scoresA : Option Addr) (scoresN : Nat) (scoresC : Nat) (w : World) (R : Value → World → Prop) : Prop :=
  Calls Tryz.prog 52 #[(.slice scoresA scoresN scoresC)] w (Ret fun v w1 => ∃ (x7A : Option Addr), ∃ (x7N : Nat), ∃ (x7C : Nat), v = (.slice x7A x7N x7C) ∧
  Calls Tryz.prog 51 #[(.int .i64 draw), (.slice x7A x7N x7C)] w1 (Ret fun v_1 w2 => ∃ (x8 : Int), v_1 = (.int .i64 x8) ∧
  R (.int .i64 (if (0 : Int) > x8 then (0 : Int) else x8)) w2))
theorem coadjutorref18_Next.vc_eq (draw : Int) (scoresA : Option Addr) (scoresN : Nat) (scoresC : Nat) (w : World) (R : Value → World → Prop) : fnV Tryz.prog Tryz.f25 .nil [(.int .i64 draw), (.slice scoresA scoresN scoresC)] w R = coadjutorref18_Next.vc draw scoresA scoresN scoresC w R := by kernel_rfl
theorem coadjutorref18_Next.calls (draw : Int) (scoresA : Option Addr) (scoresN : Nat) (scoresC : Nat) {w : World} {R : Value → World → Prop} (h : coadjutorref18_Next.vc draw scoresA scoresN scoresC w R) : Calls Tryz.prog 25 #[(.int .i64 draw), (.slice scoresA scoresN scoresC)] w (Ret R) :=
  calls_V fit Tryz.func25 .nil (by rw [show (#[(.int .i64 draw), (.slice scoresA scoresN scoresC)] : Array Value).toList = [(.int .i64 draw), (.slice scoresA scoresN scoresC)] from rfl, coadjutorref18_Next.vc_eq]; exact h)
end Go.Proofs.YtbadkcnemcnhfaaGreatDoor.Vc
