import Derived.Test.YtpefegcdcojokaaVc
import Derived.Test.YtpefegcdcojokaaH
import Derived.Test.YtpefegcdcojokaaProg
import Derived.KernelRfl
set_option linter.unusedVariables false
set_option maxRecDepth 100000
namespace Go.Proofs.Ytpefegcdcojokaa.Vc
open Go Go.Proofs Go.Proofs.Ytpefegcdcojokaa.V
/-- function 41 -/
def strings_Builder_String.vc (bB : Nat) (w : World) (R : Value → World → Prop) : Prop :=
  ∃ vS : World → Prop, ∀ w1 : World, w1 = w.drew → vS w1 ∧
  ∃ (x6A : Option Addr), ∃ (x6N : Nat), ∃ (x6C : Nat), (∀ w2, vS w2 → w2.cell? (⟨bB, 1, none⟩ : Addr) = some (.slice x6A x6N x6C)) ∧
  ∃ (x11A : Option Addr), ∃ (x11N : Nat), ∃ (x11C : Nat), (∀ w3, vS w3 → w3.cell? (⟨bB, 1, none⟩ : Addr) = some (.slice x11A x11N x11C)) ∧
  ∃ (x7 : Option Addr), ∃ w4 : World, (Builtin.unsafeSliceData_ #[22] 82 #[(.slice x6A x6N x6C)]).run Try.prog w1 = .ok (.pointer x7) w4 ∧
  vS w4 ∧
  ∃ (x13 : ByteArray), ∃ w5 : World, (Builtin.unsafeString_ #[82, 3] 9 #[(.pointer x7), (.int .i64 ((x11N : Nat) : Int))]).run Try.prog w4 = .ok (.string x13) w5 ∧
  vS w5 ∧
  R (.string x13) w5
theorem strings_Builder_String.vc_eq (bB : Nat) (w : World) (R : Value → World → Prop) : fnV Try.prog Try.f41 (.tk 0 (.tk 1 (.tk 2 (.tk 3 (.tk 5 (.tk 6 (.tk 7 (.tk 8 (.tk 9 (.alt 4 (.alt 10 (.tk 11 (.fin .nil)) .nil) .nil)))))))))) [(.pointer (some (⟨bB, 0, none⟩ : Addr)))] w R = strings_Builder_String.vc bB w R := by kernel_rfl
theorem strings_Builder_String.calls (bB : Nat) {w : World} {R : Value → World → Prop} (h : strings_Builder_String.vc bB w R) : Calls Try.prog 41 #[(.pointer (some (⟨bB, 0, none⟩ : Addr)))] w (Ret R) :=
  calls_V fit Try.func41 (.tk 0 (.tk 1 (.tk 2 (.tk 3 (.tk 5 (.tk 6 (.tk 7 (.tk 8 (.tk 9 (.alt 4 (.alt 10 (.tk 11 (.fin .nil)) .nil) .nil)))))))))) (by rw [show (#[(.pointer (some (⟨bB, 0, none⟩ : Addr)))] : Array Value).toList = [(.pointer (some (⟨bB, 0, none⟩ : Addr)))] from rfl, strings_Builder_String.vc_eq]; exact h)
end Go.Proofs.Ytpefegcdcojokaa.Vc
