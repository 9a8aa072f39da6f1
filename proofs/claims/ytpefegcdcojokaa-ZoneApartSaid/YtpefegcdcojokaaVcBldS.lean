import Derived.Test.YtpefegcdcojokaaVc
import Derived.Test.YtpefegcdcojokaaH
import Derived.Test.YtpefegcdcojokaaProg
import Derived.KernelRfl
set_option linter.unusedVariables false
set_option maxRecDepth 100000
namespace Go.Proofs.Ytpefegcdcojokaa.Vc
open Go Go.Proofs Go.Proofs.Ytpefegcdcojokaa.V
/-- function 40 -/
def strings_Builder_WriteString.vc (bB : Nat) (s : ByteArray) (w : World) (R : Value → World → Prop) : Prop :=
  Calls Try.prog 48 #[(.pointer (some (⟨bB, 0, none⟩ : Addr)))] w (Ret fun v w1 => v = .tuple #[] ∧
  ∃ (x12A : Option Addr), ∃ (x12N : Nat), ∃ (x12C : Nat), w1.cell? (⟨bB, 1, none⟩ : Addr) = some (.slice x12A x12N x12C) ∧
  ∃ (x14A : Option Addr), ∃ (x14N : Nat), ∃ (x14C : Nat), ∃ w2 : World, (Builtin.append_ #[22, 9] 22 #[(.slice x12A x12N x12C), (.string s)]).run Try.prog w1 = .ok (.slice x14A x14N x14C) w2 ∧
  (((∃ u, w2.cell? (⟨bB, 1, none⟩ : Addr) = some u) ∧ w2.frozen? (⟨bB, 1, none⟩ : Addr) = false)) ∧ ∀ w3 : World, w3 = (w2.setCell (⟨bB, 1, none⟩ : Addr) (.slice x14A x14N x14C)) →
  R (.tuple #[(.int .i64 ((s.size : Nat) : Int)), .nilIface]) w3)
theorem strings_Builder_WriteString.vc_eq (bB : Nat) (s : ByteArray) (w : World) (R : Value → World → Prop) : fnV Try.prog Try.f40 .nil [(.pointer (some (⟨bB, 0, none⟩ : Addr))), (.string s)] w R = strings_Builder_WriteString.vc bB s w R := by kernel_rfl
theorem strings_Builder_WriteString.calls (bB : Nat) (s : ByteArray) {w : World} {R : Value → World → Prop} (h : strings_Builder_WriteString.vc bB s w R) : Calls Try.prog 40 #[(.pointer (some (⟨bB, 0, none⟩ : Addr))), (.string s)] w (Ret R) :=
  calls_V fit Try.func40 .nil (by rw [show (#[(.pointer (some (⟨bB, 0, none⟩ : Addr))), (.string s)] : Array Value).toList = [(.pointer (some (⟨bB, 0, none⟩ : Addr))), (.string s)] from rfl, strings_Builder_WriteString.vc_eq]; exact h)
/-- function 46 -/
def strings_Builder_Len.vc (bB : Nat) (w : World) (R : Value → World → Prop) : Prop :=
  ∃ (x6A : Option Addr), ∃ (x6N : Nat), ∃ (x6C : Nat), w.cell? (⟨bB, 1, none⟩ : Addr) = some (.slice x6A x6N x6C) ∧
  R (.int .i64 ((x6N : Nat) : Int)) w
theorem strings_Builder_Len.vc_eq (bB : Nat) (w : World) (R : Value → World → Prop) : fnV Try.prog Try.f46 .nil [(.pointer (some (⟨bB, 0, none⟩ : Addr)))] w R = strings_Builder_Len.vc bB w R := by kernel_rfl
theorem strings_Builder_Len.calls (bB : Nat) {w : World} {R : Value → World → Prop} (h : strings_Builder_Len.vc bB w R) : Calls Try.prog 46 #[(.pointer (some (⟨bB, 0, none⟩ : Addr)))] w (Ret R) :=
  calls_V fit Try.func46 .nil (by rw [show (#[(.pointer (some (⟨bB, 0, none⟩ : Addr)))] : Array Value).toList = [(.pointer (some (⟨bB, 0, none⟩ : Addr)))] from rfl, strings_Builder_Len.vc_eq]; exact h)
end Go.Proofs.Ytpefegcdcojokaa.Vc
