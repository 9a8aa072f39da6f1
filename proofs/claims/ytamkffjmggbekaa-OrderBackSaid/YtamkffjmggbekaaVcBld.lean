import Derived.Test.YtamkffjmggbekaaVc
import Derived.Test.YtamkffjmggbekaaH
import Derived.Test.YtamkffjmggbekaaProg
import Derived.KernelRfl
set_option linter.unusedVariables false
set_option maxRecDepth 100000
namespace Go.Proofs.Ytamkffjmggbekaa.Vc
open Go Go.Proofs Go.Proofs.Ytamkffjmggbekaa.V
/-- function 96 -/
def strings_Builder_WriteByte.vc (bB : Nat) (c : Int) (w : World) (R : Value → World → Prop) : Prop :=
  Calls Try.prog 109 #[(.pointer (some (⟨bB, 0, none⟩ : Addr)))] w (Ret fun v w1 => v = .tuple #[] ∧
  ∃ (x11A : Option Addr), ∃ (x11N : Nat), ∃ (x11C : Nat), w1.cell? (⟨bB, 1, none⟩ : Addr) = some (.slice x11A x11N x11C) ∧
  ∀ w2 : World, w2 = w1.alloc (.cells #[(.int .u8 c)] 5 (0, 0)) →
  ∃ (x14A : Option Addr), ∃ (x14N : Nat), ∃ (x14C : Nat), ∃ w3 : World, (Builtin.append_ #[99, 99] 99 #[(.slice x11A x11N x11C), (.slice (some (⟨w1.heap.size, 0, none⟩ : Addr)) 1 1)]).run Try.prog w2 = .ok (.slice x14A x14N x14C) w3 ∧
  (((∃ u, w3.cell? (⟨bB, 1, none⟩ : Addr) = some u) ∧ w3.frozen? (⟨bB, 1, none⟩ : Addr) = false)) ∧ ∀ w4 : World, w4 = (w3.setCell (⟨bB, 1, none⟩ : Addr) (.slice x14A x14N x14C)) →
  R .nilIface w4)
theorem strings_Builder_WriteByte.vc_eq (bB : Nat) (c : Int) (w : World) (R : Value → World → Prop) : fnV Try.prog Try.f96 .nil [(.pointer (some (⟨bB, 0, none⟩ : Addr))), (.int .u8 c)] w R = strings_Builder_WriteByte.vc bB c w R := by kernel_rfl
theorem strings_Builder_WriteByte.calls (bB : Nat) (c : Int) {w : World} {R : Value → World → Prop} (h : strings_Builder_WriteByte.vc bB c w R) : Calls Try.prog 96 #[(.pointer (some (⟨bB, 0, none⟩ : Addr))), (.int .u8 c)] w (Ret R) :=
  calls_V fit Try.func96 .nil (by rw [show (#[(.pointer (some (⟨bB, 0, none⟩ : Addr))), (.int .u8 c)] : Array Value).toList = [(.pointer (some (⟨bB, 0, none⟩ : Addr))), (.int .u8 c)] from rfl, strings_Builder_WriteByte.vc_eq]; exact h)
/-- function 103 -/
def strings_Builder_Write.vc (bB : Nat) (pA : Option Addr) (pN : Nat) (pC : Nat) (w : World) (R : Value → World → Prop) : Prop :=
  Calls Try.prog 109 #[(.pointer (some (⟨bB, 0, none⟩ : Addr)))] w (Ret fun v w1 => v = .tuple #[] ∧
  ∃ (x12A : Option Addr), ∃ (x12N : Nat), ∃ (x12C : Nat), w1.cell? (⟨bB, 1, none⟩ : Addr) = some (.slice x12A x12N x12C) ∧
  ∃ (x14A : Option Addr), ∃ (x14N : Nat), ∃ (x14C : Nat), ∃ w2 : World, (Builtin.append_ #[99, 99] 99 #[(.slice x12A x12N x12C), (.slice pA pN pC)]).run Try.prog w1 = .ok (.slice x14A x14N x14C) w2 ∧
  (((∃ u, w2.cell? (⟨bB, 1, none⟩ : Addr) = some u) ∧ w2.frozen? (⟨bB, 1, none⟩ : Addr) = false)) ∧ ∀ w3 : World, w3 = (w2.setCell (⟨bB, 1, none⟩ : Addr) (.slice x14A x14N x14C)) →
  R (.tuple #[(.int .i64 ((pN : Nat) : Int)), .nilIface]) w3)
theorem strings_Builder_Write.vc_eq (bB : Nat) (pA : Option Addr) (pN : Nat) (pC : Nat) (w : World) (R : Value → World → Prop) : fnV Try.prog Try.f103 .nil [(.pointer (some (⟨bB, 0, none⟩ : Addr))), (.slice pA pN pC)] w R = strings_Builder_Write.vc bB pA pN pC w R := by kernel_rfl
theorem strings_Builder_Write.calls (bB : Nat) (pA : Option Addr) (pN : Nat) (pC : Nat) {w : World} {R : Value → World → Prop} (h : strings_Builder_Write.vc bB pA pN pC w R) : Calls Try.prog 103 #[(.pointer (some (⟨bB, 0, none⟩ : Addr))), (.slice pA pN pC)] w (Ret R) :=
  calls_V fit Try.func103 .nil (by rw [show (#[(.pointer (some (⟨bB, 0, none⟩ : Addr))), (.slice pA pN pC)] : Array Value).toList = [(.pointer (some (⟨bB, 0, none⟩ : Addr))), (.slice pA pN pC)] from rfl, strings_Builder_Write.vc_eq]; exact h)
/-- function 97 -/
def strings_Builder_String.vc (bB : Nat) (w : World) (R : Value → World → Prop) : Prop :=
  ∃ vS : World → Prop, ∀ w1 : World, w1 = w.drew → vS w1 ∧
  ∃ (x6A : Option Addr), ∃ (x6N : Nat), ∃ (x6C : Nat), (∀ w2, vS w2 → w2.cell? (⟨bB, 1, none⟩ : Addr) = some (.slice x6A x6N x6C)) ∧
  ∃ (x11A : Option Addr), ∃ (x11N : Nat), ∃ (x11C : Nat), (∀ w3, vS w3 → w3.cell? (⟨bB, 1, none⟩ : Addr) = some (.slice x11A x11N x11C)) ∧
  ∃ (x7 : Option Addr), ∃ w4 : World, (Builtin.unsafeSliceData_ #[99] 174 #[(.slice x6A x6N x6C)]).run Try.prog w1 = .ok (.pointer x7) w4 ∧
  vS w4 ∧
  ∃ (x13 : ByteArray), ∃ w5 : World, (Builtin.unsafeString_ #[174, 3] 9 #[(.pointer x7), (.int .i64 ((x11N : Nat) : Int))]).run Try.prog w4 = .ok (.string x13) w5 ∧
  vS w5 ∧
  R (.string x13) w5
theorem strings_Builder_String.vc_eq (bB : Nat) (w : World) (R : Value → World → Prop) : fnV Try.prog Try.f97 (.tk 0 (.tk 1 (.tk 2 (.tk 3 (.tk 5 (.tk 6 (.tk 7 (.tk 8 (.tk 9 (.alt 4 (.alt 10 (.tk 11 (.fin .nil)) .nil) .nil)))))))))) [(.pointer (some (⟨bB, 0, none⟩ : Addr)))] w R = strings_Builder_String.vc bB w R := by kernel_rfl
theorem strings_Builder_String.calls (bB : Nat) {w : World} {R : Value → World → Prop} (h : strings_Builder_String.vc bB w R) : Calls Try.prog 97 #[(.pointer (some (⟨bB, 0, none⟩ : Addr)))] w (Ret R) :=
  calls_V fit Try.func97 (.tk 0 (.tk 1 (.tk 2 (.tk 3 (.tk 5 (.tk 6 (.tk 7 (.tk 8 (.tk 9 (.alt 4 (.alt 10 (.tk 11 (.fin .nil)) .nil) .nil)))))))))) (by rw [show (#[(.pointer (some (⟨bB, 0, none⟩ : Addr)))] : Array Value).toList = [(.pointer (some (⟨bB, 0, none⟩ : Addr)))] from rfl, strings_Builder_String.vc_eq]; exact h)
end Go.Proofs.Ytamkffjmggbekaa.Vc
