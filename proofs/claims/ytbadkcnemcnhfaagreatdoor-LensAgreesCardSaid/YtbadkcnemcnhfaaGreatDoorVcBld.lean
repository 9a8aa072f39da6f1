import Derived.Test.YtbadkcnemcnhfaaGreatDoorVc
import Derived.Test.YtbadkcnemcnhfaaGreatDoorH
import Derived.Test.YtbadkcnemcnhfaaGreatDoorProg
import Derived.KernelRfl
set_option linter.unusedVariables false
set_option maxRecDepth 100000
namespace Go.Proofs.YtbadkcnemcnhfaaGreatDoor.Vc
open Go Go.Proofs Go.Proofs.YtbadkcnemcnhfaaGreatDoor.V
/-- function 101 -/
def strings_Builder_WriteByte.vc (bB : Nat) (c : Int) (w : World) (R : Value → World → Prop) : Prop :=
  Calls Tryz.prog 124 #[(.pointer (some (⟨bB, 0, none⟩ : Addr)))] w (Ret fun v w1 => v = .tuple #[] ∧
  ∃ (x11A : Option Addr), ∃ (x11N : Nat), ∃ (x11C : Nat), w1.cell? (⟨bB, 1, none⟩ : Addr) = some (.slice x11A x11N x11C) ∧
  ∀ w2 : World, w2 = w1.alloc (.cells #[(.int .u8 c)] 5 (0, 0)) →
  ∃ (x14A : Option Addr), ∃ (x14N : Nat), ∃ (x14C : Nat), ∃ w3 : World, (Builtin.append_ #[64, 64] 64 #[(.slice x11A x11N x11C), (.slice (some (⟨w1.heap.size, 0, none⟩ : Addr)) 1 1)]).run Tryz.prog w2 = .ok (.slice x14A x14N x14C) w3 ∧
  (((∃ u, w3.cell? (⟨bB, 1, none⟩ : Addr) = some u) ∧ w3.frozen? (⟨bB, 1, none⟩ : Addr) = false)) ∧ ∀ w4 : World, w4 = (w3.setCell (⟨bB, 1, none⟩ : Addr) (.slice x14A x14N x14C)) →
  R .nilIface w4)
theorem strings_Builder_WriteByte.vc_eq (bB : Nat) (c : Int) (w : World) (R : Value → World → Prop) : fnV Tryz.prog Tryz.f101 .nil [(.pointer (some (⟨bB, 0, none⟩ : Addr))), (.int .u8 c)] w R = strings_Builder_WriteByte.vc bB c w R := by kernel_rfl
theorem strings_Builder_WriteByte.calls (bB : Nat) (c : Int) {w : World} {R : Value → World → Prop} (h : strings_Builder_WriteByte.vc bB c w R) : Calls Tryz.prog 101 #[(.pointer (some (⟨bB, 0, none⟩ : Addr))), (.int .u8 c)] w (Ret R) :=
  calls_V fit Tryz.func101 .nil (by rw [show (#[(.pointer (some (⟨bB, 0, none⟩ : Addr))), (.int .u8 c)] : Array Value).toList = [(.pointer (some (⟨bB, 0, none⟩ : Addr))), (.int .u8 c)] from rfl, strings_Builder_WriteByte.vc_eq]; exact h)
/-- function 102 -/
def strings_Builder_String.vc (bB : Nat) (w : World) (R : Value → World → Prop) : Prop :=
  ∃ vS : World → Prop, ∀ w1 : World, w1 = w.drew → vS w1 ∧
  ∃ (x6A : Option Addr), ∃ (x6N : Nat), ∃ (x6C : Nat), (∀ w2, vS w2 → w2.cell? (⟨bB, 1, none⟩ : Addr) = some (.slice x6A x6N x6C)) ∧
  ∃ (x11A : Option Addr), ∃ (x11N : Nat), ∃ (x11C : Nat), (∀ w3, vS w3 → w3.cell? (⟨bB, 1, none⟩ : Addr) = some (.slice x11A x11N x11C)) ∧
  ∃ (x7 : Option Addr), ∃ w4 : World, (Builtin.unsafeSliceData_ #[64] 169 #[(.slice x6A x6N x6C)]).run Tryz.prog w1 = .ok (.pointer x7) w4 ∧
  vS w4 ∧
  ∃ (x13 : ByteArray), ∃ w5 : World, (Builtin.unsafeString_ #[169, 3] 9 #[(.pointer x7), (.int .i64 ((x11N : Nat) : Int))]).run Tryz.prog w4 = .ok (.string x13) w5 ∧
  vS w5 ∧
  R (.string x13) w5
theorem strings_Builder_String.vc_eq (bB : Nat) (w : World) (R : Value → World → Prop) : fnV Tryz.prog Tryz.f102 (.tk 0 (.tk 1 (.tk 2 (.tk 3 (.tk 5 (.tk 6 (.tk 7 (.tk 8 (.tk 9 (.alt 4 (.alt 10 (.tk 11 (.fin .nil)) .nil) .nil)))))))))) [(.pointer (some (⟨bB, 0, none⟩ : Addr)))] w R = strings_Builder_String.vc bB w R := by kernel_rfl
theorem strings_Builder_String.calls (bB : Nat) {w : World} {R : Value → World → Prop} (h : strings_Builder_String.vc bB w R) : Calls Tryz.prog 102 #[(.pointer (some (⟨bB, 0, none⟩ : Addr)))] w (Ret R) :=
  calls_V fit Tryz.func102 (.tk 0 (.tk 1 (.tk 2 (.tk 3 (.tk 5 (.tk 6 (.tk 7 (.tk 8 (.tk 9 (.alt 4 (.alt 10 (.tk 11 (.fin .nil)) .nil) .nil)))))))))) (by rw [show (#[(.pointer (some (⟨bB, 0, none⟩ : Addr)))] : Array Value).toList = [(.pointer (some (⟨bB, 0, none⟩ : Addr)))] from rfl, strings_Builder_String.vc_eq]; exact h)
end Go.Proofs.YtbadkcnemcnhfaaGreatDoor.Vc
