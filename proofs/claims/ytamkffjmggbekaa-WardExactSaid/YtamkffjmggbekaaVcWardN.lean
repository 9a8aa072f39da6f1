import Derived.Test.YtamkffjmggbekaaVc
import Derived.Test.YtamkffjmggbekaaH
import Derived.Test.YtamkffjmggbekaaProg
import Derived.KernelRfl
set_option linter.unusedVariables false
set_option maxRecDepth 100000
namespace Go.Proofs.Ytamkffjmggbekaa.Vc
open Go Go.Proofs Go.Proofs.Ytamkffjmggbekaa.V
/-- function 12 -/
def ward_Ward_Submit.vc_nil (bB : Nat) (a0 : Int) (a1 : Int) (a2A : Option Addr) (a2N : Nat) (a2C : Nat) (a3 : Int) (a4A : Option Addr) (a4N : Nat) (a4C : Nat) (w : World) (R : Value → World → Prop) : Prop :=
  ∀ w1 : World, w1 = w.alloc (.cells #[(.int .i64 a0), (.int .i64 a1), (.slice a2A a2N a2C), (.int .i64 a3), (.slice a4A a4N a4C)] 32 (0, 0)) →
  R (.int .i64 2) w1
theorem ward_Ward_Submit.vc_nil_eq (bB : Nat) (a0 : Int) (a1 : Int) (a2A : Option Addr) (a2N : Nat) (a2C : Nat) (a3 : Int) (a4A : Option Addr) (a4N : Nat) (a4C : Nat) (w : World) (R : Value → World → Prop) : fnV Try.prog Try.f12 (.k .nil) [(.pointer none), (.pointer (some (⟨bB, 0, none⟩ : Addr))), (.agg #[(.int .i64 a0), (.int .i64 a1), (.slice a2A a2N a2C), (.int .i64 a3), (.slice a4A a4N a4C)])] w R = ward_Ward_Submit.vc_nil bB a0 a1 a2A a2N a2C a3 a4A a4N a4C w R := by kernel_rfl
theorem ward_Ward_Submit.calls_nil (bB : Nat) (a0 : Int) (a1 : Int) (a2A : Option Addr) (a2N : Nat) (a2C : Nat) (a3 : Int) (a4A : Option Addr) (a4N : Nat) (a4C : Nat) {w : World} {R : Value → World → Prop} (h : ward_Ward_Submit.vc_nil bB a0 a1 a2A a2N a2C a3 a4A a4N a4C w R) : Calls Try.prog 12 #[(.pointer none), (.pointer (some (⟨bB, 0, none⟩ : Addr))), (.agg #[(.int .i64 a0), (.int .i64 a1), (.slice a2A a2N a2C), (.int .i64 a3), (.slice a4A a4N a4C)])] w (Ret R) :=
  calls_V fit Try.func12 (.k .nil) (by rw [show (#[(.pointer none), (.pointer (some (⟨bB, 0, none⟩ : Addr))), (.agg #[(.int .i64 a0), (.int .i64 a1), (.slice a2A a2N a2C), (.int .i64 a3), (.slice a4A a4N a4C)])] : Array Value).toList = [(.pointer none), (.pointer (some (⟨bB, 0, none⟩ : Addr))), (.agg #[(.int .i64 a0), (.int .i64 a1), (.slice a2A a2N a2C), (.int .i64 a3), (.slice a4A a4N a4C)])] from rfl, ward_Ward_Submit.vc_nil_eq]; exact h)
/-- function 12 -/
def ward_Ward_Submit.vc_nb (wB : Nat) (a0 : Int) (a1 : Int) (a2A : Option Addr) (a2N : Nat) (a2C : Nat) (a3 : Int) (a4A : Option Addr) (a4N : Nat) (a4C : Nat) (w : World) (R : Value → World → Prop) : Prop :=
  ∀ w1 : World, w1 = w.alloc (.cells #[(.int .i64 a0), (.int .i64 a1), (.slice a2A a2N a2C), (.int .i64 a3), (.slice a4A a4N a4C)] 32 (0, 0)) →
  R (.int .i64 2) w1
theorem ward_Ward_Submit.vc_nb_eq (wB : Nat) (a0 : Int) (a1 : Int) (a2A : Option Addr) (a2N : Nat) (a2C : Nat) (a3 : Int) (a4A : Option Addr) (a4N : Nat) (a4C : Nat) (w : World) (R : Value → World → Prop) : fnV Try.prog Try.f12 (.k .nil) [(.pointer (some (⟨wB, 0, none⟩ : Addr))), (.pointer none), (.agg #[(.int .i64 a0), (.int .i64 a1), (.slice a2A a2N a2C), (.int .i64 a3), (.slice a4A a4N a4C)])] w R = ward_Ward_Submit.vc_nb wB a0 a1 a2A a2N a2C a3 a4A a4N a4C w R := by kernel_rfl
theorem ward_Ward_Submit.calls_nb (wB : Nat) (a0 : Int) (a1 : Int) (a2A : Option Addr) (a2N : Nat) (a2C : Nat) (a3 : Int) (a4A : Option Addr) (a4N : Nat) (a4C : Nat) {w : World} {R : Value → World → Prop} (h : ward_Ward_Submit.vc_nb wB a0 a1 a2A a2N a2C a3 a4A a4N a4C w R) : Calls Try.prog 12 #[(.pointer (some (⟨wB, 0, none⟩ : Addr))), (.pointer none), (.agg #[(.int .i64 a0), (.int .i64 a1), (.slice a2A a2N a2C), (.int .i64 a3), (.slice a4A a4N a4C)])] w (Ret R) :=
  calls_V fit Try.func12 (.k .nil) (by rw [show (#[(.pointer (some (⟨wB, 0, none⟩ : Addr))), (.pointer none), (.agg #[(.int .i64 a0), (.int .i64 a1), (.slice a2A a2N a2C), (.int .i64 a3), (.slice a4A a4N a4C)])] : Array Value).toList = [(.pointer (some (⟨wB, 0, none⟩ : Addr))), (.pointer none), (.agg #[(.int .i64 a0), (.int .i64 a1), (.slice a2A a2N a2C), (.int .i64 a3), (.slice a4A a4N a4C)])] from rfl, ward_Ward_Submit.vc_nb_eq]; exact h)
/-- function 18 -/
def ward_Ward_Back.vc_nil (a0 : Int) (a1 : Int) (a2A : Option Addr) (a2N : Nat) (a2C : Nat) (a3 : Int) (a4A : Option Addr) (a4N : Nat) (a4C : Nat) (w : World) (R : Value → World → Prop) : Prop :=
  ∀ w1 : World, w1 = w.alloc (.cells #[(.int .i64 a0), (.int .i64 a1), (.slice a2A a2N a2C), (.int .i64 a3), (.slice a4A a4N a4C)] 32 (0, 0)) →
  R (.int .i64 2) w1
theorem ward_Ward_Back.vc_nil_eq (a0 : Int) (a1 : Int) (a2A : Option Addr) (a2N : Nat) (a2C : Nat) (a3 : Int) (a4A : Option Addr) (a4N : Nat) (a4C : Nat) (w : World) (R : Value → World → Prop) : fnV Try.prog Try.f18 (.k .nil) [(.pointer none), (.agg #[(.int .i64 a0), (.int .i64 a1), (.slice a2A a2N a2C), (.int .i64 a3), (.slice a4A a4N a4C)])] w R = ward_Ward_Back.vc_nil a0 a1 a2A a2N a2C a3 a4A a4N a4C w R := by kernel_rfl
theorem ward_Ward_Back.calls_nil (a0 : Int) (a1 : Int) (a2A : Option Addr) (a2N : Nat) (a2C : Nat) (a3 : Int) (a4A : Option Addr) (a4N : Nat) (a4C : Nat) {w : World} {R : Value → World → Prop} (h : ward_Ward_Back.vc_nil a0 a1 a2A a2N a2C a3 a4A a4N a4C w R) : Calls Try.prog 18 #[(.pointer none), (.agg #[(.int .i64 a0), (.int .i64 a1), (.slice a2A a2N a2C), (.int .i64 a3), (.slice a4A a4N a4C)])] w (Ret R) :=
  calls_V fit Try.func18 (.k .nil) (by rw [show (#[(.pointer none), (.agg #[(.int .i64 a0), (.int .i64 a1), (.slice a2A a2N a2C), (.int .i64 a3), (.slice a4A a4N a4C)])] : Array Value).toList = [(.pointer none), (.agg #[(.int .i64 a0), (.int .i64 a1), (.slice a2A a2N a2C), (.int .i64 a3), (.slice a4A a4N a4C)])] from rfl, ward_Ward_Back.vc_nil_eq]; exact h)
/-- function 15 -/
def ward_Ward_Take.vc_nil (w : World) (R : Value → World → Prop) : Prop :=
  ∀ w1 : World, w1 = w.alloc (.cells #[(.int .i64 0), (.int .i64 0), (.slice none 0 0), (.int .i64 0), (.slice none 0 0)] 32 (0, 0)) →
  (((∃ u, w1.cell? (⟨w.heap.size, 0, none⟩ : Addr) = some u) ∧ w1.frozen? (⟨w.heap.size, 0, none⟩ : Addr) = false) ∧ ((∃ u, w1.cell? (⟨w.heap.size, 1, none⟩ : Addr) = some u) ∧ w1.frozen? (⟨w.heap.size, 1, none⟩ : Addr) = false) ∧ ((∃ u, w1.cell? (⟨w.heap.size, 2, none⟩ : Addr) = some u) ∧ w1.frozen? (⟨w.heap.size, 2, none⟩ : Addr) = false) ∧ ((∃ u, w1.cell? (⟨w.heap.size, 3, none⟩ : Addr) = some u) ∧ w1.frozen? (⟨w.heap.size, 3, none⟩ : Addr) = false) ∧ ((∃ u, w1.cell? (⟨w.heap.size, 4, none⟩ : Addr) = some u) ∧ w1.frozen? (⟨w.heap.size, 4, none⟩ : Addr) = false)) ∧ ∀ w2 : World, w2 = (((((w1.setCell (⟨w.heap.size, 0, none⟩ : Addr) (.int .i64 0)).setCell (⟨w.heap.size, 1, none⟩ : Addr) (.int .i64 0)).setCell (⟨w.heap.size, 2, none⟩ : Addr) (.slice none 0 0)).setCell (⟨w.heap.size, 3, none⟩ : Addr) (.int .i64 0)).setCell (⟨w.heap.size, 4, none⟩ : Addr) (.slice none 0 0)) →
  ∃ (r00 : Int), ∃ (r01 : Int), ∃ (r02A : Option Addr), ∃ (r02N : Nat), ∃ (r02C : Nat), ∃ (r03 : Int), ∃ (r04A : Option Addr), ∃ (r04N : Nat), ∃ (r04C : Nat), (w2.cell? (⟨w.heap.size, 0, none⟩ : Addr) = some (.int .i64 r00) ∧ w2.cell? (⟨w.heap.size, 1, none⟩ : Addr) = some (.int .i64 r01) ∧ w2.cell? (⟨w.heap.size, 2, none⟩ : Addr) = some (.slice r02A r02N r02C) ∧ w2.cell? (⟨w.heap.size, 3, none⟩ : Addr) = some (.int .i64 r03) ∧ w2.cell? (⟨w.heap.size, 4, none⟩ : Addr) = some (.slice r04A r04N r04C)) ∧
  R (.tuple #[(.agg #[(.int .i64 r00), (.int .i64 r01), (.slice r02A r02N r02C), (.int .i64 r03), (.slice r04A r04N r04C)]), (.bool false)]) w2
theorem ward_Ward_Take.vc_nil_eq (w : World) (R : Value → World → Prop) : fnV Try.prog Try.f15 (.k .nil) [(.pointer none)] w R = ward_Ward_Take.vc_nil  w R := by kernel_rfl
theorem ward_Ward_Take.calls_nil {w : World} {R : Value → World → Prop} (h : ward_Ward_Take.vc_nil  w R) : Calls Try.prog 15 #[(.pointer none)] w (Ret R) :=
  calls_V fit Try.func15 (.k .nil) (by rw [show (#[(.pointer none)] : Array Value).toList = [(.pointer none)] from rfl, ward_Ward_Take.vc_nil_eq]; exact h)
/-- function 14 -/
def ward_Ward_Cancel.vc_nil (id : Int) (w : World) (R : Value → World → Prop) : Prop :=
  R (.int .i64 2) w
theorem ward_Ward_Cancel.vc_nil_eq (id : Int) (w : World) (R : Value → World → Prop) : fnV Try.prog Try.f14 (.k .nil) [(.pointer none), (.int .i64 id)] w R = ward_Ward_Cancel.vc_nil id w R := by kernel_rfl
theorem ward_Ward_Cancel.calls_nil (id : Int) {w : World} {R : Value → World → Prop} (h : ward_Ward_Cancel.vc_nil id w R) : Calls Try.prog 14 #[(.pointer none), (.int .i64 id)] w (Ret R) :=
  calls_V fit Try.func14 (.k .nil) (by rw [show (#[(.pointer none), (.int .i64 id)] : Array Value).toList = [(.pointer none), (.int .i64 id)] from rfl, ward_Ward_Cancel.vc_nil_eq]; exact h)
/-- function 17 -/
def ward_Ward_Ids.vc_nil (w : World) (R : Value → World → Prop) : Prop :=
  R (.slice none 0 0) w
theorem ward_Ward_Ids.vc_nil_eq (w : World) (R : Value → World → Prop) : fnV Try.prog Try.f17 (.k .nil) [(.pointer none)] w R = ward_Ward_Ids.vc_nil  w R := by kernel_rfl
theorem ward_Ward_Ids.calls_nil {w : World} {R : Value → World → Prop} (h : ward_Ward_Ids.vc_nil  w R) : Calls Try.prog 17 #[(.pointer none)] w (Ret R) :=
  calls_V fit Try.func17 (.k .nil) (by rw [show (#[(.pointer none)] : Array Value).toList = [(.pointer none)] from rfl, ward_Ward_Ids.vc_nil_eq]; exact h)
/-- function 29 -/
def ward_Ward_Of.vc_nil (versionsA : Option Addr) (versionsN : Nat) (versionsC : Nat) (w : World) (R : Value → World → Prop) : Prop :=
  R (.slice none 0 0) w
theorem ward_Ward_Of.vc_nil_eq (versionsA : Option Addr) (versionsN : Nat) (versionsC : Nat) (w : World) (R : Value → World → Prop) : fnV Try.prog Try.f29 (.k .nil) [(.pointer none), (.slice versionsA versionsN versionsC)] w R = ward_Ward_Of.vc_nil versionsA versionsN versionsC w R := by kernel_rfl
theorem ward_Ward_Of.calls_nil (versionsA : Option Addr) (versionsN : Nat) (versionsC : Nat) {w : World} {R : Value → World → Prop} (h : ward_Ward_Of.vc_nil versionsA versionsN versionsC w R) : Calls Try.prog 29 #[(.pointer none), (.slice versionsA versionsN versionsC)] w (Ret R) :=
  calls_V fit Try.func29 (.k .nil) (by rw [show (#[(.pointer none), (.slice versionsA versionsN versionsC)] : Array Value).toList = [(.pointer none), (.slice versionsA versionsN versionsC)] from rfl, ward_Ward_Of.vc_nil_eq]; exact h)
end Go.Proofs.Ytamkffjmggbekaa.Vc
