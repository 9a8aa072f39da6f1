import Derived.Test.YtbadkcnemcnhfaaDoorVc
import Derived.Test.YtbadkcnemcnhfaaDoorH
import Derived.Test.YtbadkcnemcnhfaaDoorProg
import Derived.KernelRfl
set_option linter.unusedVariables false
set_option maxRecDepth 100000
namespace Go.Proofs.YtbadkcnemcnhfaaDoor.Vc
open Go Go.Proofs Go.Proofs.YtbadkcnemcnhfaaDoor.V
/-- function 46 -/
def vecs_isSide.vc (n : Int) (w : World) (R : Value → World → Prop) : Prop :=
  (decide (n ≥ (1 : Int)) = true →
  R (.bool (decide (n ≤ (64 : Int)))) w) ∧
  (decide (n ≥ (1 : Int)) = false →
  R (.bool false) w)
theorem vecs_isSide.vc_eq (n : Int) (w : World) (R : Value → World → Prop) : fnV Tryd.prog Tryd.f46 (.at_ 1 2 .nil .nil) [(.int .i64 n)] w R = vecs_isSide.vc n w R := by kernel_rfl
theorem vecs_isSide.calls (n : Int) {w : World} {R : Value → World → Prop} (h : vecs_isSide.vc n w R) : Calls Tryd.prog 46 #[(.int .i64 n)] w (Ret R) :=
  calls_V fit Tryd.func46 (.at_ 1 2 .nil .nil) (by rw [show (#[(.int .i64 n)] : Array Value).toList = [(.int .i64 n)] from rfl, vecs_isSide.vc_eq]; exact h)
/-- function 38 -/
def vecs_Of.vc (rows : Int) (cols : Int) (s : ByteArray) (w : World) (R : Value → World → Prop) : Prop :=
  ∀ w1 : World, w1 = w.alloc (.cells #[(.int .i64 0), (.int .i64 0), (.slice none 0 0)] 67 (0, 0)) →
  Calls Tryd.prog 46 #[(.int .i64 rows)] w1 (Ret fun v w2 => ∃ (x13 : Bool), v = (.bool x13) ∧
  ((!x13) = true →
  (((∃ u, w2.cell? (⟨w.heap.size, 0, none⟩ : Addr) = some u) ∧ w2.frozen? (⟨w.heap.size, 0, none⟩ : Addr) = false) ∧ ((∃ u, w2.cell? (⟨w.heap.size, 1, none⟩ : Addr) = some u) ∧ w2.frozen? (⟨w.heap.size, 1, none⟩ : Addr) = false) ∧ ((∃ u, w2.cell? (⟨w.heap.size, 2, none⟩ : Addr) = some u) ∧ w2.frozen? (⟨w.heap.size, 2, none⟩ : Addr) = false)) ∧ ∀ w3 : World, w3 = (((w2.setCell (⟨w.heap.size, 0, none⟩ : Addr) (.int .i64 0)).setCell (⟨w.heap.size, 1, none⟩ : Addr) (.int .i64 0)).setCell (⟨w.heap.size, 2, none⟩ : Addr) (.slice none 0 0)) →
  ∃ (r00 : Int), ∃ (r01 : Int), ∃ (r02A : Option Addr), ∃ (r02N : Nat), ∃ (r02C : Nat), (w3.cell? (⟨w.heap.size, 0, none⟩ : Addr) = some (.int .i64 r00) ∧ w3.cell? (⟨w.heap.size, 1, none⟩ : Addr) = some (.int .i64 r01) ∧ w3.cell? (⟨w.heap.size, 2, none⟩ : Addr) = some (.slice r02A r02N r02C)) ∧
  R (.tuple #[(.agg #[(.int .i64 r00), (.int .i64 r01), (.slice r02A r02N r02C)]), (.int .i64 1)]) w3) ∧
  ((!x13) = false →
  Calls Tryd.prog 46 #[(.int .i64 cols)] w2 (Ret fun v_1 w4 => ∃ (x17 : Bool), v_1 = (.bool x17) ∧
  ((!x17) = true →
  (((∃ u, w4.cell? (⟨w.heap.size, 0, none⟩ : Addr) = some u) ∧ w4.frozen? (⟨w.heap.size, 0, none⟩ : Addr) = false) ∧ ((∃ u, w4.cell? (⟨w.heap.size, 1, none⟩ : Addr) = some u) ∧ w4.frozen? (⟨w.heap.size, 1, none⟩ : Addr) = false) ∧ ((∃ u, w4.cell? (⟨w.heap.size, 2, none⟩ : Addr) = some u) ∧ w4.frozen? (⟨w.heap.size, 2, none⟩ : Addr) = false)) ∧ ∀ w5 : World, w5 = (((w4.setCell (⟨w.heap.size, 0, none⟩ : Addr) (.int .i64 0)).setCell (⟨w.heap.size, 1, none⟩ : Addr) (.int .i64 0)).setCell (⟨w.heap.size, 2, none⟩ : Addr) (.slice none 0 0)) →
  ∃ (r00_1 : Int), ∃ (r01_1 : Int), ∃ (r02A_1 : Option Addr), ∃ (r02N_1 : Nat), ∃ (r02C_1 : Nat), (w5.cell? (⟨w.heap.size, 0, none⟩ : Addr) = some (.int .i64 r00_1) ∧ w5.cell? (⟨w.heap.size, 1, none⟩ : Addr) = some (.int .i64 r01_1) ∧ w5.cell? (⟨w.heap.size, 2, none⟩ : Addr) = some (.slice r02A_1 r02N_1 r02C_1)) ∧
  R (.tuple #[(.agg #[(.int .i64 r00_1), (.int .i64 r01_1), (.slice r02A_1 r02N_1 r02C_1)]), (.int .i64 1)]) w5) ∧
  ((!x17) = false →
  ((((s.size : Nat) : Int) != (IntKind.i64.wrap (rows * cols))) = true →
  (((∃ u, w4.cell? (⟨w.heap.size, 0, none⟩ : Addr) = some u) ∧ w4.frozen? (⟨w.heap.size, 0, none⟩ : Addr) = false) ∧ ((∃ u, w4.cell? (⟨w.heap.size, 1, none⟩ : Addr) = some u) ∧ w4.frozen? (⟨w.heap.size, 1, none⟩ : Addr) = false) ∧ ((∃ u, w4.cell? (⟨w.heap.size, 2, none⟩ : Addr) = some u) ∧ w4.frozen? (⟨w.heap.size, 2, none⟩ : Addr) = false)) ∧ ∀ w6 : World, w6 = (((w4.setCell (⟨w.heap.size, 0, none⟩ : Addr) (.int .i64 0)).setCell (⟨w.heap.size, 1, none⟩ : Addr) (.int .i64 0)).setCell (⟨w.heap.size, 2, none⟩ : Addr) (.slice none 0 0)) →
  ∃ (r00_2 : Int), ∃ (r01_2 : Int), ∃ (r02A_2 : Option Addr), ∃ (r02N_2 : Nat), ∃ (r02C_2 : Nat), (w6.cell? (⟨w.heap.size, 0, none⟩ : Addr) = some (.int .i64 r00_2) ∧ w6.cell? (⟨w.heap.size, 1, none⟩ : Addr) = some (.int .i64 r01_2) ∧ w6.cell? (⟨w.heap.size, 2, none⟩ : Addr) = some (.slice r02A_2 r02N_2 r02C_2)) ∧
  R (.tuple #[(.agg #[(.int .i64 r00_2), (.int .i64 r01_2), (.slice r02A_2 r02N_2 r02C_2)]), (.int .i64 5)]) w6) ∧
  ((((s.size : Nat) : Int) != (IntKind.i64.wrap (rows * cols))) = false →
  ∀ w7 : World, w7 = w4.alloc (.cells #[(.int .i64 0), (.int .i64 0), (.slice none 0 0)] 67 (0, 0)) →
  (((∃ u, w7.cell? (⟨w4.heap.size, 0, none⟩ : Addr) = some u) ∧ w7.frozen? (⟨w4.heap.size, 0, none⟩ : Addr) = false) ∧ ((∃ u, w7.cell? (⟨w4.heap.size, 1, none⟩ : Addr) = some u) ∧ w7.frozen? (⟨w4.heap.size, 1, none⟩ : Addr) = false) ∧ ((∃ u, w7.cell? (⟨w4.heap.size, 2, none⟩ : Addr) = some u) ∧ w7.frozen? (⟨w4.heap.size, 2, none⟩ : Addr) = false)) ∧ ∀ w8 : World, w8 = (((w7.setCell (⟨w4.heap.size, 0, none⟩ : Addr) (.int .i64 rows)).setCell (⟨w4.heap.size, 1, none⟩ : Addr) (.int .i64 cols)).setCell (⟨w4.heap.size, 2, none⟩ : Addr) (.slice none 0 0)) →
  ∃ (x33A : Option Addr), ∃ (x33N : Nat), ∃ (x33C : Nat), ∃ w9 : World, (convert 9 51 (.string s)).run Tryd.prog w8 = .ok (.slice x33A x33N x33C) w9 ∧
  ∃ vI : Int → Nat → World → Prop, (∃ vk_2 : Nat, vI 0 vk_2 w9) ∧
  ∀ (jk : Nat → Value) (x35 : Int), ∀ (vk : Nat) (w10 : World), vI x35 vk w10 →
  (decide (x35 < ((x33N : Nat) : Int)) = true →
  (0 ≤ x35 ∧ x35 < ((x33N : Nat) : Int)) ∧ someV x33A fun p =>
  ∃ (x38 : Int), w10.cell? (p.add (x35.toNat * 1)) = some (.int .u8 x38) ∧
  ∃ (x40A : Option Addr), ∃ (x40N : Nat), ∃ (x40C : Nat), w10.cell? (⟨w4.heap.size, 2, none⟩ : Addr) = some (.slice x40A x40N x40C) ∧
  ∀ w11 : World, w11 = w10.alloc (.cells #[(.int .i8 (IntKind.i8.wrap x38))] 72 (0, 0)) →
  ∃ (x44A : Option Addr), ∃ (x44N : Nat), ∃ (x44C : Nat), ∃ w12 : World, (Builtin.append_ #[65, 65] 65 #[(.slice x40A x40N x40C), (.slice (some (⟨w10.heap.size, 0, none⟩ : Addr)) 1 1)]).run Tryd.prog w11 = .ok (.slice x44A x44N x44C) w12 ∧
  (((∃ u, w12.cell? (⟨w4.heap.size, 2, none⟩ : Addr) = some u) ∧ w12.frozen? (⟨w4.heap.size, 2, none⟩ : Addr) = false)) ∧ ∀ w13 : World, w13 = (w12.setCell (⟨w4.heap.size, 2, none⟩ : Addr) (.slice x44A x44N x44C)) →
  ∃ vk_1 : Nat, vk_1 < vk ∧ vI (IntKind.i64.wrap (x35 + 1)) vk_1 w13) ∧
  (decide (x35 < ((x33N : Nat) : Int)) = false →
  ∃ (x470 : Int), ∃ (x471 : Int), ∃ (x472A : Option Addr), ∃ (x472N : Nat), ∃ (x472C : Nat), (w10.cell? (⟨w4.heap.size, 0, none⟩ : Addr) = some (.int .i64 x470) ∧ w10.cell? (⟨w4.heap.size, 1, none⟩ : Addr) = some (.int .i64 x471) ∧ w10.cell? (⟨w4.heap.size, 2, none⟩ : Addr) = some (.slice x472A x472N x472C)) ∧
  (((∃ u, w10.cell? (⟨w.heap.size, 0, none⟩ : Addr) = some u) ∧ w10.frozen? (⟨w.heap.size, 0, none⟩ : Addr) = false) ∧ ((∃ u, w10.cell? (⟨w.heap.size, 1, none⟩ : Addr) = some u) ∧ w10.frozen? (⟨w.heap.size, 1, none⟩ : Addr) = false) ∧ ((∃ u, w10.cell? (⟨w.heap.size, 2, none⟩ : Addr) = some u) ∧ w10.frozen? (⟨w.heap.size, 2, none⟩ : Addr) = false)) ∧ ∀ w14 : World, w14 = (((w10.setCell (⟨w.heap.size, 0, none⟩ : Addr) (.int .i64 x470)).setCell (⟨w.heap.size, 1, none⟩ : Addr) (.int .i64 x471)).setCell (⟨w.heap.size, 2, none⟩ : Addr) (.slice x472A x472N x472C)) →
  ∃ (r00_3 : Int), ∃ (r01_3 : Int), ∃ (r02A_3 : Option Addr), ∃ (r02N_3 : Nat), ∃ (r02C_3 : Nat), (w14.cell? (⟨w.heap.size, 0, none⟩ : Addr) = some (.int .i64 r00_3) ∧ w14.cell? (⟨w.heap.size, 1, none⟩ : Addr) = some (.int .i64 r01_3) ∧ w14.cell? (⟨w.heap.size, 2, none⟩ : Addr) = some (.slice r02A_3 r02N_3 r02C_3)) ∧
  R (.tuple #[(.agg #[(.int .i64 r00_3), (.int .i64 r01_3), (.slice r02A_3 r02N_3 r02C_3)]), (.int .i64 0)]) w14))))))
theorem vecs_Of.vc_eq (rows : Int) (cols : Int) (s : ByteArray) (w : World) (R : Value → World → Prop) : fnV Tryd.prog Tryd.f38 (.at_ 1 3 (.k .nil) (.c .nil (.c .nil (.lp [(10, none), (35, some (.int .i64)), (36, none), (37, none), (38, none), (39, none), (40, none), (41, none), (42, none), (43, none), (44, none), (45, none), (46, none)] (.c .nil .nil))))) [(.int .i64 rows), (.int .i64 cols), (.string s)] w R = vecs_Of.vc rows cols s w R := by kernel_rfl
theorem vecs_Of.calls (rows : Int) (cols : Int) (s : ByteArray) {w : World} {R : Value → World → Prop} (h : vecs_Of.vc rows cols s w R) : Calls Tryd.prog 38 #[(.int .i64 rows), (.int .i64 cols), (.string s)] w (Ret R) :=
  calls_V fit Tryd.func38 (.at_ 1 3 (.k .nil) (.c .nil (.c .nil (.lp [(10, none), (35, some (.int .i64)), (36, none), (37, none), (38, none), (39, none), (40, none), (41, none), (42, none), (43, none), (44, none), (45, none), (46, none)] (.c .nil .nil))))) (by rw [show (#[(.int .i64 rows), (.int .i64 cols), (.string s)] : Array Value).toList = [(.int .i64 rows), (.int .i64 cols), (.string s)] from rfl, vecs_Of.vc_eq]; exact h)
end Go.Proofs.YtbadkcnemcnhfaaDoor.Vc
