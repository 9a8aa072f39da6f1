import Derived.Test.YtfhnegfoglngoaaVc
import Derived.Test.YtfhnegfoglngoaaH
import Derived.Test.YtfhnegfoglngoaaProg
import Derived.KernelRfl
set_option linter.unusedVariables false
set_option maxRecDepth 100000
namespace Go.Proofs.Ytfhnegfoglngoaa.Vc
open Go Go.Proofs Go.Proofs.Ytfhnegfoglngoaa.V
/-- function 90 -/
def vecs_isSide.vc (n : Int) (w : World) (R : Value → World → Prop) : Prop :=
  (decide (n ≥ (1 : Int)) = true →
  R (.bool (decide (n ≤ (64 : Int)))) w) ∧
  (decide (n ≥ (1 : Int)) = false →
  R (.bool false) w)
theorem vecs_isSide.vc_eq (n : Int) (w : World) (R : Value → World → Prop) : fnV Try.prog Try.f90 (.at_ 1 2 .nil .nil) [(.int .i64 n)] w R = vecs_isSide.vc n w R := by kernel_rfl
theorem vecs_isSide.calls (n : Int) {w : World} {R : Value → World → Prop} (h : vecs_isSide.vc n w R) : Calls Try.prog 90 #[(.int .i64 n)] w (Ret R) :=
  calls_V fit Try.func90 (.at_ 1 2 .nil .nil) (by rw [show (#[(.int .i64 n)] : Array Value).toList = [(.int .i64 n)] from rfl, vecs_isSide.vc_eq]; exact h)
/-- function 78 -/
def vecs_Good.vc (t0 : Int) (t1 : Int) (t2A : Option Addr) (t2N : Nat) (t2C : Nat) (w : World) (R : Value → World → Prop) : Prop :=
  ∀ w1 : World, w1 = w.alloc (.cells #[(.int .i64 t0), (.int .i64 t1), (.slice t2A t2N t2C)] 83 (0, 0)) →
  ∃ (x4 : Int), w1.cell? (⟨w.heap.size, 0, none⟩ : Addr) = some (.int .i64 x4) ∧
  Calls Try.prog 90 #[(.int .i64 x4)] w1 (Ret fun v w2 => ∃ (x5 : Bool), v = (.bool x5) ∧
  (x5 = true →
  ∃ (x8 : Int), w2.cell? (⟨w.heap.size, 1, none⟩ : Addr) = some (.int .i64 x8) ∧
  Calls Try.prog 90 #[(.int .i64 x8)] w2 (Ret fun v_1 w3 => ∃ (x9 : Bool), v_1 = (.bool x9) ∧
  (x9 = true →
  ∃ (x13A : Option Addr), ∃ (x13N : Nat), ∃ (x13C : Nat), w3.cell? (⟨w.heap.size, 2, none⟩ : Addr) = some (.slice x13A x13N x13C) ∧
  ∃ (x16 : Int), w3.cell? (⟨w.heap.size, 0, none⟩ : Addr) = some (.int .i64 x16) ∧
  ∃ (x18 : Int), w3.cell? (⟨w.heap.size, 1, none⟩ : Addr) = some (.int .i64 x18) ∧
  R (.bool (((x13N : Nat) : Int) == (IntKind.i64.wrap (x16 * x18)))) w3) ∧
  (x9 = false →
  R (.bool false) w3))) ∧
  (x5 = false →
  R (.bool false) w2))
theorem vecs_Good.vc_eq (t0 : Int) (t1 : Int) (t2A : Option Addr) (t2N : Nat) (t2C : Nat) (w : World) (R : Value → World → Prop) : fnV Try.prog Try.f78 (.at_ 1 3 (.at_ 1 8 .nil .nil) .nil) [(.agg #[(.int .i64 t0), (.int .i64 t1), (.slice t2A t2N t2C)])] w R = vecs_Good.vc t0 t1 t2A t2N t2C w R := by kernel_rfl
theorem vecs_Good.calls (t0 : Int) (t1 : Int) (t2A : Option Addr) (t2N : Nat) (t2C : Nat) {w : World} {R : Value → World → Prop} (h : vecs_Good.vc t0 t1 t2A t2N t2C w R) : Calls Try.prog 78 #[(.agg #[(.int .i64 t0), (.int .i64 t1), (.slice t2A t2N t2C)])] w (Ret R) :=
  calls_V fit Try.func78 (.at_ 1 3 (.at_ 1 8 .nil .nil) .nil) (by rw [show (#[(.agg #[(.int .i64 t0), (.int .i64 t1), (.slice t2A t2N t2C)])] : Array Value).toList = [(.agg #[(.int .i64 t0), (.int .i64 t1), (.slice t2A t2N t2C)])] from rfl, vecs_Good.vc_eq]; exact h)
/-- function 77 -/
def vecs_Of.vc (rows : Int) (cols : Int) (s : ByteArray) (w : World) (R : Value → World → Prop) : Prop :=
  ∀ w1 : World, w1 = w.alloc (.cells #[(.int .i64 0), (.int .i64 0), (.slice none 0 0)] 83 (0, 0)) →
  Calls Try.prog 90 #[(.int .i64 rows)] w1 (Ret fun v w2 => ∃ (x13 : Bool), v = (.bool x13) ∧
  ((!x13) = true →
  (((∃ u, w2.cell? (⟨w.heap.size, 0, none⟩ : Addr) = some u) ∧ w2.frozen? (⟨w.heap.size, 0, none⟩ : Addr) = false) ∧ ((∃ u, w2.cell? (⟨w.heap.size, 1, none⟩ : Addr) = some u) ∧ w2.frozen? (⟨w.heap.size, 1, none⟩ : Addr) = false) ∧ ((∃ u, w2.cell? (⟨w.heap.size, 2, none⟩ : Addr) = some u) ∧ w2.frozen? (⟨w.heap.size, 2, none⟩ : Addr) = false)) ∧ ∀ w3 : World, w3 = (((w2.setCell (⟨w.heap.size, 0, none⟩ : Addr) (.int .i64 0)).setCell (⟨w.heap.size, 1, none⟩ : Addr) (.int .i64 0)).setCell (⟨w.heap.size, 2, none⟩ : Addr) (.slice none 0 0)) →
  ∃ (r00 : Int), ∃ (r01 : Int), ∃ (r02A : Option Addr), ∃ (r02N : Nat), ∃ (r02C : Nat), (w3.cell? (⟨w.heap.size, 0, none⟩ : Addr) = some (.int .i64 r00) ∧ w3.cell? (⟨w.heap.size, 1, none⟩ : Addr) = some (.int .i64 r01) ∧ w3.cell? (⟨w.heap.size, 2, none⟩ : Addr) = some (.slice r02A r02N r02C)) ∧
  R (.tuple #[(.agg #[(.int .i64 r00), (.int .i64 r01), (.slice r02A r02N r02C)]), (.int .i64 1)]) w3) ∧
  ((!x13) = false →
  Calls Try.prog 90 #[(.int .i64 cols)] w2 (Ret fun v_1 w4 => ∃ (x17 : Bool), v_1 = (.bool x17) ∧
  ((!x17) = true →
  (((∃ u, w4.cell? (⟨w.heap.size, 0, none⟩ : Addr) = some u) ∧ w4.frozen? (⟨w.heap.size, 0, none⟩ : Addr) = false) ∧ ((∃ u, w4.cell? (⟨w.heap.size, 1, none⟩ : Addr) = some u) ∧ w4.frozen? (⟨w.heap.size, 1, none⟩ : Addr) = false) ∧ ((∃ u, w4.cell? (⟨w.heap.size, 2, none⟩ : Addr) = some u) ∧ w4.frozen? (⟨w.heap.size, 2, none⟩ : Addr) = false)) ∧ ∀ w5 : World, w5 = (((w4.setCell (⟨w.heap.size, 0, none⟩ : Addr) (.int .i64 0)).setCell (⟨w.heap.size, 1, none⟩ : Addr) (.int .i64 0)).setCell (⟨w.heap.size, 2, none⟩ : Addr) (.slice none 0 0)) →
  ∃ (r00_1 : Int), ∃ (r01_1 : Int), ∃ (r02A_1 : Option Addr), ∃ (r02N_1 : Nat), ∃ (r02C_1 : Nat), (w5.cell? (⟨w.heap.size, 0, none⟩ : Addr) = some (.int .i64 r00_1) ∧ w5.cell? (⟨w.heap.size, 1, none⟩ : Addr) = some (.int .i64 r01_1) ∧ w5.cell? (⟨w.heap.size, 2, none⟩ : Addr) = some (.slice r02A_1 r02N_1 r02C_1)) ∧
  R (.tuple #[(.agg #[(.int .i64 r00_1), (.int .i64 r01_1), (.slice r02A_1 r02N_1 r02C_1)]), (.int .i64 1)]) w5) ∧
  ((!x17) = false →
  ((((s.size : Nat) : Int) != (IntKind.i64.wrap (rows * cols))) = true →
  (((∃ u, w4.cell? (⟨w.heap.size, 0, none⟩ : Addr) = some u) ∧ w4.frozen? (⟨w.heap.size, 0, none⟩ : Addr) = false) ∧ ((∃ u, w4.cell? (⟨w.heap.size, 1, none⟩ : Addr) = some u) ∧ w4.frozen? (⟨w.heap.size, 1, none⟩ : Addr) = false) ∧ ((∃ u, w4.cell? (⟨w.heap.size, 2, none⟩ : Addr) = some u) ∧ w4.frozen? (⟨w.heap.size, 2, none⟩ : Addr) = false)) ∧ ∀ w6 : World, w6 = (((w4.setCell (⟨w.heap.size, 0, none⟩ : Addr) (.int .i64 0)).setCell (⟨w.heap.size, 1, none⟩ : Addr) (.int .i64 0)).setCell (⟨w.heap.size, 2, none⟩ : Addr) (.slice none 0 0)) →
  ∃ (r00_2 : Int), ∃ (r01_2 : Int), ∃ (r02A_2 : Option Addr), ∃ (r02N_2 : Nat), ∃ (r02C_2 : Nat), (w6.cell? (⟨w.heap.size, 0, none⟩ : Addr) = some (.int .i64 r00_2) ∧ w6.cell? (⟨w.heap.size, 1, none⟩ : Addr) = some (.int .i64 r01_2) ∧ w6.cell? (⟨w.heap.size, 2, none⟩ : Addr) = some (.slice r02A_2 r02N_2 r02C_2)) ∧
  R (.tuple #[(.agg #[(.int .i64 r00_2), (.int .i64 r01_2), (.slice r02A_2 r02N_2 r02C_2)]), (.int .i64 5)]) w6) ∧
  ((((s.size : Nat) : Int) != (IntKind.i64.wrap (rows * cols))) = false →
  ∀ w7 : World, w7 = w4.alloc (.cells #[(.int .i64 0), (.int .i64 0), (.slice none 0 0)] 83 (0, 0)) →
  (((∃ u, w7.cell? (⟨w4.heap.size, 0, none⟩ : Addr) = some u) ∧ w7.frozen? (⟨w4.heap.size, 0, none⟩ : Addr) = false) ∧ ((∃ u, w7.cell? (⟨w4.heap.size, 1, none⟩ : Addr) = some u) ∧ w7.frozen? (⟨w4.heap.size, 1, none⟩ : Addr) = false) ∧ ((∃ u, w7.cell? (⟨w4.heap.size, 2, none⟩ : Addr) = some u) ∧ w7.frozen? (⟨w4.heap.size, 2, none⟩ : Addr) = false)) ∧ ∀ w8 : World, w8 = (((w7.setCell (⟨w4.heap.size, 0, none⟩ : Addr) (.int .i64 rows)).setCell (⟨w4.heap.size, 1, none⟩ : Addr) (.int .i64 cols)).setCell (⟨w4.heap.size, 2, none⟩ : Addr) (.slice none 0 0)) →
  ∃ (x33A : Option Addr), ∃ (x33N : Nat), ∃ (x33C : Nat), ∃ w9 : World, (convert 9 43 (.string s)).run Try.prog w8 = .ok (.slice x33A x33N x33C) w9 ∧
  ∃ vI : Int → Nat → World → Prop, (∃ vk_2 : Nat, vI 0 vk_2 w9) ∧
  ∀ (jk : Nat → Value) (x35 : Int), ∀ (vk : Nat) (w10 : World), vI x35 vk w10 →
  (decide (x35 < ((x33N : Nat) : Int)) = true →
  (0 ≤ x35 ∧ x35 < ((x33N : Nat) : Int)) ∧ someV x33A fun p =>
  ∃ (x38 : Int), w10.cell? (p.add (x35.toNat * 1)) = some (.int .u8 x38) ∧
  ∃ (x40A : Option Addr), ∃ (x40N : Nat), ∃ (x40C : Nat), w10.cell? (⟨w4.heap.size, 2, none⟩ : Addr) = some (.slice x40A x40N x40C) ∧
  ∀ w11 : World, w11 = w10.alloc (.cells #[(.int .i8 (IntKind.i8.wrap x38))] 103 (0, 0)) →
  ∃ (x44A : Option Addr), ∃ (x44N : Nat), ∃ (x44C : Nat), ∃ w12 : World, (Builtin.append_ #[81, 81] 81 #[(.slice x40A x40N x40C), (.slice (some (⟨w10.heap.size, 0, none⟩ : Addr)) 1 1)]).run Try.prog w11 = .ok (.slice x44A x44N x44C) w12 ∧
  (((∃ u, w12.cell? (⟨w4.heap.size, 2, none⟩ : Addr) = some u) ∧ w12.frozen? (⟨w4.heap.size, 2, none⟩ : Addr) = false)) ∧ ∀ w13 : World, w13 = (w12.setCell (⟨w4.heap.size, 2, none⟩ : Addr) (.slice x44A x44N x44C)) →
  ∃ vk_1 : Nat, vk_1 < vk ∧ vI (IntKind.i64.wrap (x35 + 1)) vk_1 w13) ∧
  (decide (x35 < ((x33N : Nat) : Int)) = false →
  ∃ (x470 : Int), ∃ (x471 : Int), ∃ (x472A : Option Addr), ∃ (x472N : Nat), ∃ (x472C : Nat), (w10.cell? (⟨w4.heap.size, 0, none⟩ : Addr) = some (.int .i64 x470) ∧ w10.cell? (⟨w4.heap.size, 1, none⟩ : Addr) = some (.int .i64 x471) ∧ w10.cell? (⟨w4.heap.size, 2, none⟩ : Addr) = some (.slice x472A x472N x472C)) ∧
  (((∃ u, w10.cell? (⟨w.heap.size, 0, none⟩ : Addr) = some u) ∧ w10.frozen? (⟨w.heap.size, 0, none⟩ : Addr) = false) ∧ ((∃ u, w10.cell? (⟨w.heap.size, 1, none⟩ : Addr) = some u) ∧ w10.frozen? (⟨w.heap.size, 1, none⟩ : Addr) = false) ∧ ((∃ u, w10.cell? (⟨w.heap.size, 2, none⟩ : Addr) = some u) ∧ w10.frozen? (⟨w.heap.size, 2, none⟩ : Addr) = false)) ∧ ∀ w14 : World, w14 = (((w10.setCell (⟨w.heap.size, 0, none⟩ : Addr) (.int .i64 x470)).setCell (⟨w.heap.size, 1, none⟩ : Addr) (.int .i64 x471)).setCell (⟨w.heap.size, 2, none⟩ : Addr) (.slice x472A x472N x472C)) →
  ∃ (r00_3 : Int), ∃ (r01_3 : Int), ∃ (r02A_3 : Option Addr), ∃ (r02N_3 : Nat), ∃ (r02C_3 : Nat), (w14.cell? (⟨w.heap.size, 0, none⟩ : Addr) = some (.int .i64 r00_3) ∧ w14.cell? (⟨w.heap.size, 1, none⟩ : Addr) = some (.int .i64 r01_3) ∧ w14.cell? (⟨w.heap.size, 2, none⟩ : Addr) = some (.slice r02A_3 r02N_3 r02C_3)) ∧
  R (.tuple #[(.agg #[(.int .i64 r00_3), (.int .i64 r01_3), (.slice r02A_3 r02N_3 r02C_3)]), (.int .i64 0)]) w14))))))
theorem vecs_Of.vc_eq (rows : Int) (cols : Int) (s : ByteArray) (w : World) (R : Value → World → Prop) : fnV Try.prog Try.f77 (.at_ 1 3 (.k .nil) (.c .nil (.c .nil (.lp [(10, none), (35, some (.int .i64)), (36, none), (37, none), (38, none), (39, none), (40, none), (41, none), (42, none), (43, none), (44, none), (45, none), (46, none)] (.c .nil .nil))))) [(.int .i64 rows), (.int .i64 cols), (.string s)] w R = vecs_Of.vc rows cols s w R := by kernel_rfl
theorem vecs_Of.calls (rows : Int) (cols : Int) (s : ByteArray) {w : World} {R : Value → World → Prop} (h : vecs_Of.vc rows cols s w R) : Calls Try.prog 77 #[(.int .i64 rows), (.int .i64 cols), (.string s)] w (Ret R) :=
  calls_V fit Try.func77 (.at_ 1 3 (.k .nil) (.c .nil (.c .nil (.lp [(10, none), (35, some (.int .i64)), (36, none), (37, none), (38, none), (39, none), (40, none), (41, none), (42, none), (43, none), (44, none), (45, none), (46, none)] (.c .nil .nil))))) (by rw [show (#[(.int .i64 rows), (.int .i64 cols), (.string s)] : Array Value).toList = [(.int .i64 rows), (.int .i64 cols), (.string s)] from rfl, vecs_Of.vc_eq]; exact h)
/-- function 55 -/
def vecs_Table_Row.vc (t0 : Int) (t1 : Int) (t2A : Option Addr) (t2N : Nat) (t2C : Nat) (vat : Int) (w : World) (R : Value → World → Prop) : Prop :=
  ∀ w1 : World, w1 = w.alloc (.cells #[(.int .i64 t0), (.int .i64 t1), (.slice t2A t2N t2C)] 83 (0, 0)) →
  ∃ (x80 : Int), ∃ (x81 : Int), ∃ (x82A : Option Addr), ∃ (x82N : Nat), ∃ (x82C : Nat), (w1.cell? (⟨w.heap.size, 0, none⟩ : Addr) = some (.int .i64 x80) ∧ w1.cell? (⟨w.heap.size, 1, none⟩ : Addr) = some (.int .i64 x81) ∧ w1.cell? (⟨w.heap.size, 2, none⟩ : Addr) = some (.slice x82A x82N x82C)) ∧
  Calls Try.prog 78 #[(.agg #[(.int .i64 x80), (.int .i64 x81), (.slice x82A x82N x82C)])] w1 (Ret fun v w2 => ∃ (x9 : Bool), v = (.bool x9) ∧
  ((!x9) = true →
  R (.slice none 0 0) w2) ∧
  ((!x9) = false →
  (decide (vat < (0 : Int)) = true →
  R (.slice none 0 0) w2) ∧
  (decide (vat < (0 : Int)) = false →
  ∃ (x18 : Int), w2.cell? (⟨w.heap.size, 0, none⟩ : Addr) = some (.int .i64 x18) ∧
  (decide (vat ≥ x18) = true →
  R (.slice none 0 0) w2) ∧
  (decide (vat ≥ x18) = false →
  ∃ (x22A : Option Addr), ∃ (x22N : Nat), ∃ (x22C : Nat), w2.cell? (⟨w.heap.size, 2, none⟩ : Addr) = some (.slice x22A x22N x22C) ∧
  ∃ (x25 : Int), w2.cell? (⟨w.heap.size, 1, none⟩ : Addr) = some (.int .i64 x25) ∧
  ∃ (x30 : Int), w2.cell? (⟨w.heap.size, 1, none⟩ : Addr) = some (.int .i64 x30) ∧
  (0 ≤ (IntKind.i64.wrap (vat * x25)) ∧ (IntKind.i64.wrap (vat * x25)) ≤ (IntKind.i64.wrap ((IntKind.i64.wrap (vat + 1)) * x30)) ∧ (IntKind.i64.wrap ((IntKind.i64.wrap (vat + 1)) * x30)) ≤ ((x22C : Nat) : Int)) ∧
  ∃ vI : Option Addr → Nat → Nat → Int → Nat → World → Prop, (∃ vk_2 : Nat, vI none 0 0 0 vk_2 w2) ∧
  ∀ (jk : Nat → Value) (outA : Option Addr) (outN : Nat) (outC : Nat) (x34 : Int), ∀ (vk : Nat) (w3 : World), vI outA outN outC x34 vk w3 →
  (decide (x34 < ((((IntKind.i64.wrap ((IntKind.i64.wrap (vat + 1)) * x30)).toNat - (IntKind.i64.wrap (vat * x25)).toNat) : Nat) : Int)) = true →
  (0 ≤ x34 ∧ x34 < ((((IntKind.i64.wrap ((IntKind.i64.wrap (vat + 1)) * x30)).toNat - (IntKind.i64.wrap (vat * x25)).toNat) : Nat) : Int)) ∧ someV (if x22C = (IntKind.i64.wrap (vat * x25)).toNat then x22A else x22A.map (·.add ((IntKind.i64.wrap (vat * x25)).toNat * 1))) fun p =>
  ∃ (x37 : Int), w3.cell? (p.add (x34.toNat * 1)) = some (.int .i8 x37) ∧
  ∀ w4 : World, w4 = w3.alloc (.cells #[(.int .i64 (IntKind.i64.wrap x37))] 3 (0, 0)) →
  ∃ (x42A : Option Addr), ∃ (x42N : Nat), ∃ (x42C : Nat), ∃ w5 : World, (Builtin.append_ #[24, 24] 24 #[(.slice outA outN outC), (.slice (some (⟨w3.heap.size, 0, none⟩ : Addr)) 1 1)]).run Try.prog w4 = .ok (.slice x42A x42N x42C) w5 ∧
  ∃ vk_1 : Nat, vk_1 < vk ∧ vI x42A x42N x42C (IntKind.i64.wrap (x34 + 1)) vk_1 w5) ∧
  (decide (x34 < ((((IntKind.i64.wrap ((IntKind.i64.wrap (vat + 1)) * x30)).toNat - (IntKind.i64.wrap (vat * x25)).toNat) : Nat) : Int)) = false →
  R (.slice outA outN outC) w3)))))
theorem vecs_Table_Row.vc_eq (t0 : Int) (t1 : Int) (t2A : Option Addr) (t2N : Nat) (t2C : Nat) (vat : Int) (w : World) (R : Value → World → Prop) : fnV Try.prog Try.f55 (.at_ 1 3 (.k .nil) (.at_ 1 7 (.k .nil) (.c .nil (.lp [(5, some (.slice)), (7, none), (34, some (.int .i64)), (35, none), (36, none), (37, none), (38, none), (39, none), (40, none), (41, none), (42, none), (43, none)] (.c .nil .nil))))) [(.agg #[(.int .i64 t0), (.int .i64 t1), (.slice t2A t2N t2C)]), (.int .i64 vat)] w R = vecs_Table_Row.vc t0 t1 t2A t2N t2C vat w R := by kernel_rfl
theorem vecs_Table_Row.calls (t0 : Int) (t1 : Int) (t2A : Option Addr) (t2N : Nat) (t2C : Nat) (vat : Int) {w : World} {R : Value → World → Prop} (h : vecs_Table_Row.vc t0 t1 t2A t2N t2C vat w R) : Calls Try.prog 55 #[(.agg #[(.int .i64 t0), (.int .i64 t1), (.slice t2A t2N t2C)]), (.int .i64 vat)] w (Ret R) :=
  calls_V fit Try.func55 (.at_ 1 3 (.k .nil) (.at_ 1 7 (.k .nil) (.c .nil (.lp [(5, some (.slice)), (7, none), (34, some (.int .i64)), (35, none), (36, none), (37, none), (38, none), (39, none), (40, none), (41, none), (42, none), (43, none)] (.c .nil .nil))))) (by rw [show (#[(.agg #[(.int .i64 t0), (.int .i64 t1), (.slice t2A t2N t2C)]), (.int .i64 vat)] : Array Value).toList = [(.agg #[(.int .i64 t0), (.int .i64 t1), (.slice t2A t2N t2C)]), (.int .i64 vat)] from rfl, vecs_Table_Row.vc_eq]; exact h)
/-- function 80 -/
def vecs_Table_Times.vc (t0 : Int) (t1 : Int) (t2A : Option Addr) (t2N : Nat) (t2C : Nat) (vA : Option Addr) (vN : Nat) (vC : Nat) (shift : Int) (w : World) (R : Value → World → Prop) : Prop :=
  ∀ w1 : World, w1 = w.alloc (.cells #[(.int .i64 t0), (.int .i64 t1), (.slice t2A t2N t2C)] 83 (0, 0)) →
  ∃ (x100 : Int), ∃ (x101 : Int), ∃ (x102A : Option Addr), ∃ (x102N : Nat), ∃ (x102C : Nat), (w1.cell? (⟨w.heap.size, 0, none⟩ : Addr) = some (.int .i64 x100) ∧ w1.cell? (⟨w.heap.size, 1, none⟩ : Addr) = some (.int .i64 x101) ∧ w1.cell? (⟨w.heap.size, 2, none⟩ : Addr) = some (.slice x102A x102N x102C)) ∧
  Calls Try.prog 78 #[(.agg #[(.int .i64 x100), (.int .i64 x101), (.slice x102A x102N x102C)])] w1 (Ret fun v w2 => ∃ (x11 : Bool), v = (.bool x11) ∧
  ((!x11) = true →
  R (.tuple #[(.slice none 0 0), (.int .i64 1)]) w2) ∧
  ((!x11) = false →
  ∃ (x17 : Int), w2.cell? (⟨w.heap.size, 1, none⟩ : Addr) = some (.int .i64 x17) ∧
  ((((vN : Nat) : Int) != x17) = true →
  R (.tuple #[(.slice none 0 0), (.int .i64 1)]) w2) ∧
  ((((vN : Nat) : Int) != x17) = false →
  ∃ (x21 : Int), w2.cell? (⟨w.heap.size, 0, none⟩ : Addr) = some (.int .i64 x21) ∧
  ∃ vI : Option Addr → Nat → Nat → Int → Nat → World → Prop, (∃ vk_2 : Nat, vI none 0 0 0 vk_2 w2) ∧
  ∀ (jk : Nat → Value) (outA : Option Addr) (outN : Nat) (outC : Nat) (x22 : Int), ∀ (vk : Nat) (w3 : World), vI outA outN outC x22 vk w3 →
  (decide (x22 < x21) = true →
  ∃ (x260 : Int), ∃ (x261 : Int), ∃ (x262A : Option Addr), ∃ (x262N : Nat), ∃ (x262C : Nat), (w3.cell? (⟨w.heap.size, 0, none⟩ : Addr) = some (.int .i64 x260) ∧ w3.cell? (⟨w.heap.size, 1, none⟩ : Addr) = some (.int .i64 x261) ∧ w3.cell? (⟨w.heap.size, 2, none⟩ : Addr) = some (.slice x262A x262N x262C)) ∧
  Calls Try.prog 55 #[(.agg #[(.int .i64 x260), (.int .i64 x261), (.slice x262A x262N x262C)]), (.int .i64 x22)] w3 (Ret fun v_1 w4 => ∃ (x28A : Option Addr), ∃ (x28N : Nat), ∃ (x28C : Nat), v_1 = (.slice x28A x28N x28C) ∧
  Calls Try.prog 64 #[(.slice x28A x28N x28C), (.slice vA vN vC)] w4 (Ret fun v_2 w5 => ∃ (x30 : Int), v_2 = (.int .i64 x30) ∧
  Calls Try.prog 63 #[(.int .i64 x30), (.int .i64 shift)] w5 (Ret fun v_3 w6 => ∃ (x32 : Int), v_3 = (.int .i64 x32) ∧
  Calls Try.prog 33 #[(.int .i64 x32)] w6 (Ret fun v_4 w7 => ∃ (x33 : Int), v_4 = (.int .i64 x33) ∧
  ∀ w8 : World, w8 = w7.alloc (.cells #[(.int .i64 x33)] 3 (0, 0)) →
  ∃ (x35A : Option Addr), ∃ (x35N : Nat), ∃ (x35C : Nat), ∃ w9 : World, (Builtin.append_ #[24, 24] 24 #[(.slice outA outN outC), (.slice (some (⟨w7.heap.size, 0, none⟩ : Addr)) 1 1)]).run Try.prog w8 = .ok (.slice x35A x35N x35C) w9 ∧
  ∃ vk_1 : Nat, vk_1 < vk ∧ vI x35A x35N x35C (IntKind.i64.wrap (x22 + 1)) vk_1 w9))))) ∧
  (decide (x22 < x21) = false →
  R (.tuple #[(.slice outA outN outC), (.int .i64 0)]) w3))))
theorem vecs_Table_Times.vc_eq (t0 : Int) (t1 : Int) (t2A : Option Addr) (t2N : Nat) (t2C : Nat) (vA : Option Addr) (vN : Nat) (vC : Nat) (shift : Int) (w : World) (R : Value → World → Prop) : fnV Try.prog Try.f80 (.at_ 1 3 (.k .nil) (.c .nil (.lp [(8, some (.slice)), (9, none), (22, some (.int .i64)), (23, none), (24, none), (25, none), (26, none), (27, none), (28, none), (29, none), (30, none), (31, none), (32, none), (33, none), (34, none), (35, none), (36, none)] (.c .nil .nil)))) [(.agg #[(.int .i64 t0), (.int .i64 t1), (.slice t2A t2N t2C)]), (.slice vA vN vC), (.int .i64 shift)] w R = vecs_Table_Times.vc t0 t1 t2A t2N t2C vA vN vC shift w R := by kernel_rfl
theorem vecs_Table_Times.calls (t0 : Int) (t1 : Int) (t2A : Option Addr) (t2N : Nat) (t2C : Nat) (vA : Option Addr) (vN : Nat) (vC : Nat) (shift : Int) {w : World} {R : Value → World → Prop} (h : vecs_Table_Times.vc t0 t1 t2A t2N t2C vA vN vC shift w R) : Calls Try.prog 80 #[(.agg #[(.int .i64 t0), (.int .i64 t1), (.slice t2A t2N t2C)]), (.slice vA vN vC), (.int .i64 shift)] w (Ret R) :=
  calls_V fit Try.func80 (.at_ 1 3 (.k .nil) (.c .nil (.lp [(8, some (.slice)), (9, none), (22, some (.int .i64)), (23, none), (24, none), (25, none), (26, none), (27, none), (28, none), (29, none), (30, none), (31, none), (32, none), (33, none), (34, none), (35, none), (36, none)] (.c .nil .nil)))) (by rw [show (#[(.agg #[(.int .i64 t0), (.int .i64 t1), (.slice t2A t2N t2C)]), (.slice vA vN vC), (.int .i64 shift)] : Array Value).toList = [(.agg #[(.int .i64 t0), (.int .i64 t1), (.slice t2A t2N t2C)]), (.slice vA vN vC), (.int .i64 shift)] from rfl, vecs_Table_Times.vc_eq]; exact h)
/-- function 82 -/
def vecs_Plus.vc (listA : Option Addr) (listN : Nat) (listC : Nat) (w : World) (R : Value → World → Prop) : Prop :=
  ((((listN : Nat) : Int) == (0 : Int)) = true →
  R (.tuple #[(.slice none 0 0), (.int .i64 0)]) w) ∧
  ((((listN : Nat) : Int) == (0 : Int)) = false →
  ∃ vI : Int → Nat → World → Prop, (∃ vk_2 : Nat, vI 0 vk_2 w) ∧
  ∀ (jk : Nat → Value) (x16 : Int), ∀ (vk : Nat) (w1 : World), vI x16 vk w1 →
  (decide (x16 < ((listN : Nat) : Int)) = true →
  (0 ≤ x16 ∧ x16 < ((listN : Nat) : Int)) ∧ someV listA fun p =>
  ∃ (x19A : Option Addr), ∃ (x19N : Nat), ∃ (x19C : Nat), w1.cell? (p.add (x16.toNat * 1)) = some (.slice x19A x19N x19C) ∧
  (0 ≤ (0 : Int) ∧ (0 : Int) < ((listN : Nat) : Int)) ∧ someV listA fun p_1 =>
  ∃ (x24A : Option Addr), ∃ (x24N : Nat), ∃ (x24C : Nat), w1.cell? p_1 = some (.slice x24A x24N x24C) ∧
  ((((x19N : Nat) : Int) != ((x24N : Nat) : Int)) = true →
  R (.tuple #[(.slice none 0 0), (.int .i64 1)]) w1) ∧
  ((((x19N : Nat) : Int) != ((x24N : Nat) : Int)) = false →
  ∃ vk_1 : Nat, vk_1 < vk ∧ vI (IntKind.i64.wrap (x16 + 1)) vk_1 w1)) ∧
  (decide (x16 < ((listN : Nat) : Int)) = false →
  (0 ≤ (0 : Int) ∧ (0 : Int) < ((listN : Nat) : Int)) ∧ someV listA fun p_2 =>
  ∃ (x30A : Option Addr), ∃ (x30N : Nat), ∃ (x30C : Nat), w1.cell? p_2 = some (.slice x30A x30N x30C) ∧
  ∃ vI_1 : Option Addr → Nat → Nat → Int → Nat → World → Prop, (∃ vk_5 : Nat, vI_1 none 0 0 0 vk_5 w1) ∧
  ∀ (jk : Nat → Value) (outA : Option Addr) (outN : Nat) (outC : Nat) (x32 : Int), ∀ (vk_3 : Nat) (w2 : World), vI_1 outA outN outC x32 vk_3 w2 →
  (decide (x32 < ((x30N : Nat) : Int)) = true →
  ∃ vI_2 : Option Addr → Nat → Nat → Int → Nat → World → Prop, (∃ vk_8 : Nat, vI_2 none 0 0 0 vk_8 w2) ∧
  ∀ (jk : Nat → Value) (columnA : Option Addr) (columnN : Nat) (columnC : Nat) (x37 : Int), ∀ (vk_6 : Nat) (w3 : World), vI_2 columnA columnN columnC x37 vk_6 w3 →
  (decide (x37 < ((listN : Nat) : Int)) = true →
  (0 ≤ x37 ∧ x37 < ((listN : Nat) : Int)) ∧ someV listA fun p_3 =>
  ∃ (x40A : Option Addr), ∃ (x40N : Nat), ∃ (x40C : Nat), w3.cell? (p_3.add (x37.toNat * 1)) = some (.slice x40A x40N x40C) ∧
  (0 ≤ x32 ∧ x32 < ((x40N : Nat) : Int)) ∧ someV x40A fun p_4 =>
  ∃ (x45 : Int), w3.cell? (p_4.add (x32.toNat * 1)) = some (.int .i64 x45) ∧
  ∀ w4 : World, w4 = w3.alloc (.cells #[(.int .i64 x45)] 3 (0, 0)) →
  ∃ (x47A : Option Addr), ∃ (x47N : Nat), ∃ (x47C : Nat), ∃ w5 : World, (Builtin.append_ #[24, 24] 24 #[(.slice columnA columnN columnC), (.slice (some (⟨w3.heap.size, 0, none⟩ : Addr)) 1 1)]).run Try.prog w4 = .ok (.slice x47A x47N x47C) w5 ∧
  ∃ vk_7 : Nat, vk_7 < vk_6 ∧ vI_2 x47A x47N x47C (IntKind.i64.wrap (x37 + 1)) vk_7 w5) ∧
  (decide (x37 < ((listN : Nat) : Int)) = false →
  Calls Try.prog 66 #[(.slice columnA columnN columnC)] w3 (Ret fun v w6 => ∃ (x51 : Int), v = (.int .i64 x51) ∧
  Calls Try.prog 33 #[(.int .i64 x51)] w6 (Ret fun v_1 w7 => ∃ (x52 : Int), v_1 = (.int .i64 x52) ∧
  ∀ w8 : World, w8 = w7.alloc (.cells #[(.int .i64 x52)] 3 (0, 0)) →
  ∃ (x54A : Option Addr), ∃ (x54N : Nat), ∃ (x54C : Nat), ∃ w9 : World, (Builtin.append_ #[24, 24] 24 #[(.slice outA outN outC), (.slice (some (⟨w7.heap.size, 0, none⟩ : Addr)) 1 1)]).run Try.prog w8 = .ok (.slice x54A x54N x54C) w9 ∧
  ∃ vk_4 : Nat, vk_4 < vk_3 ∧ vI_1 x54A x54N x54C (IntKind.i64.wrap (x32 + 1)) vk_4 w9)))) ∧
  (decide (x32 < ((x30N : Nat) : Int)) = false →
  R (.tuple #[(.slice outA outN outC), (.int .i64 0)]) w2)))
theorem vecs_Plus.vc_eq (listA : Option Addr) (listN : Nat) (listC : Nat) (w : World) (R : Value → World → Prop) : fnV Try.prog Try.f82 (.c .nil (.lp [(2, none), (3, none), (5, none), (16, some (.int .i64)), (17, none), (18, none), (19, none), (20, none), (21, none), (22, none), (23, none), (24, none), (25, none), (26, none), (27, none)] (.c (.c .nil .nil) (.lp [(6, some (.slice)), (7, none), (8, none), (10, none), (32, some (.int .i64)), (33, none), (34, none), (35, none), (36, none), (37, none), (38, none), (39, none), (40, none), (41, none), (42, none), (43, none), (44, none), (45, none), (46, none), (47, none), (48, none), (49, none), (50, none), (51, none), (52, none), (53, none), (54, none), (55, none)] (.c (.lp [(8, some (.slice)), (10, none), (37, some (.int .i64)), (38, none), (39, none), (40, none), (41, none), (42, none), (43, none), (44, none), (45, none), (46, none), (47, none), (48, none)] (.c .nil .nil)) .nil))))) [(.slice listA listN listC)] w R = vecs_Plus.vc listA listN listC w R := by kernel_rfl
theorem vecs_Plus.calls (listA : Option Addr) (listN : Nat) (listC : Nat) {w : World} {R : Value → World → Prop} (h : vecs_Plus.vc listA listN listC w R) : Calls Try.prog 82 #[(.slice listA listN listC)] w (Ret R) :=
  calls_V fit Try.func82 (.c .nil (.lp [(2, none), (3, none), (5, none), (16, some (.int .i64)), (17, none), (18, none), (19, none), (20, none), (21, none), (22, none), (23, none), (24, none), (25, none), (26, none), (27, none)] (.c (.c .nil .nil) (.lp [(6, some (.slice)), (7, none), (8, none), (10, none), (32, some (.int .i64)), (33, none), (34, none), (35, none), (36, none), (37, none), (38, none), (39, none), (40, none), (41, none), (42, none), (43, none), (44, none), (45, none), (46, none), (47, none), (48, none), (49, none), (50, none), (51, none), (52, none), (53, none), (54, none), (55, none)] (.c (.lp [(8, some (.slice)), (10, none), (37, some (.int .i64)), (38, none), (39, none), (40, none), (41, none), (42, none), (43, none), (44, none), (45, none), (46, none), (47, none), (48, none)] (.c .nil .nil)) .nil))))) (by rw [show (#[(.slice listA listN listC)] : Array Value).toList = [(.slice listA listN listC)] from rfl, vecs_Plus.vc_eq]; exact h)
end Go.Proofs.Ytfhnegfoglngoaa.Vc
