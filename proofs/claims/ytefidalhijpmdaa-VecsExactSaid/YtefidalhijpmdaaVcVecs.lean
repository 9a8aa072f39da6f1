import Derived.Test.YtefidalhijpmdaaVc
import Derived.Test.YtefidalhijpmdaaH
import Derived.Test.YtefidalhijpmdaaProg
import Derived.KernelRfl
set_option linter.unusedVariables false
set_option maxRecDepth 100000
namespace Go.Proofs.Ytefidalhijpmdaa.Vc
open Go Go.Proofs Go.Proofs.Ytefidalhijpmdaa.V
/-- function 65 -/
def vecs_isSide.vc (n : Int) (w : World) (R : Value → World → Prop) : Prop :=
  (decide (n ≥ (1 : Int)) = true →
  R (.bool (decide (n ≤ (64 : Int)))) w) ∧
  (decide (n ≥ (1 : Int)) = false →
  R (.bool false) w)
theorem vecs_isSide.vc_eq (n : Int) (w : World) (R : Value → World → Prop) : fnV Try.prog Try.f65 (.at_ 1 2 .nil .nil) [(.int .i64 n)] w R = vecs_isSide.vc n w R := by kernel_rfl
theorem vecs_isSide.calls (n : Int) {w : World} {R : Value → World → Prop} (h : vecs_isSide.vc n w R) : Calls Try.prog 65 #[(.int .i64 n)] w (Ret R) :=
  calls_V fit Try.func65 (.at_ 1 2 .nil .nil) (by rw [show (#[(.int .i64 n)] : Array Value).toList = [(.int .i64 n)] from rfl, vecs_isSide.vc_eq]; exact h)
/-- function 43 -/
def vecs_Good.vc (t0 : Int) (t1 : Int) (t2A : Option Addr) (t2N : Nat) (t2C : Nat) (w : World) (R : Value → World → Prop) : Prop :=
  ∀ w1 : World, w1 = w.alloc (.cells #[(.int .i64 t0), (.int .i64 t1), (.slice t2A t2N t2C)] 55 (0, 0)) →
  ∃ (x4 : Int), w1.cell? (⟨w.heap.size, 0, none⟩ : Addr) = some (.int .i64 x4) ∧
  Calls Try.prog 65 #[(.int .i64 x4)] w1 (Ret fun v w2 => ∃ (x5 : Bool), v = (.bool x5) ∧
  (x5 = true →
  ∃ (x8 : Int), w2.cell? (⟨w.heap.size, 1, none⟩ : Addr) = some (.int .i64 x8) ∧
  Calls Try.prog 65 #[(.int .i64 x8)] w2 (Ret fun v_1 w3 => ∃ (x9 : Bool), v_1 = (.bool x9) ∧
  (x9 = true →
  ∃ (x13A : Option Addr), ∃ (x13N : Nat), ∃ (x13C : Nat), w3.cell? (⟨w.heap.size, 2, none⟩ : Addr) = some (.slice x13A x13N x13C) ∧
  ∃ (x16 : Int), w3.cell? (⟨w.heap.size, 0, none⟩ : Addr) = some (.int .i64 x16) ∧
  ∃ (x18 : Int), w3.cell? (⟨w.heap.size, 1, none⟩ : Addr) = some (.int .i64 x18) ∧
  R (.bool (((x13N : Nat) : Int) == (IntKind.i64.wrap (x16 * x18)))) w3) ∧
  (x9 = false →
  R (.bool false) w3))) ∧
  (x5 = false →
  R (.bool false) w2))
theorem vecs_Good.vc_eq (t0 : Int) (t1 : Int) (t2A : Option Addr) (t2N : Nat) (t2C : Nat) (w : World) (R : Value → World → Prop) : fnV Try.prog Try.f43 (.at_ 1 3 (.at_ 1 8 .nil .nil) .nil) [(.agg #[(.int .i64 t0), (.int .i64 t1), (.slice t2A t2N t2C)])] w R = vecs_Good.vc t0 t1 t2A t2N t2C w R := by kernel_rfl
theorem vecs_Good.calls (t0 : Int) (t1 : Int) (t2A : Option Addr) (t2N : Nat) (t2C : Nat) {w : World} {R : Value → World → Prop} (h : vecs_Good.vc t0 t1 t2A t2N t2C w R) : Calls Try.prog 43 #[(.agg #[(.int .i64 t0), (.int .i64 t1), (.slice t2A t2N t2C)])] w (Ret R) :=
  calls_V fit Try.func43 (.at_ 1 3 (.at_ 1 8 .nil .nil) .nil) (by rw [show (#[(.agg #[(.int .i64 t0), (.int .i64 t1), (.slice t2A t2N t2C)])] : Array Value).toList = [(.agg #[(.int .i64 t0), (.int .i64 t1), (.slice t2A t2N t2C)])] from rfl, vecs_Good.vc_eq]; exact h)
/-- function 48 -/
def vecs_Bytes.vc (t0 : Int) (t1 : Int) (t2A : Option Addr) (t2N : Nat) (t2C : Nat) (w : World) (R : Value → World → Prop) : Prop :=
  ∀ w1 : World, w1 = w.alloc (.cells #[(.int .i64 t0), (.int .i64 t1), (.slice t2A t2N t2C)] 55 (0, 0)) →
  ∃ (x7A : Option Addr), ∃ (x7N : Nat), ∃ (x7C : Nat), w1.cell? (⟨w.heap.size, 2, none⟩ : Addr) = some (.slice x7A x7N x7C) ∧
  (((x7N : Nat) : Int) = ((x7N : Nat) : Int) ∧ 0 ≤ ((x7N : Nat) : Int) ∧ ((x7N : Nat) : Int) * (1 : Int) ≤ 140737488355328) ∧ ∀ w2 : World, w2 = w1.alloc (.cells (zeroRow [(.int .u8 0)] ((x7N : Nat) : Int).toNat).toArray 5 (0, 0)) →
  ∃ (x11A : Option Addr), ∃ (x11N : Nat), ∃ (x11C : Nat), w2.cell? (⟨w.heap.size, 2, none⟩ : Addr) = some (.slice x11A x11N x11C) ∧
  ∃ vI : Int → Nat → World → Prop, (∃ vk_2 : Nat, vI 0 vk_2 w2) ∧
  ∀ (jk : Nat → Value) (x13 : Int), ∀ (vk : Nat) (w3 : World), vI x13 vk w3 →
  (decide (x13 < ((x11N : Nat) : Int)) = true →
  (0 ≤ x13 ∧ x13 < ((x11N : Nat) : Int)) ∧ someV x11A fun p =>
  ∃ (x17 : Int), w3.cell? (p.add (x13.toNat * 1)) = some (.int .i8 x17) ∧
  (0 ≤ x13 ∧ x13 < ((((x7N : Nat) : Int).toNat : Nat) : Int)) ∧
  (((∃ u, w3.cell? ((⟨w1.heap.size, 0, none⟩ : Addr).add (x13.toNat * 1)) = some u) ∧ w3.frozen? ((⟨w1.heap.size, 0, none⟩ : Addr).add (x13.toNat * 1)) = false)) ∧ ∀ w4 : World, w4 = (w3.setCell ((⟨w1.heap.size, 0, none⟩ : Addr).add (x13.toNat * 1)) (.int .u8 (IntKind.u8.wrap x17))) →
  ∃ vk_1 : Nat, vk_1 < vk ∧ vI (IntKind.i64.wrap (x13 + 1)) vk_1 w4) ∧
  (decide (x13 < ((x11N : Nat) : Int)) = false →
  ∃ (x25 : ByteArray), ∃ w5 : World, (convert 84 9 (.slice (some (⟨w1.heap.size, 0, none⟩ : Addr)) (((x7N : Nat) : Int).toNat) (((x7N : Nat) : Int).toNat))).run Try.prog w3 = .ok (.string x25) w5 ∧
  R (.string x25) w5)
theorem vecs_Bytes.vc_eq (t0 : Int) (t1 : Int) (t2A : Option Addr) (t2N : Nat) (t2C : Nat) (w : World) (R : Value → World → Prop) : fnV Try.prog Try.f48 (.lp [(4, none), (5, none), (13, some (.int .i64)), (14, none), (15, none), (16, none), (17, none), (18, none), (19, none), (20, none), (21, none), (22, none), (23, none)] (.c .nil .nil)) [(.agg #[(.int .i64 t0), (.int .i64 t1), (.slice t2A t2N t2C)])] w R = vecs_Bytes.vc t0 t1 t2A t2N t2C w R := by kernel_rfl
theorem vecs_Bytes.calls (t0 : Int) (t1 : Int) (t2A : Option Addr) (t2N : Nat) (t2C : Nat) {w : World} {R : Value → World → Prop} (h : vecs_Bytes.vc t0 t1 t2A t2N t2C w R) : Calls Try.prog 48 #[(.agg #[(.int .i64 t0), (.int .i64 t1), (.slice t2A t2N t2C)])] w (Ret R) :=
  calls_V fit Try.func48 (.lp [(4, none), (5, none), (13, some (.int .i64)), (14, none), (15, none), (16, none), (17, none), (18, none), (19, none), (20, none), (21, none), (22, none), (23, none)] (.c .nil .nil)) (by rw [show (#[(.agg #[(.int .i64 t0), (.int .i64 t1), (.slice t2A t2N t2C)])] : Array Value).toList = [(.agg #[(.int .i64 t0), (.int .i64 t1), (.slice t2A t2N t2C)])] from rfl, vecs_Bytes.vc_eq]; exact h)
/-- function 50 -/
def vecs_Of.vc (rows : Int) (cols : Int) (s : ByteArray) (w : World) (R : Value → World → Prop) : Prop :=
  ∀ w1 : World, w1 = w.alloc (.cells #[(.int .i64 0), (.int .i64 0), (.slice none 0 0)] 55 (0, 0)) →
  Calls Try.prog 65 #[(.int .i64 rows)] w1 (Ret fun v w2 => ∃ (x13 : Bool), v = (.bool x13) ∧
  ((!x13) = true →
  (((∃ u, w2.cell? (⟨w.heap.size, 0, none⟩ : Addr) = some u) ∧ w2.frozen? (⟨w.heap.size, 0, none⟩ : Addr) = false) ∧ ((∃ u, w2.cell? (⟨w.heap.size, 1, none⟩ : Addr) = some u) ∧ w2.frozen? (⟨w.heap.size, 1, none⟩ : Addr) = false) ∧ ((∃ u, w2.cell? (⟨w.heap.size, 2, none⟩ : Addr) = some u) ∧ w2.frozen? (⟨w.heap.size, 2, none⟩ : Addr) = false)) ∧ ∀ w3 : World, w3 = (((w2.setCell (⟨w.heap.size, 0, none⟩ : Addr) (.int .i64 0)).setCell (⟨w.heap.size, 1, none⟩ : Addr) (.int .i64 0)).setCell (⟨w.heap.size, 2, none⟩ : Addr) (.slice none 0 0)) →
  ∃ (r00 : Int), ∃ (r01 : Int), ∃ (r02A : Option Addr), ∃ (r02N : Nat), ∃ (r02C : Nat), (w3.cell? (⟨w.heap.size, 0, none⟩ : Addr) = some (.int .i64 r00) ∧ w3.cell? (⟨w.heap.size, 1, none⟩ : Addr) = some (.int .i64 r01) ∧ w3.cell? (⟨w.heap.size, 2, none⟩ : Addr) = some (.slice r02A r02N r02C)) ∧
  R (.tuple #[(.agg #[(.int .i64 r00), (.int .i64 r01), (.slice r02A r02N r02C)]), (.int .i64 1)]) w3) ∧
  ((!x13) = false →
  Calls Try.prog 65 #[(.int .i64 cols)] w2 (Ret fun v_1 w4 => ∃ (x17 : Bool), v_1 = (.bool x17) ∧
  ((!x17) = true →
  (((∃ u, w4.cell? (⟨w.heap.size, 0, none⟩ : Addr) = some u) ∧ w4.frozen? (⟨w.heap.size, 0, none⟩ : Addr) = false) ∧ ((∃ u, w4.cell? (⟨w.heap.size, 1, none⟩ : Addr) = some u) ∧ w4.frozen? (⟨w.heap.size, 1, none⟩ : Addr) = false) ∧ ((∃ u, w4.cell? (⟨w.heap.size, 2, none⟩ : Addr) = some u) ∧ w4.frozen? (⟨w.heap.size, 2, none⟩ : Addr) = false)) ∧ ∀ w5 : World, w5 = (((w4.setCell (⟨w.heap.size, 0, none⟩ : Addr) (.int .i64 0)).setCell (⟨w.heap.size, 1, none⟩ : Addr) (.int .i64 0)).setCell (⟨w.heap.size, 2, none⟩ : Addr) (.slice none 0 0)) →
  ∃ (r00_1 : Int), ∃ (r01_1 : Int), ∃ (r02A_1 : Option Addr), ∃ (r02N_1 : Nat), ∃ (r02C_1 : Nat), (w5.cell? (⟨w.heap.size, 0, none⟩ : Addr) = some (.int .i64 r00_1) ∧ w5.cell? (⟨w.heap.size, 1, none⟩ : Addr) = some (.int .i64 r01_1) ∧ w5.cell? (⟨w.heap.size, 2, none⟩ : Addr) = some (.slice r02A_1 r02N_1 r02C_1)) ∧
  R (.tuple #[(.agg #[(.int .i64 r00_1), (.int .i64 r01_1), (.slice r02A_1 r02N_1 r02C_1)]), (.int .i64 1)]) w5) ∧
  ((!x17) = false →
  ((((s.size : Nat) : Int) != (IntKind.i64.wrap (rows * cols))) = true →
  (((∃ u, w4.cell? (⟨w.heap.size, 0, none⟩ : Addr) = some u) ∧ w4.frozen? (⟨w.heap.size, 0, none⟩ : Addr) = false) ∧ ((∃ u, w4.cell? (⟨w.heap.size, 1, none⟩ : Addr) = some u) ∧ w4.frozen? (⟨w.heap.size, 1, none⟩ : Addr) = false) ∧ ((∃ u, w4.cell? (⟨w.heap.size, 2, none⟩ : Addr) = some u) ∧ w4.frozen? (⟨w.heap.size, 2, none⟩ : Addr) = false)) ∧ ∀ w6 : World, w6 = (((w4.setCell (⟨w.heap.size, 0, none⟩ : Addr) (.int .i64 0)).setCell (⟨w.heap.size, 1, none⟩ : Addr) (.int .i64 0)).setCell (⟨w.heap.size, 2, none⟩ : Addr) (.slice none 0 0)) →
  ∃ (r00_2 : Int), ∃ (r01_2 : Int), ∃ (r02A_2 : Option Addr), ∃ (r02N_2 : Nat), ∃ (r02C_2 : Nat), (w6.cell? (⟨w.heap.size, 0, none⟩ : Addr) = some (.int .i64 r00_2) ∧ w6.cell? (⟨w.heap.size, 1, none⟩ : Addr) = some (.int .i64 r01_2) ∧ w6.cell? (⟨w.heap.size, 2, none⟩ : Addr) = some (.slice r02A_2 r02N_2 r02C_2)) ∧
  R (.tuple #[(.agg #[(.int .i64 r00_2), (.int .i64 r01_2), (.slice r02A_2 r02N_2 r02C_2)]), (.int .i64 5)]) w6) ∧
  ((((s.size : Nat) : Int) != (IntKind.i64.wrap (rows * cols))) = false →
  ∀ w7 : World, w7 = w4.alloc (.cells #[(.int .i64 0), (.int .i64 0), (.slice none 0 0)] 55 (0, 0)) →
  (((∃ u, w7.cell? (⟨w4.heap.size, 0, none⟩ : Addr) = some u) ∧ w7.frozen? (⟨w4.heap.size, 0, none⟩ : Addr) = false) ∧ ((∃ u, w7.cell? (⟨w4.heap.size, 1, none⟩ : Addr) = some u) ∧ w7.frozen? (⟨w4.heap.size, 1, none⟩ : Addr) = false) ∧ ((∃ u, w7.cell? (⟨w4.heap.size, 2, none⟩ : Addr) = some u) ∧ w7.frozen? (⟨w4.heap.size, 2, none⟩ : Addr) = false)) ∧ ∀ w8 : World, w8 = (((w7.setCell (⟨w4.heap.size, 0, none⟩ : Addr) (.int .i64 rows)).setCell (⟨w4.heap.size, 1, none⟩ : Addr) (.int .i64 cols)).setCell (⟨w4.heap.size, 2, none⟩ : Addr) (.slice none 0 0)) →
  ∃ (x33A : Option Addr), ∃ (x33N : Nat), ∃ (x33C : Nat), ∃ w9 : World, (convert 9 84 (.string s)).run Try.prog w8 = .ok (.slice x33A x33N x33C) w9 ∧
  ∃ vI : Int → Nat → World → Prop, (∃ vk_2 : Nat, vI 0 vk_2 w9) ∧
  ∀ (jk : Nat → Value) (x35 : Int), ∀ (vk : Nat) (w10 : World), vI x35 vk w10 →
  (decide (x35 < ((x33N : Nat) : Int)) = true →
  (0 ≤ x35 ∧ x35 < ((x33N : Nat) : Int)) ∧ someV x33A fun p =>
  ∃ (x38 : Int), w10.cell? (p.add (x35.toNat * 1)) = some (.int .u8 x38) ∧
  ∃ (x40A : Option Addr), ∃ (x40N : Nat), ∃ (x40C : Nat), w10.cell? (⟨w4.heap.size, 2, none⟩ : Addr) = some (.slice x40A x40N x40C) ∧
  ∀ w11 : World, w11 = w10.alloc (.cells #[(.int .i8 (IntKind.i8.wrap x38))] 64 (0, 0)) →
  ∃ (x44A : Option Addr), ∃ (x44N : Nat), ∃ (x44C : Nat), ∃ w12 : World, (Builtin.append_ #[53, 53] 53 #[(.slice x40A x40N x40C), (.slice (some (⟨w10.heap.size, 0, none⟩ : Addr)) 1 1)]).run Try.prog w11 = .ok (.slice x44A x44N x44C) w12 ∧
  (((∃ u, w12.cell? (⟨w4.heap.size, 2, none⟩ : Addr) = some u) ∧ w12.frozen? (⟨w4.heap.size, 2, none⟩ : Addr) = false)) ∧ ∀ w13 : World, w13 = (w12.setCell (⟨w4.heap.size, 2, none⟩ : Addr) (.slice x44A x44N x44C)) →
  ∃ vk_1 : Nat, vk_1 < vk ∧ vI (IntKind.i64.wrap (x35 + 1)) vk_1 w13) ∧
  (decide (x35 < ((x33N : Nat) : Int)) = false →
  ∃ (x470 : Int), ∃ (x471 : Int), ∃ (x472A : Option Addr), ∃ (x472N : Nat), ∃ (x472C : Nat), (w10.cell? (⟨w4.heap.size, 0, none⟩ : Addr) = some (.int .i64 x470) ∧ w10.cell? (⟨w4.heap.size, 1, none⟩ : Addr) = some (.int .i64 x471) ∧ w10.cell? (⟨w4.heap.size, 2, none⟩ : Addr) = some (.slice x472A x472N x472C)) ∧
  (((∃ u, w10.cell? (⟨w.heap.size, 0, none⟩ : Addr) = some u) ∧ w10.frozen? (⟨w.heap.size, 0, none⟩ : Addr) = false) ∧ ((∃ u, w10.cell? (⟨w.heap.size, 1, none⟩ : Addr) = some u) ∧ w10.frozen? (⟨w.heap.size, 1, none⟩ : Addr) = false) ∧ ((∃ u, w10.cell? (⟨w.heap.size, 2, none⟩ : Addr) = some u) ∧ w10.frozen? (⟨w.heap.size, 2, none⟩ : Addr) = false)) ∧ ∀ w14 : World, w14 = (((w10.setCell (⟨w.heap.size, 0, none⟩ : Addr) (.int .i64 x470)).setCell (⟨w.heap.size, 1, none⟩ : Addr) (.int .i64 x471)).setCell (⟨w.heap.size, 2, none⟩ : Addr) (.slice x472A x472N x472C)) →
  ∃ (r00_3 : Int), ∃ (r01_3 : Int), ∃ (r02A_3 : Option Addr), ∃ (r02N_3 : Nat), ∃ (r02C_3 : Nat), (w14.cell? (⟨w.heap.size, 0, none⟩ : Addr) = some (.int .i64 r00_3) ∧ w14.cell? (⟨w.heap.size, 1, none⟩ : Addr) = some (.int .i64 r01_3) ∧ w14.cell? (⟨w.heap.size, 2, none⟩ : Addr) = some (.slice r02A_3 r02N_3 r02C_3)) ∧
  R (.tuple #[(.agg #[(.int .i64 r00_3), (.int .i64 r01_3), (.slice r02A_3 r02N_3 r02C_3)]), (.int .i64 0)]) w14))))))
theorem vecs_Of.vc_eq (rows : Int) (cols : Int) (s : ByteArray) (w : World) (R : Value → World → Prop) : fnV Try.prog Try.f50 (.at_ 1 3 (.k .nil) (.c .nil (.c .nil (.lp [(10, none), (35, some (.int .i64)), (36, none), (37, none), (38, none), (39, none), (40, none), (41, none), (42, none), (43, none), (44, none), (45, none), (46, none)] (.c .nil .nil))))) [(.int .i64 rows), (.int .i64 cols), (.string s)] w R = vecs_Of.vc rows cols s w R := by kernel_rfl
theorem vecs_Of.calls (rows : Int) (cols : Int) (s : ByteArray) {w : World} {R : Value → World → Prop} (h : vecs_Of.vc rows cols s w R) : Calls Try.prog 50 #[(.int .i64 rows), (.int .i64 cols), (.string s)] w (Ret R) :=
  calls_V fit Try.func50 (.at_ 1 3 (.k .nil) (.c .nil (.c .nil (.lp [(10, none), (35, some (.int .i64)), (36, none), (37, none), (38, none), (39, none), (40, none), (41, none), (42, none), (43, none), (44, none), (45, none), (46, none)] (.c .nil .nil))))) (by rw [show (#[(.int .i64 rows), (.int .i64 cols), (.string s)] : Array Value).toList = [(.int .i64 rows), (.int .i64 cols), (.string s)] from rfl, vecs_Of.vc_eq]; exact h)
/-- function 49 -/
def vecs_Table_Row.vc (t0 : Int) (t1 : Int) (t2A : Option Addr) (t2N : Nat) (t2C : Nat) (vat : Int) (w : World) (R : Value → World → Prop) : Prop :=
  ∀ w1 : World, w1 = w.alloc (.cells #[(.int .i64 t0), (.int .i64 t1), (.slice t2A t2N t2C)] 55 (0, 0)) →
  ∃ (x80 : Int), ∃ (x81 : Int), ∃ (x82A : Option Addr), ∃ (x82N : Nat), ∃ (x82C : Nat), (w1.cell? (⟨w.heap.size, 0, none⟩ : Addr) = some (.int .i64 x80) ∧ w1.cell? (⟨w.heap.size, 1, none⟩ : Addr) = some (.int .i64 x81) ∧ w1.cell? (⟨w.heap.size, 2, none⟩ : Addr) = some (.slice x82A x82N x82C)) ∧
  Calls Try.prog 43 #[(.agg #[(.int .i64 x80), (.int .i64 x81), (.slice x82A x82N x82C)])] w1 (Ret fun v w2 => ∃ (x9 : Bool), v = (.bool x9) ∧
  ((!x9) = true →
  R (.slice none 0 0) w2) ∧
  ((!x9) = false →
  (decide (vat < (0 : Int)) = true →
  R (.slice none 0 0) w2) ∧
  (decide (vat < (0 : Int)) = false →
  ∃ (x18 : Int), w2.cell? (⟨w.heap.size, 0, none⟩ : Addr) = some (.int .i64 x18) ∧
  (decide (vat ≥ x18) = true →
  R (.slice none 0 0) w2) ∧
  (decide (vat ≥ x18) = false →
  ∃ (x22A : Option Addr), ∃ (x22N : Nat), ∃ (x22C : Nat), w2.cell? (⟨w.heap.size, 2, none⟩ : Addr) = some (.slice x22A x22N x22C) ∧
  ∃ (x25 : Int), w2.cell? (⟨w.heap.size, 1, none⟩ : Addr) = some (.int .i64 x25) ∧
  ∃ (x30 : Int), w2.cell? (⟨w.heap.size, 1, none⟩ : Addr) = some (.int .i64 x30) ∧
  (0 ≤ (IntKind.i64.wrap (vat * x25)) ∧ (IntKind.i64.wrap (vat * x25)) ≤ (IntKind.i64.wrap ((IntKind.i64.wrap (vat + 1)) * x30)) ∧ (IntKind.i64.wrap ((IntKind.i64.wrap (vat + 1)) * x30)) ≤ ((x22C : Nat) : Int)) ∧
  ∃ vI : Option Addr → Nat → Nat → Int → Nat → World → Prop, (∃ vk_2 : Nat, vI none 0 0 0 vk_2 w2) ∧
  ∀ (jk : Nat → Value) (outA : Option Addr) (outN : Nat) (outC : Nat) (x34 : Int), ∀ (vk : Nat) (w3 : World), vI outA outN outC x34 vk w3 →
  (decide (x34 < ((((IntKind.i64.wrap ((IntKind.i64.wrap (vat + 1)) * x30)).toNat - (IntKind.i64.wrap (vat * x25)).toNat) : Nat) : Int)) = true →
  (0 ≤ x34 ∧ x34 < ((((IntKind.i64.wrap ((IntKind.i64.wrap (vat + 1)) * x30)).toNat - (IntKind.i64.wrap (vat * x25)).toNat) : Nat) : Int)) ∧ someV (if x22C = (IntKind.i64.wrap (vat * x25)).toNat then x22A else x22A.map (·.add ((IntKind.i64.wrap (vat * x25)).toNat * 1))) fun p =>
  ∃ (x37 : Int), w3.cell? (p.add (x34.toNat * 1)) = some (.int .i8 x37) ∧
  ∀ w4 : World, w4 = w3.alloc (.cells #[(.int .i64 (IntKind.i64.wrap x37))] 3 (0, 0)) →
  ∃ (x42A : Option Addr), ∃ (x42N : Nat), ∃ (x42C : Nat), ∃ w5 : World, (Builtin.append_ #[29, 29] 29 #[(.slice outA outN outC), (.slice (some (⟨w3.heap.size, 0, none⟩ : Addr)) 1 1)]).run Try.prog w4 = .ok (.slice x42A x42N x42C) w5 ∧
  ∃ vk_1 : Nat, vk_1 < vk ∧ vI x42A x42N x42C (IntKind.i64.wrap (x34 + 1)) vk_1 w5) ∧
  (decide (x34 < ((((IntKind.i64.wrap ((IntKind.i64.wrap (vat + 1)) * x30)).toNat - (IntKind.i64.wrap (vat * x25)).toNat) : Nat) : Int)) = false →
  R (.slice outA outN outC) w3)))))
theorem vecs_Table_Row.vc_eq (t0 : Int) (t1 : Int) (t2A : Option Addr) (t2N : Nat) (t2C : Nat) (vat : Int) (w : World) (R : Value → World → Prop) : fnV Try.prog Try.f49 (.at_ 1 3 (.k .nil) (.at_ 1 7 (.k .nil) (.c .nil (.lp [(5, some (.slice)), (7, none), (34, some (.int .i64)), (35, none), (36, none), (37, none), (38, none), (39, none), (40, none), (41, none), (42, none), (43, none)] (.c .nil .nil))))) [(.agg #[(.int .i64 t0), (.int .i64 t1), (.slice t2A t2N t2C)]), (.int .i64 vat)] w R = vecs_Table_Row.vc t0 t1 t2A t2N t2C vat w R := by kernel_rfl
theorem vecs_Table_Row.calls (t0 : Int) (t1 : Int) (t2A : Option Addr) (t2N : Nat) (t2C : Nat) (vat : Int) {w : World} {R : Value → World → Prop} (h : vecs_Table_Row.vc t0 t1 t2A t2N t2C vat w R) : Calls Try.prog 49 #[(.agg #[(.int .i64 t0), (.int .i64 t1), (.slice t2A t2N t2C)]), (.int .i64 vat)] w (Ret R) :=
  calls_V fit Try.func49 (.at_ 1 3 (.k .nil) (.at_ 1 7 (.k .nil) (.c .nil (.lp [(5, some (.slice)), (7, none), (34, some (.int .i64)), (35, none), (36, none), (37, none), (38, none), (39, none), (40, none), (41, none), (42, none), (43, none)] (.c .nil .nil))))) (by rw [show (#[(.agg #[(.int .i64 t0), (.int .i64 t1), (.slice t2A t2N t2C)]), (.int .i64 vat)] : Array Value).toList = [(.agg #[(.int .i64 t0), (.int .i64 t1), (.slice t2A t2N t2C)]), (.int .i64 vat)] from rfl, vecs_Table_Row.vc_eq]; exact h)
/-- function 45 -/
def vecs_Table_Times.vc (t0 : Int) (t1 : Int) (t2A : Option Addr) (t2N : Nat) (t2C : Nat) (vA : Option Addr) (vN : Nat) (vC : Nat) (shift : Int) (w : World) (R : Value → World → Prop) : Prop :=
  ∀ w1 : World, w1 = w.alloc (.cells #[(.int .i64 t0), (.int .i64 t1), (.slice t2A t2N t2C)] 55 (0, 0)) →
  ∃ (x100 : Int), ∃ (x101 : Int), ∃ (x102A : Option Addr), ∃ (x102N : Nat), ∃ (x102C : Nat), (w1.cell? (⟨w.heap.size, 0, none⟩ : Addr) = some (.int .i64 x100) ∧ w1.cell? (⟨w.heap.size, 1, none⟩ : Addr) = some (.int .i64 x101) ∧ w1.cell? (⟨w.heap.size, 2, none⟩ : Addr) = some (.slice x102A x102N x102C)) ∧
  Calls Try.prog 43 #[(.agg #[(.int .i64 x100), (.int .i64 x101), (.slice x102A x102N x102C)])] w1 (Ret fun v w2 => ∃ (x11 : Bool), v = (.bool x11) ∧
  ((!x11) = true →
  R (.tuple #[(.slice none 0 0), (.int .i64 1)]) w2) ∧
  ((!x11) = false →
  ∃ (x17 : Int), w2.cell? (⟨w.heap.size, 1, none⟩ : Addr) = some (.int .i64 x17) ∧
  ((((vN : Nat) : Int) != x17) = true →
  R (.tuple #[(.slice none 0 0), (.int .i64 1)]) w2) ∧
  ((((vN : Nat) : Int) != x17) = false →
  ∃ (x21 : Int), w2.cell? (⟨w.heap.size, 0, none⟩ : Addr) = some (.int .i64 x21) ∧
  ∃ vI : Option Addr → Nat → Nat → Int → Nat → World → Prop, (∃ vk_2 : Nat, vI none 0 0 0 vk_2 w2) ∧
  ∀ (jk : Nat → Value) (outA : Option Addr) (outN : Nat) (outC : Nat) (x22 : Int), ∀ (vk : Nat) (w3 : World), vI outA outN outC x22 vk w3 →
  (decide (x22 < x21) = true →
  ∃ (x260 : Int), ∃ (x261 : Int), ∃ (x262A : Option Addr), ∃ (x262N : Nat), ∃ (x262C : Nat), (w3.cell? (⟨w.heap.size, 0, none⟩ : Addr) = some (.int .i64 x260) ∧ w3.cell? (⟨w.heap.size, 1, none⟩ : Addr) = some (.int .i64 x261) ∧ w3.cell? (⟨w.heap.size, 2, none⟩ : Addr) = some (.slice x262A x262N x262C)) ∧
  Calls Try.prog 49 #[(.agg #[(.int .i64 x260), (.int .i64 x261), (.slice x262A x262N x262C)]), (.int .i64 x22)] w3 (Ret fun v_1 w4 => ∃ (x28A : Option Addr), ∃ (x28N : Nat), ∃ (x28C : Nat), v_1 = (.slice x28A x28N x28C) ∧
  Calls Try.prog 58 #[(.slice x28A x28N x28C), (.slice vA vN vC)] w4 (Ret fun v_2 w5 => ∃ (x30 : Int), v_2 = (.int .i64 x30) ∧
  Calls Try.prog 15 #[(.int .i64 x30), (.int .i64 shift)] w5 (Ret fun v_3 w6 => ∃ (x32 : Int), v_3 = (.int .i64 x32) ∧
  Calls Try.prog 20 #[(.int .i64 x32)] w6 (Ret fun v_4 w7 => ∃ (x33 : Int), v_4 = (.int .i64 x33) ∧
  ∀ w8 : World, w8 = w7.alloc (.cells #[(.int .i64 x33)] 3 (0, 0)) →
  ∃ (x35A : Option Addr), ∃ (x35N : Nat), ∃ (x35C : Nat), ∃ w9 : World, (Builtin.append_ #[29, 29] 29 #[(.slice outA outN outC), (.slice (some (⟨w7.heap.size, 0, none⟩ : Addr)) 1 1)]).run Try.prog w8 = .ok (.slice x35A x35N x35C) w9 ∧
  ∃ vk_1 : Nat, vk_1 < vk ∧ vI x35A x35N x35C (IntKind.i64.wrap (x22 + 1)) vk_1 w9))))) ∧
  (decide (x22 < x21) = false →
  R (.tuple #[(.slice outA outN outC), (.int .i64 0)]) w3))))
theorem vecs_Table_Times.vc_eq (t0 : Int) (t1 : Int) (t2A : Option Addr) (t2N : Nat) (t2C : Nat) (vA : Option Addr) (vN : Nat) (vC : Nat) (shift : Int) (w : World) (R : Value → World → Prop) : fnV Try.prog Try.f45 (.at_ 1 3 (.k .nil) (.c .nil (.lp [(8, some (.slice)), (9, none), (22, some (.int .i64)), (23, none), (24, none), (25, none), (26, none), (27, none), (28, none), (29, none), (30, none), (31, none), (32, none), (33, none), (34, none), (35, none), (36, none)] (.c .nil .nil)))) [(.agg #[(.int .i64 t0), (.int .i64 t1), (.slice t2A t2N t2C)]), (.slice vA vN vC), (.int .i64 shift)] w R = vecs_Table_Times.vc t0 t1 t2A t2N t2C vA vN vC shift w R := by kernel_rfl
theorem vecs_Table_Times.calls (t0 : Int) (t1 : Int) (t2A : Option Addr) (t2N : Nat) (t2C : Nat) (vA : Option Addr) (vN : Nat) (vC : Nat) (shift : Int) {w : World} {R : Value → World → Prop} (h : vecs_Table_Times.vc t0 t1 t2A t2N t2C vA vN vC shift w R) : Calls Try.prog 45 #[(.agg #[(.int .i64 t0), (.int .i64 t1), (.slice t2A t2N t2C)]), (.slice vA vN vC), (.int .i64 shift)] w (Ret R) :=
  calls_V fit Try.func45 (.at_ 1 3 (.k .nil) (.c .nil (.lp [(8, some (.slice)), (9, none), (22, some (.int .i64)), (23, none), (24, none), (25, none), (26, none), (27, none), (28, none), (29, none), (30, none), (31, none), (32, none), (33, none), (34, none), (35, none), (36, none)] (.c .nil .nil)))) (by rw [show (#[(.agg #[(.int .i64 t0), (.int .i64 t1), (.slice t2A t2N t2C)]), (.slice vA vN vC), (.int .i64 shift)] : Array Value).toList = [(.agg #[(.int .i64 t0), (.int .i64 t1), (.slice t2A t2N t2C)]), (.slice vA vN vC), (.int .i64 shift)] from rfl, vecs_Table_Times.vc_eq]; exact h)
/-- function 44 -/
def vecs_Plus.vc (listA : Option Addr) (listN : Nat) (listC : Nat) (w : World) (R : Value → World → Prop) : Prop :=
  ((((listN : Nat) : Int) == (0 : Int)) = true →
  R (.tuple #[(.slice none 0 0), (.int .i64 0)]) w) ∧
  ((((listN : Nat) : Int) == (0 : Int)) = false →
  ∃ vI : Int → Nat → World → Prop, (∃ vk_2 : Nat, vI 0 vk_2 w) ∧
  ∀ (jk : Nat → Value) (x16 : Int), ∀ (vk : Nat) (w1 : World), vI x16 vk w1 →
  (decide (x16 < ((listN : Nat) : Int)) = true →
  (0 ≤ x16 ∧ x16 < ((listN : Nat) : Int)) ∧ someV listA fun p =>
  ∃ (x19A : Option Addr), ∃ (x19N : Nat), ∃ (x19C : Nat), w1.cell? (p.add (x16.toNat * 1)) = some (.slice x19A x19N x19C) ∧
  (0 ≤ (0 : Int) ∧ (0 : Int) < ((listN : Nat) : Int)) ∧ someV listA fun p_1 =>
  ∃ (x24A : Option Addr), ∃ (x24N : Nat), ∃ (x24C : Nat), w1.cell? p_1 = some (.slice x24A x24N x24C) ∧
  ((((x19N : Nat) : Int) != ((x24N : Nat) : Int)) = true →
  R (.tuple #[(.slice none 0 0), (.int .i64 1)]) w1) ∧
  ((((x19N : Nat) : Int) != ((x24N : Nat) : Int)) = false →
  ∃ vk_1 : Nat, vk_1 < vk ∧ vI (IntKind.i64.wrap (x16 + 1)) vk_1 w1)) ∧
  (decide (x16 < ((listN : Nat) : Int)) = false →
  (0 ≤ (0 : Int) ∧ (0 : Int) < ((listN : Nat) : Int)) ∧ someV listA fun p_2 =>
  ∃ (x30A : Option Addr), ∃ (x30N : Nat), ∃ (x30C : Nat), w1.cell? p_2 = some (.slice x30A x30N x30C) ∧
  ∃ vI_1 : Option Addr → Nat → Nat → Int → Nat → World → Prop, (∃ vk_5 : Nat, vI_1 none 0 0 0 vk_5 w1) ∧
  ∀ (jk : Nat → Value) (outA : Option Addr) (outN : Nat) (outC : Nat) (x32 : Int), ∀ (vk_3 : Nat) (w2 : World), vI_1 outA outN outC x32 vk_3 w2 →
  (decide (x32 < ((x30N : Nat) : Int)) = true →
  ∃ vI_2 : Option Addr → Nat → Nat → Int → Nat → World → Prop, (∃ vk_8 : Nat, vI_2 none 0 0 0 vk_8 w2) ∧
  ∀ (jk : Nat → Value) (columnA : Option Addr) (columnN : Nat) (columnC : Nat) (x37 : Int), ∀ (vk_6 : Nat) (w3 : World), vI_2 columnA columnN columnC x37 vk_6 w3 →
  (decide (x37 < ((listN : Nat) : Int)) = true →
  (0 ≤ x37 ∧ x37 < ((listN : Nat) : Int)) ∧ someV listA fun p_3 =>
  ∃ (x40A : Option Addr), ∃ (x40N : Nat), ∃ (x40C : Nat), w3.cell? (p_3.add (x37.toNat * 1)) = some (.slice x40A x40N x40C) ∧
  (0 ≤ x32 ∧ x32 < ((x40N : Nat) : Int)) ∧ someV x40A fun p_4 =>
  ∃ (x45 : Int), w3.cell? (p_4.add (x32.toNat * 1)) = some (.int .i64 x45) ∧
  ∀ w4 : World, w4 = w3.alloc (.cells #[(.int .i64 x45)] 3 (0, 0)) →
  ∃ (x47A : Option Addr), ∃ (x47N : Nat), ∃ (x47C : Nat), ∃ w5 : World, (Builtin.append_ #[29, 29] 29 #[(.slice columnA columnN columnC), (.slice (some (⟨w3.heap.size, 0, none⟩ : Addr)) 1 1)]).run Try.prog w4 = .ok (.slice x47A x47N x47C) w5 ∧
  ∃ vk_7 : Nat, vk_7 < vk_6 ∧ vI_2 x47A x47N x47C (IntKind.i64.wrap (x37 + 1)) vk_7 w5) ∧
  (decide (x37 < ((listN : Nat) : Int)) = false →
  Calls Try.prog 57 #[(.slice columnA columnN columnC)] w3 (Ret fun v w6 => ∃ (x51 : Int), v = (.int .i64 x51) ∧
  Calls Try.prog 20 #[(.int .i64 x51)] w6 (Ret fun v_1 w7 => ∃ (x52 : Int), v_1 = (.int .i64 x52) ∧
  ∀ w8 : World, w8 = w7.alloc (.cells #[(.int .i64 x52)] 3 (0, 0)) →
  ∃ (x54A : Option Addr), ∃ (x54N : Nat), ∃ (x54C : Nat), ∃ w9 : World, (Builtin.append_ #[29, 29] 29 #[(.slice outA outN outC), (.slice (some (⟨w7.heap.size, 0, none⟩ : Addr)) 1 1)]).run Try.prog w8 = .ok (.slice x54A x54N x54C) w9 ∧
  ∃ vk_4 : Nat, vk_4 < vk_3 ∧ vI_1 x54A x54N x54C (IntKind.i64.wrap (x32 + 1)) vk_4 w9)))) ∧
  (decide (x32 < ((x30N : Nat) : Int)) = false →
  R (.tuple #[(.slice outA outN outC), (.int .i64 0)]) w2)))
theorem vecs_Plus.vc_eq (listA : Option Addr) (listN : Nat) (listC : Nat) (w : World) (R : Value → World → Prop) : fnV Try.prog Try.f44 (.c .nil (.lp [(2, none), (3, none), (5, none), (16, some (.int .i64)), (17, none), (18, none), (19, none), (20, none), (21, none), (22, none), (23, none), (24, none), (25, none), (26, none), (27, none)] (.c (.c .nil .nil) (.lp [(6, some (.slice)), (7, none), (8, none), (10, none), (32, some (.int .i64)), (33, none), (34, none), (35, none), (36, none), (37, none), (38, none), (39, none), (40, none), (41, none), (42, none), (43, none), (44, none), (45, none), (46, none), (47, none), (48, none), (49, none), (50, none), (51, none), (52, none), (53, none), (54, none), (55, none)] (.c (.lp [(8, some (.slice)), (10, none), (37, some (.int .i64)), (38, none), (39, none), (40, none), (41, none), (42, none), (43, none), (44, none), (45, none), (46, none), (47, none), (48, none)] (.c .nil .nil)) .nil))))) [(.slice listA listN listC)] w R = vecs_Plus.vc listA listN listC w R := by kernel_rfl
theorem vecs_Plus.calls (listA : Option Addr) (listN : Nat) (listC : Nat) {w : World} {R : Value → World → Prop} (h : vecs_Plus.vc listA listN listC w R) : Calls Try.prog 44 #[(.slice listA listN listC)] w (Ret R) :=
  calls_V fit Try.func44 (.c .nil (.lp [(2, none), (3, none), (5, none), (16, some (.int .i64)), (17, none), (18, none), (19, none), (20, none), (21, none), (22, none), (23, none), (24, none), (25, none), (26, none), (27, none)] (.c (.c .nil .nil) (.lp [(6, some (.slice)), (7, none), (8, none), (10, none), (32, some (.int .i64)), (33, none), (34, none), (35, none), (36, none), (37, none), (38, none), (39, none), (40, none), (41, none), (42, none), (43, none), (44, none), (45, none), (46, none), (47, none), (48, none), (49, none), (50, none), (51, none), (52, none), (53, none), (54, none), (55, none)] (.c (.lp [(8, some (.slice)), (10, none), (37, some (.int .i64)), (38, none), (39, none), (40, none), (41, none), (42, none), (43, none), (44, none), (45, none), (46, none), (47, none), (48, none)] (.c .nil .nil)) .nil))))) (by rw [show (#[(.slice listA listN listC)] : Array Value).toList = [(.slice listA listN listC)] from rfl, vecs_Plus.vc_eq]; exact h)
/-- function 52 -/
def vecs_Scale.vc (vA : Option Addr) (vN : Nat) (vC : Nat) (n : Int) (shift : Int) (w : World) (R : Value → World → Prop) : Prop :=
  ∃ vI : Option Addr → Nat → Nat → Int → Nat → World → Prop, (∃ vk_2 : Nat, vI none 0 0 0 vk_2 w) ∧
  ∀ (jk : Nat → Value) (outA : Option Addr) (outN : Nat) (outC : Nat) (x12 : Int), ∀ (vk : Nat) (w1 : World), vI outA outN outC x12 vk w1 →
  (decide (x12 < ((vN : Nat) : Int)) = true →
  (0 ≤ x12 ∧ x12 < ((vN : Nat) : Int)) ∧ someV vA fun p =>
  ∃ (x15 : Int), w1.cell? (p.add (x12.toNat * 1)) = some (.int .i64 x15) ∧
  Calls Try.prog 23 #[(.int .i64 x15), (.int .i64 n), (.int .i64 shift)] w1 (Ret fun v w2 => ∃ (x20 : Int), v = (.int .i64 x20) ∧
  ∀ w3 : World, w3 = w2.alloc (.cells #[(.int .i64 x20)] 3 (0, 0)) →
  ∃ (x22A : Option Addr), ∃ (x22N : Nat), ∃ (x22C : Nat), ∃ w4 : World, (Builtin.append_ #[29, 29] 29 #[(.slice outA outN outC), (.slice (some (⟨w2.heap.size, 0, none⟩ : Addr)) 1 1)]).run Try.prog w3 = .ok (.slice x22A x22N x22C) w4 ∧
  ∃ vk_1 : Nat, vk_1 < vk ∧ vI x22A x22N x22C (IntKind.i64.wrap (x12 + 1)) vk_1 w4)) ∧
  (decide (x12 < ((vN : Nat) : Int)) = false →
  R (.slice outA outN outC) w1)
theorem vecs_Scale.vc_eq (vA : Option Addr) (vN : Nat) (vC : Nat) (n : Int) (shift : Int) (w : World) (R : Value → World → Prop) : fnV Try.prog Try.f52 (.lp [(7, some (.slice)), (9, none), (12, some (.int .i64)), (13, none), (14, none), (15, none), (16, none), (17, none), (18, none), (19, none), (20, none), (21, none), (22, none), (23, none)] (.c .nil .nil)) [(.slice vA vN vC), (.int .i64 n), (.int .i64 shift)] w R = vecs_Scale.vc vA vN vC n shift w R := by kernel_rfl
theorem vecs_Scale.calls (vA : Option Addr) (vN : Nat) (vC : Nat) (n : Int) (shift : Int) {w : World} {R : Value → World → Prop} (h : vecs_Scale.vc vA vN vC n shift w R) : Calls Try.prog 52 #[(.slice vA vN vC), (.int .i64 n), (.int .i64 shift)] w (Ret R) :=
  calls_V fit Try.func52 (.lp [(7, some (.slice)), (9, none), (12, some (.int .i64)), (13, none), (14, none), (15, none), (16, none), (17, none), (18, none), (19, none), (20, none), (21, none), (22, none), (23, none)] (.c .nil .nil)) (by rw [show (#[(.slice vA vN vC), (.int .i64 n), (.int .i64 shift)] : Array Value).toList = [(.slice vA vN vC), (.int .i64 n), (.int .i64 shift)] from rfl, vecs_Scale.vc_eq]; exact h)
/-- function 47 -/
def coadjutorref11_Good.vc (rows : Int) (cols : Int) (n : Int) (w : World) (R : Value → World → Prop) : Prop :=
  (decide (rows ≥ (1 : Int)) = true →
  (decide (rows ≤ (64 : Int)) = true →
  (decide (cols ≥ (1 : Int)) = true →
  (decide (cols ≤ (64 : Int)) = true →
  R (.bool (n == (IntKind.i64.wrap (rows * cols)))) w) ∧
  (decide (cols ≤ (64 : Int)) = false →
  R (.bool false) w)) ∧
  (decide (cols ≥ (1 : Int)) = false →
  R (.bool false) w)) ∧
  (decide (rows ≤ (64 : Int)) = false →
  R (.bool false) w)) ∧
  (decide (rows ≥ (1 : Int)) = false →
  R (.bool false) w)
theorem coadjutorref11_Good.vc_eq (rows : Int) (cols : Int) (n : Int) (w : World) (R : Value → World → Prop) : fnV Try.prog Try.f47 (.at_ 1 2 (.at_ 1 6 (.at_ 1 10 (.at_ 1 14 .nil .nil) .nil) .nil) .nil) [(.int .i64 rows), (.int .i64 cols), (.int .i64 n)] w R = coadjutorref11_Good.vc rows cols n w R := by kernel_rfl
theorem coadjutorref11_Good.calls (rows : Int) (cols : Int) (n : Int) {w : World} {R : Value → World → Prop} (h : coadjutorref11_Good.vc rows cols n w R) : Calls Try.prog 47 #[(.int .i64 rows), (.int .i64 cols), (.int .i64 n)] w (Ret R) :=
  calls_V fit Try.func47 (.at_ 1 2 (.at_ 1 6 (.at_ 1 10 (.at_ 1 14 .nil .nil) .nil) .nil) .nil) (by rw [show (#[(.int .i64 rows), (.int .i64 cols), (.int .i64 n)] : Array Value).toList = [(.int .i64 rows), (.int .i64 cols), (.int .i64 n)] from rfl, coadjutorref11_Good.vc_eq]; exact h)
/-- function 51 -/
def coadjutorref11_Times.vc (rows : Int) (cols : Int) (dataA : Option Addr) (dataN : Nat) (dataC : Nat) (vA : Option Addr) (vN : Nat) (vC : Nat) (shift : Int) (w : World) (R : Value → World → Prop) : Prop :=
  Calls Try.prog 47 #[(.int .i64 rows), (.int .i64 cols), (.int .i64 ((dataN : Nat) : Int))] w (Ret fun v w1 => ∃ (x20 : Bool), v = (.bool x20) ∧
  ((!x20) = true →
  R (.tuple #[(.slice none 0 0), (.bool false)]) w1) ∧
  ((!x20) = false →
  ((((vN : Nat) : Int) != cols) = true →
  R (.tuple #[(.slice none 0 0), (.bool false)]) w1) ∧
  ((((vN : Nat) : Int) != cols) = false →
  ∀ w2 : World, w2 = w1.alloc (.cells #[] 3 (0, 0)) →
  ∃ vI : Option Addr → Nat → Nat → Int → Nat → World → Prop, (∃ vk_2 : Nat, vI (some (⟨w1.heap.size, 0, none⟩ : Addr)) 0 0 0 vk_2 w2) ∧
  ∀ (jk : Nat → Value) (outA : Option Addr) (outN : Nat) (outC : Nat) (i : Int), ∀ (vk : Nat) (w3 : World), vI outA outN outC i vk w3 →
  (decide (i < rows) = true →
  ∀ w4 : World, w4 = w3.alloc (.cells #[] 3 (0, 0)) →
  ∃ vI_1 : Option Addr → Nat → Nat → Int → Nat → World → Prop, (∃ vk_5 : Nat, vI_1 (some (⟨w3.heap.size, 0, none⟩ : Addr)) 0 0 0 vk_5 w4) ∧
  ∀ (jk : Nat → Value) (lA : Option Addr) (lN : Nat) (lC : Nat) (vk_6 : Int), ∀ (vk_3 : Nat) (w5 : World), vI_1 lA lN lC vk_6 vk_3 w5 →
  (decide (vk_6 < cols) = true →
  (0 ≤ (IntKind.i64.wrap ((IntKind.i64.wrap (i * cols)) + vk_6)) ∧ (IntKind.i64.wrap ((IntKind.i64.wrap (i * cols)) + vk_6)) < ((dataN : Nat) : Int)) ∧ someV dataA fun p =>
  ∃ (x48 : Int), w5.cell? (p.add ((IntKind.i64.wrap ((IntKind.i64.wrap (i * cols)) + vk_6)).toNat * 1)) = some (.int .i8 x48) ∧
  ∀ w6 : World, w6 = w5.alloc (.cells #[(.int .i64 (IntKind.i64.wrap x48))] 3 (0, 0)) →
  ∃ (x51A : Option Addr), ∃ (x51N : Nat), ∃ (x51C : Nat), ∃ w7 : World, (Builtin.append_ #[29, 29] 29 #[(.slice lA lN lC), (.slice (some (⟨w5.heap.size, 0, none⟩ : Addr)) 1 1)]).run Try.prog w6 = .ok (.slice x51A x51N x51C) w7 ∧
  ∃ vk_4 : Nat, vk_4 < vk_3 ∧ vI_1 x51A x51N x51C (IntKind.i64.wrap (vk_6 + 1)) vk_4 w7) ∧
  (decide (vk_6 < cols) = false →
  Calls Try.prog 66 #[(.slice lA lN lC), (.slice vA vN vC)] w5 (Ret fun v_1 w8 => ∃ (x55 : Int), v_1 = (.int .i64 x55) ∧
  Calls Try.prog 22 #[(.int .i64 x55), (.int .i64 shift)] w8 (Ret fun v_2 w9 => ∃ (x57 : Int), v_2 = (.int .i64 x57) ∧
  Calls Try.prog 21 #[(.int .i64 x57)] w9 (Ret fun v_3 w10 => ∃ (x58 : Int), v_3 = (.int .i64 x58) ∧
  ∀ w11 : World, w11 = w10.alloc (.cells #[(.int .i64 x58)] 3 (0, 0)) →
  ∃ (x60A : Option Addr), ∃ (x60N : Nat), ∃ (x60C : Nat), ∃ w12 : World, (Builtin.append_ #[29, 29] 29 #[(.slice outA outN outC), (.slice (some (⟨w10.heap.size, 0, none⟩ : Addr)) 1 1)]).run Try.prog w11 = .ok (.slice x60A x60N x60C) w12 ∧
  ∃ vk_1 : Nat, vk_1 < vk ∧ vI x60A x60N x60C (IntKind.i64.wrap (i + 1)) vk_1 w12))))) ∧
  (decide (i < rows) = false →
  R (.tuple #[(.slice outA outN outC), (.bool true)]) w3))))
theorem coadjutorref11_Times.vc_eq (rows : Int) (cols : Int) (dataA : Option Addr) (dataN : Nat) (dataC : Nat) (vA : Option Addr) (vN : Nat) (vC : Nat) (shift : Int) (w : World) (R : Value → World → Prop) : fnV Try.prog Try.f51 (.at_ 1 6 (.k .nil) (.c .nil (.lp [(12, some (.slice)), (13, some (.int .i64)), (14, none), (15, none), (29, none), (30, none), (31, none), (32, none), (33, none), (34, none), (35, none), (36, none), (37, none), (38, none), (39, none), (40, none), (41, none), (42, none), (43, none), (44, none), (45, none), (46, none), (47, none), (48, none), (49, none), (50, none), (51, none), (52, none), (53, none), (54, none), (55, none), (56, none), (57, none), (58, none), (59, none), (60, none)] (.c (.lp [(14, some (.slice)), (15, some (.int .i64)), (35, none), (36, none), (37, none), (38, none), (39, none), (40, none), (41, none), (42, none), (43, none), (44, none), (45, none), (46, none), (47, none), (48, none), (49, none), (50, none), (51, none)] (.c .nil .nil)) .nil)))) [(.int .i64 rows), (.int .i64 cols), (.slice dataA dataN dataC), (.slice vA vN vC), (.int .i64 shift)] w R = coadjutorref11_Times.vc rows cols dataA dataN dataC vA vN vC shift w R := by kernel_rfl
theorem coadjutorref11_Times.calls (rows : Int) (cols : Int) (dataA : Option Addr) (dataN : Nat) (dataC : Nat) (vA : Option Addr) (vN : Nat) (vC : Nat) (shift : Int) {w : World} {R : Value → World → Prop} (h : coadjutorref11_Times.vc rows cols dataA dataN dataC vA vN vC shift w R) : Calls Try.prog 51 #[(.int .i64 rows), (.int .i64 cols), (.slice dataA dataN dataC), (.slice vA vN vC), (.int .i64 shift)] w (Ret R) :=
  calls_V fit Try.func51 (.at_ 1 6 (.k .nil) (.c .nil (.lp [(12, some (.slice)), (13, some (.int .i64)), (14, none), (15, none), (29, none), (30, none), (31, none), (32, none), (33, none), (34, none), (35, none), (36, none), (37, none), (38, none), (39, none), (40, none), (41, none), (42, none), (43, none), (44, none), (45, none), (46, none), (47, none), (48, none), (49, none), (50, none), (51, none), (52, none), (53, none), (54, none), (55, none), (56, none), (57, none), (58, none), (59, none), (60, none)] (.c (.lp [(14, some (.slice)), (15, some (.int .i64)), (35, none), (36, none), (37, none), (38, none), (39, none), (40, none), (41, none), (42, none), (43, none), (44, none), (45, none), (46, none), (47, none), (48, none), (49, none), (50, none), (51, none)] (.c .nil .nil)) .nil)))) (by rw [show (#[(.int .i64 rows), (.int .i64 cols), (.slice dataA dataN dataC), (.slice vA vN vC), (.int .i64 shift)] : Array Value).toList = [(.int .i64 rows), (.int .i64 cols), (.slice dataA dataN dataC), (.slice vA vN vC), (.int .i64 shift)] from rfl, coadjutorref11_Times.vc_eq]; exact h)
/-- function 54 -/
def coadjutorref11_Plus.vc (listA : Option Addr) (listN : Nat) (listC : Nat) (w : World) (R : Value → World → Prop) : Prop :=
  ∀ w1 : World, w1 = w.alloc (.cells #[] 3 (0, 0)) →
  ∃ vI : Int → Nat → World → Prop, (∃ vk_2 : Nat, vI 0 vk_2 w1) ∧
  ∀ (jk : Nat → Value) (i : Int), ∀ (vk : Nat) (w2 : World), vI i vk w2 →
  (decide (i < ((listN : Nat) : Int)) = true →
  ∃ vS : World → Prop, ∀ w3 : World, w3 = w2.drew → vS w3 ∧
  (0 ≤ i ∧ i < ((listN : Nat) : Int)) ∧ someV listA fun p =>
  ∃ (x19A : Option Addr), ∃ (x19N : Nat), ∃ (x19C : Nat), (∀ w4, vS w4 → w4.cell? (p.add (i.toNat * 1)) = some (.slice x19A x19N x19C)) ∧
  (0 ≤ (0 : Int) ∧ (0 : Int) < ((listN : Nat) : Int)) ∧ someV listA fun p_1 =>
  ∃ (x23A : Option Addr), ∃ (x23N : Nat), ∃ (x23C : Nat), (∀ w5, vS w5 → w5.cell? p_1 = some (.slice x23A x23N x23C)) ∧
  ((((x19N : Nat) : Int) != ((x23N : Nat) : Int)) = true →
  R (.tuple #[(.slice none 0 0), (.bool false)]) w3) ∧
  ((((x19N : Nat) : Int) != ((x23N : Nat) : Int)) = false →
  ∃ vk_1 : Nat, vk_1 < vk ∧ vI (IntKind.i64.wrap (i + 1)) vk_1 w3)) ∧
  (decide (i < ((listN : Nat) : Int)) = false →
  ∃ vI_1 : Option Addr → Nat → Nat → Int → Nat → World → Prop, (∃ vk_5 : Nat, vI_1 (some (⟨w.heap.size, 0, none⟩ : Addr)) 0 0 0 vk_5 w2) ∧
  ∀ (jk : Nat → Value) (outA : Option Addr) (outN : Nat) (outC : Nat) (vk_6 : Int), ∀ (vk_3 : Nat) (w6 : World), vI_1 outA outN outC vk_6 vk_3 w6 →
  (decide (((listN : Nat) : Int) > (0 : Int)) = true →
  (0 ≤ (0 : Int) ∧ (0 : Int) < ((listN : Nat) : Int)) ∧ someV listA fun p_2 =>
  ∃ (x33A : Option Addr), ∃ (x33N : Nat), ∃ (x33C : Nat), w6.cell? p_2 = some (.slice x33A x33N x33C) ∧
  (decide (vk_6 < ((x33N : Nat) : Int)) = true →
  ∀ w7 : World, w7 = w6.alloc (.cells #[] 3 (0, 0)) →
  ∃ vI_2 : Option Addr → Nat → Nat → Int → Nat → World → Prop, (∃ vk_9 : Nat, vI_2 (some (⟨w6.heap.size, 0, none⟩ : Addr)) 0 0 0 vk_9 w7) ∧
  ∀ (jk : Nat → Value) (lA : Option Addr) (lN : Nat) (lC : Nat) (i_1 : Int), ∀ (vk_7 : Nat) (w8 : World), vI_2 lA lN lC i_1 vk_7 w8 →
  (decide (i_1 < ((listN : Nat) : Int)) = true →
  (0 ≤ i_1 ∧ i_1 < ((listN : Nat) : Int)) ∧ someV listA fun p_3 =>
  ∃ (x50A : Option Addr), ∃ (x50N : Nat), ∃ (x50C : Nat), w8.cell? (p_3.add (i_1.toNat * 1)) = some (.slice x50A x50N x50C) ∧
  (0 ≤ vk_6 ∧ vk_6 < ((x50N : Nat) : Int)) ∧ someV x50A fun p_4 =>
  ∃ (x53 : Int), w8.cell? (p_4.add (vk_6.toNat * 1)) = some (.int .i64 x53) ∧
  ∀ w9 : World, w9 = w8.alloc (.cells #[(.int .i64 x53)] 3 (0, 0)) →
  ∃ (x55A : Option Addr), ∃ (x55N : Nat), ∃ (x55C : Nat), ∃ w10 : World, (Builtin.append_ #[29, 29] 29 #[(.slice lA lN lC), (.slice (some (⟨w8.heap.size, 0, none⟩ : Addr)) 1 1)]).run Try.prog w9 = .ok (.slice x55A x55N x55C) w10 ∧
  ∃ vk_8 : Nat, vk_8 < vk_7 ∧ vI_2 x55A x55N x55C (IntKind.i64.wrap (i_1 + 1)) vk_8 w10) ∧
  (decide (i_1 < ((listN : Nat) : Int)) = false →
  Calls Try.prog 67 #[(.slice lA lN lC)] w8 (Ret fun v w11 => ∃ (x58 : Int), v = (.int .i64 x58) ∧
  Calls Try.prog 21 #[(.int .i64 x58)] w11 (Ret fun v_1 w12 => ∃ (x59 : Int), v_1 = (.int .i64 x59) ∧
  ∀ w13 : World, w13 = w12.alloc (.cells #[(.int .i64 x59)] 3 (0, 0)) →
  ∃ (x61A : Option Addr), ∃ (x61N : Nat), ∃ (x61C : Nat), ∃ w14 : World, (Builtin.append_ #[29, 29] 29 #[(.slice outA outN outC), (.slice (some (⟨w12.heap.size, 0, none⟩ : Addr)) 1 1)]).run Try.prog w13 = .ok (.slice x61A x61N x61C) w14 ∧
  ∃ vk_4 : Nat, vk_4 < vk_3 ∧ vI_1 x61A x61N x61C (IntKind.i64.wrap (vk_6 + 1)) vk_4 w14)))) ∧
  (decide (vk_6 < ((x33N : Nat) : Int)) = false →
  R (.tuple #[(.slice outA outN outC), (.bool true)]) w6)) ∧
  (decide (((listN : Nat) : Int) > (0 : Int)) = false →
  R (.tuple #[(.slice outA outN outC), (.bool true)]) w6))
theorem coadjutorref11_Plus.vc_eq (listA : Option Addr) (listN : Nat) (listC : Nat) (w : World) (R : Value → World → Prop) : fnV Try.prog Try.f54 (.lp [(2, none), (3, none), (5, some (.int .i64)), (10, none), (11, none), (12, none), (13, none), (14, none), (15, none), (16, none), (17, none), (18, none), (19, none), (20, none), (21, none), (22, none), (23, none), (24, none), (25, none)] (.c (.tk 0 (.tk 1 (.tk 2 (.tk 3 (.tk 4 (.tk 5 (.tk 6 (.tk 7 (.tk 8 (.tk 9 (.fin (.c .nil .nil)))))))))))) (.lp [(4, some (.slice)), (6, some (.int .i64)), (7, none), (8, none), (26, none), (27, none), (28, none), (29, none), (30, none), (31, none), (32, none), (33, none), (34, none), (35, none), (36, none), (37, none), (38, none), (39, none), (40, none), (41, none), (42, none), (43, none), (44, none), (45, none), (46, none), (47, none), (48, none), (49, none), (50, none), (51, none), (52, none), (53, none), (54, none), (55, none), (56, none), (57, none), (58, none), (59, none), (60, none), (61, none)] (.at_ 8 3 (.c (.lp [(7, some (.slice)), (8, some (.int .i64)), (40, none), (41, none), (42, none), (43, none), (44, none), (45, none), (46, none), (47, none), (48, none), (49, none), (50, none), (51, none), (52, none), (53, none), (54, none), (55, none)] (.c .nil .nil)) .nil) (.k .nil))))) [(.slice listA listN listC)] w R = coadjutorref11_Plus.vc listA listN listC w R := by kernel_rfl
theorem coadjutorref11_Plus.calls (listA : Option Addr) (listN : Nat) (listC : Nat) {w : World} {R : Value → World → Prop} (h : coadjutorref11_Plus.vc listA listN listC w R) : Calls Try.prog 54 #[(.slice listA listN listC)] w (Ret R) :=
  calls_V fit Try.func54 (.lp [(2, none), (3, none), (5, some (.int .i64)), (10, none), (11, none), (12, none), (13, none), (14, none), (15, none), (16, none), (17, none), (18, none), (19, none), (20, none), (21, none), (22, none), (23, none), (24, none), (25, none)] (.c (.tk 0 (.tk 1 (.tk 2 (.tk 3 (.tk 4 (.tk 5 (.tk 6 (.tk 7 (.tk 8 (.tk 9 (.fin (.c .nil .nil)))))))))))) (.lp [(4, some (.slice)), (6, some (.int .i64)), (7, none), (8, none), (26, none), (27, none), (28, none), (29, none), (30, none), (31, none), (32, none), (33, none), (34, none), (35, none), (36, none), (37, none), (38, none), (39, none), (40, none), (41, none), (42, none), (43, none), (44, none), (45, none), (46, none), (47, none), (48, none), (49, none), (50, none), (51, none), (52, none), (53, none), (54, none), (55, none), (56, none), (57, none), (58, none), (59, none), (60, none), (61, none)] (.at_ 8 3 (.c (.lp [(7, some (.slice)), (8, some (.int .i64)), (40, none), (41, none), (42, none), (43, none), (44, none), (45, none), (46, none), (47, none), (48, none), (49, none), (50, none), (51, none), (52, none), (53, none), (54, none), (55, none)] (.c .nil .nil)) .nil) (.k .nil))))) (by rw [show (#[(.slice listA listN listC)] : Array Value).toList = [(.slice listA listN listC)] from rfl, coadjutorref11_Plus.vc_eq]; exact h)
/-- function 53 -/
def coadjutorref11_Scale.vc (vA : Option Addr) (vN : Nat) (vC : Nat) (n : Int) (shift : Int) (w : World) (R : Value → World → Prop) : Prop :=
  ∀ w1 : World, w1 = w.alloc (.cells #[] 3 (0, 0)) →
  ∃ vI : Option Addr → Nat → Nat → Int → Nat → World → Prop, (∃ vk_2 : Nat, vI (some (⟨w.heap.size, 0, none⟩ : Addr)) 0 0 0 vk_2 w1) ∧
  ∀ (jk : Nat → Value) (outA : Option Addr) (outN : Nat) (outC : Nat) (i : Int), ∀ (vk : Nat) (w2 : World), vI outA outN outC i vk w2 →
  (decide (i < ((vN : Nat) : Int)) = true →
  (0 ≤ i ∧ i < ((vN : Nat) : Int)) ∧ someV vA fun p =>
  ∃ (x20 : Int), w2.cell? (p.add (i.toNat * 1)) = some (.int .i64 x20) ∧
  Calls Try.prog 24 #[(.int .i64 x20), (.int .i64 n), (.int .i64 shift)] w2 (Ret fun v w3 => ∃ (x23 : Int), v = (.int .i64 x23) ∧
  ∀ w4 : World, w4 = w3.alloc (.cells #[(.int .i64 x23)] 3 (0, 0)) →
  ∃ (x25A : Option Addr), ∃ (x25N : Nat), ∃ (x25C : Nat), ∃ w5 : World, (Builtin.append_ #[29, 29] 29 #[(.slice outA outN outC), (.slice (some (⟨w3.heap.size, 0, none⟩ : Addr)) 1 1)]).run Try.prog w4 = .ok (.slice x25A x25N x25C) w5 ∧
  ∃ vk_1 : Nat, vk_1 < vk ∧ vI x25A x25N x25C (IntKind.i64.wrap (i + 1)) vk_1 w5)) ∧
  (decide (i < ((vN : Nat) : Int)) = false →
  R (.slice outA outN outC) w2)
theorem coadjutorref11_Scale.vc_eq (vA : Option Addr) (vN : Nat) (vC : Nat) (n : Int) (shift : Int) (w : World) (R : Value → World → Prop) : fnV Try.prog Try.f53 (.lp [(7, some (.slice)), (8, some (.int .i64)), (10, none), (11, none), (12, none), (13, none), (14, none), (15, none), (16, none), (17, none), (18, none), (19, none), (20, none), (21, none), (22, none), (23, none), (24, none), (25, none)] (.c .nil .nil)) [(.slice vA vN vC), (.int .i64 n), (.int .i64 shift)] w R = coadjutorref11_Scale.vc vA vN vC n shift w R := by kernel_rfl
theorem coadjutorref11_Scale.calls (vA : Option Addr) (vN : Nat) (vC : Nat) (n : Int) (shift : Int) {w : World} {R : Value → World → Prop} (h : coadjutorref11_Scale.vc vA vN vC n shift w R) : Calls Try.prog 53 #[(.slice vA vN vC), (.int .i64 n), (.int .i64 shift)] w (Ret R) :=
  calls_V fit Try.func53 (.lp [(7, some (.slice)), (8, some (.int .i64)), (10, none), (11, none), (12, none), (13, none), (14, none), (15, none), (16, none), (17, none), (18, none), (19, none), (20, none), (21, none), (22, none), (23, none), (24, none), (25, none)] (.c .nil .nil)) (by rw [show (#[(.slice vA vN vC), (.int .i64 n), (.int .i64 shift)] : Array Value).toList = [(.slice vA vN vC), (.int .i64 n), (.int .i64 shift)] from rfl, coadjutorref11_Scale.vc_eq]; exact h)
/-- function 67 -/
def coadjutorref01_Sum.vc (lA : Option Addr) (lN : Nat) (lC : Nat) (w : World) (R : Value → World → Prop) : Prop :=
  ∃ vI : Int → Int → Nat → World → Prop, (∃ vk_2 : Nat, vI 0 0 vk_2 w) ∧
  ∀ (jk : Nat → Value) (out : Int) (i : Int), ∀ (vk : Nat) (w1 : World), vI out i vk w1 →
  (decide (i < ((lN : Nat) : Int)) = true →
  (0 ≤ i ∧ i < ((lN : Nat) : Int)) ∧ someV lA fun p =>
  ∃ (x15 : Int), w1.cell? (p.add (i.toNat * 1)) = some (.int .i64 x15) ∧
  Calls Try.prog 19 #[(.int .i64 x15), (.int .i64 (-2305843009213693952)), (.int .i64 2305843009213693952)] w1 (Ret fun v w2 => ∃ (x16 : Int), v = (.int .i64 x16) ∧
  Calls Try.prog 19 #[(.int .i64 (IntKind.i64.wrap (out + x16))), (.int .i64 (-4611686018427387904)), (.int .i64 4611686018427387904)] w2 (Ret fun v_1 w3 => ∃ (x18 : Int), v_1 = (.int .i64 x18) ∧
  ∃ vk_1 : Nat, vk_1 < vk ∧ vI x18 (IntKind.i64.wrap (i + 1)) vk_1 w3))) ∧
  (decide (i < ((lN : Nat) : Int)) = false →
  R (.int .i64 out) w1)
theorem coadjutorref01_Sum.vc_eq (lA : Option Addr) (lN : Nat) (lC : Nat) (w : World) (R : Value → World → Prop) : fnV Try.prog Try.f67 (.lp [(3, some (.int .i64)), (4, some (.int .i64)), (5, none), (6, none), (7, none), (8, none), (9, none), (10, none), (11, none), (12, none), (13, none), (14, none), (15, none), (16, none), (17, none), (18, none)] (.c .nil .nil)) [(.slice lA lN lC)] w R = coadjutorref01_Sum.vc lA lN lC w R := by kernel_rfl
theorem coadjutorref01_Sum.calls (lA : Option Addr) (lN : Nat) (lC : Nat) {w : World} {R : Value → World → Prop} (h : coadjutorref01_Sum.vc lA lN lC w R) : Calls Try.prog 67 #[(.slice lA lN lC)] w (Ret R) :=
  calls_V fit Try.func67 (.lp [(3, some (.int .i64)), (4, some (.int .i64)), (5, none), (6, none), (7, none), (8, none), (9, none), (10, none), (11, none), (12, none), (13, none), (14, none), (15, none), (16, none), (17, none), (18, none)] (.c .nil .nil)) (by rw [show (#[(.slice lA lN lC)] : Array Value).toList = [(.slice lA lN lC)] from rfl, coadjutorref01_Sum.vc_eq]; exact h)
/-- function 66 -/
def coadjutorref01_Dot.vc (aA : Option Addr) (aN : Nat) (aC : Nat) (bA : Option Addr) (bN : Nat) (bC : Nat) (w : World) (R : Value → World → Prop) : Prop :=
  ∀ w1 : World, w1 = w.alloc (.cells #[] 3 (0, 0)) →
  ∃ vI : Option Addr → Nat → Nat → Int → Nat → World → Prop, (∃ vk_2 : Nat, vI (some (⟨w.heap.size, 0, none⟩ : Addr)) 0 0 0 vk_2 w1) ∧
  ∀ (jk : Nat → Value) (lA : Option Addr) (lN : Nat) (lC : Nat) (i : Int), ∀ (vk : Nat) (w2 : World), vI lA lN lC i vk w2 →
  (decide (i < ((aN : Nat) : Int)) = true →
  (decide (i < ((bN : Nat) : Int)) = true →
  ∃ vS : World → Prop, ∀ w3 : World, w3 = w2.drew → vS w3 ∧
  (0 ≤ i ∧ i < ((aN : Nat) : Int)) ∧ someV aA fun p =>
  ∃ (x24 : Int), (∀ w4, vS w4 → w4.cell? (p.add (i.toNat * 1)) = some (.int .i64 x24)) ∧
  (0 ≤ i ∧ i < ((bN : Nat) : Int)) ∧ someV bA fun p_1 =>
  ∃ (x29 : Int), (∀ w5, vS w5 → w5.cell? (p_1.add (i.toNat * 1)) = some (.int .i64 x29)) ∧
  Calls Try.prog 19 #[(.int .i64 x24), (.int .i64 (-1073741824)), (.int .i64 1073741824)] w3 (Ret fun v w6 => ∃ (x25 : Int), v = (.int .i64 x25) ∧
  vS w6 ∧
  Calls Try.prog 19 #[(.int .i64 x29), (.int .i64 (-1073741824)), (.int .i64 1073741824)] w6 (Ret fun v_1 w7 => ∃ (x30 : Int), v_1 = (.int .i64 x30) ∧
  vS w7 ∧
  ∀ w8 : World, w8 = w7.alloc (.cells #[(.int .i64 (IntKind.i64.wrap (x25 * x30)))] 3 (0, 0)) →
  vS w8 ∧
  ∃ (x33A : Option Addr), ∃ (x33N : Nat), ∃ (x33C : Nat), ∃ w9 : World, (Builtin.append_ #[29, 29] 29 #[(.slice lA lN lC), (.slice (some (⟨w7.heap.size, 0, none⟩ : Addr)) 1 1)]).run Try.prog w8 = .ok (.slice x33A x33N x33C) w9 ∧
  vS w9 ∧
  ∃ vk_1 : Nat, vk_1 < vk ∧ vI x33A x33N x33C (IntKind.i64.wrap (i + 1)) vk_1 w9))) ∧
  (decide (i < ((bN : Nat) : Int)) = false →
  Calls Try.prog 67 #[(.slice lA lN lC)] w2 (Ret fun v_2 w10 => ∃ (x35 : Int), v_2 = (.int .i64 x35) ∧
  R (.int .i64 x35) w10))) ∧
  (decide (i < ((aN : Nat) : Int)) = false →
  Calls Try.prog 67 #[(.slice lA lN lC)] w2 (Ret fun v_3 w11 => ∃ (x35_1 : Int), v_3 = (.int .i64 x35_1) ∧
  R (.int .i64 x35_1) w11))
theorem coadjutorref01_Dot.vc_eq (aA : Option Addr) (aN : Nat) (aC : Nat) (bA : Option Addr) (bN : Nat) (bC : Nat) (w : World) (R : Value → World → Prop) : fnV Try.prog Try.f66 (.lp [(5, some (.slice)), (6, some (.int .i64)), (8, none), (9, none), (10, none), (11, none), (12, none), (13, none), (14, none), (15, none), (16, none), (17, none), (18, none), (19, none), (20, none), (21, none), (22, none), (23, none), (24, none), (25, none), (26, none), (27, none), (28, none), (29, none), (30, none), (31, none), (32, none), (33, none)] (.at_ 3 4 (.c (.tk 0 (.tk 1 (.tk 2 (.tk 3 (.tk 4 (.tk 6 (.tk 7 (.tk 8 (.tk 9 (.alt 5 (.alt 10 (.tk 11 (.alt 12 (.alt 13 (.tk 14 (.fin .nil)) .nil) .nil)) .nil) .nil)))))))))) .nil) (.k .nil))) [(.slice aA aN aC), (.slice bA bN bC)] w R = coadjutorref01_Dot.vc aA aN aC bA bN bC w R := by kernel_rfl
theorem coadjutorref01_Dot.calls (aA : Option Addr) (aN : Nat) (aC : Nat) (bA : Option Addr) (bN : Nat) (bC : Nat) {w : World} {R : Value → World → Prop} (h : coadjutorref01_Dot.vc aA aN aC bA bN bC w R) : Calls Try.prog 66 #[(.slice aA aN aC), (.slice bA bN bC)] w (Ret R) :=
  calls_V fit Try.func66 (.lp [(5, some (.slice)), (6, some (.int .i64)), (8, none), (9, none), (10, none), (11, none), (12, none), (13, none), (14, none), (15, none), (16, none), (17, none), (18, none), (19, none), (20, none), (21, none), (22, none), (23, none), (24, none), (25, none), (26, none), (27, none), (28, none), (29, none), (30, none), (31, none), (32, none), (33, none)] (.at_ 3 4 (.c (.tk 0 (.tk 1 (.tk 2 (.tk 3 (.tk 4 (.tk 6 (.tk 7 (.tk 8 (.tk 9 (.alt 5 (.alt 10 (.tk 11 (.alt 12 (.alt 13 (.tk 14 (.fin .nil)) .nil) .nil)) .nil) .nil)))))))))) .nil) (.k .nil))) (by rw [show (#[(.slice aA aN aC), (.slice bA bN bC)] : Array Value).toList = [(.slice aA aN aC), (.slice bA bN bC)] from rfl, coadjutorref01_Dot.vc_eq]; exact h)
/-- function 46 -/
def coadjutorlaw11_ints.vc (aA : Option Addr) (aN : Nat) (aC : Nat) (bA : Option Addr) (bN : Nat) (bC : Nat) (w : World) (R : Value → World → Prop) : Prop :=
  ((((aN : Nat) : Int) != ((bN : Nat) : Int)) = true →
  R (.bool false) w) ∧
  ((((aN : Nat) : Int) != ((bN : Nat) : Int)) = false →
  ∃ vI : Int → Nat → World → Prop, (∃ vk_2 : Nat, vI 0 vk_2 w) ∧
  ∀ (jk : Nat → Value) (i : Int), ∀ (vk : Nat) (w1 : World), vI i vk w1 →
  (decide (i < ((aN : Nat) : Int)) = true →
  ∃ vS : World → Prop, ∀ w2 : World, w2 = w1.drew → vS w2 ∧
  (0 ≤ i ∧ i < ((aN : Nat) : Int)) ∧ someV aA fun p =>
  ∃ (x20 : Int), (∀ w3, vS w3 → w3.cell? (p.add (i.toNat * 1)) = some (.int .i64 x20)) ∧
  (0 ≤ i ∧ i < ((bN : Nat) : Int)) ∧ someV bA fun p_1 =>
  ∃ (x24 : Int), (∀ w4, vS w4 → w4.cell? (p_1.add (i.toNat * 1)) = some (.int .i64 x24)) ∧
  ((x20 != x24) = true →
  R (.bool false) w2) ∧
  ((x20 != x24) = false →
  ∃ vk_1 : Nat, vk_1 < vk ∧ vI (IntKind.i64.wrap (i + 1)) vk_1 w2)) ∧
  (decide (i < ((aN : Nat) : Int)) = false →
  R (.bool true) w1))
theorem coadjutorlaw11_ints.vc_eq (aA : Option Addr) (aN : Nat) (aC : Nat) (bA : Option Addr) (bN : Nat) (bC : Nat) (w : World) (R : Value → World → Prop) : fnV Try.prog Try.f46 (.c .nil (.lp [(4, none), (5, some (.int .i64)), (11, none), (12, none), (13, none), (14, none), (15, none), (16, none), (17, none), (18, none), (19, none), (20, none), (21, none), (22, none), (23, none), (24, none), (25, none)] (.c (.tk 0 (.tk 1 (.tk 2 (.tk 3 (.tk 4 (.tk 5 (.tk 6 (.tk 7 (.tk 8 (.fin (.c .nil .nil))))))))))) .nil))) [(.slice aA aN aC), (.slice bA bN bC)] w R = coadjutorlaw11_ints.vc aA aN aC bA bN bC w R := by kernel_rfl
theorem coadjutorlaw11_ints.calls (aA : Option Addr) (aN : Nat) (aC : Nat) (bA : Option Addr) (bN : Nat) (bC : Nat) {w : World} {R : Value → World → Prop} (h : coadjutorlaw11_ints.vc aA aN aC bA bN bC w R) : Calls Try.prog 46 #[(.slice aA aN aC), (.slice bA bN bC)] w (Ret R) :=
  calls_V fit Try.func46 (.c .nil (.lp [(4, none), (5, some (.int .i64)), (11, none), (12, none), (13, none), (14, none), (15, none), (16, none), (17, none), (18, none), (19, none), (20, none), (21, none), (22, none), (23, none), (24, none), (25, none)] (.c (.tk 0 (.tk 1 (.tk 2 (.tk 3 (.tk 4 (.tk 5 (.tk 6 (.tk 7 (.tk 8 (.fin (.c .nil .nil))))))))))) .nil))) (by rw [show (#[(.slice aA aN aC), (.slice bA bN bC)] : Array Value).toList = [(.slice aA aN aC), (.slice bA bN bC)] from rfl, coadjutorlaw11_ints.vc_eq]; exact h)
/-- function 42 -/
def coadjutorlaw11_awake.vc (w : World) (R : Value → World → Prop) : Prop :=
  Calls Try.prog 50 #[(.int .i64 2), (.int .i64 2), (.string (ByteArray.mk #[1, 2, 3, 4]))] w (Ret fun v w1 => ∃ (x8_00 : Int), ∃ (x8_01 : Int), ∃ (x8_02A : Option Addr), ∃ (x8_02N : Nat), ∃ (x8_02C : Nat), ∃ (x8_1 : Int), v = (.tuple #[(.agg #[(.int .i64 x8_00), (.int .i64 x8_01), (.slice x8_02A x8_02N x8_02C)]), (.int .i64 x8_1)]) ∧
  ∀ w2 : World, w2 = w1.alloc (.cells #[(.int .i64 0), (.int .i64 0), (.slice none 0 0)] 55 (0, 0)) →
  (((∃ u, w2.cell? (⟨w1.heap.size, 0, none⟩ : Addr) = some u) ∧ w2.frozen? (⟨w1.heap.size, 0, none⟩ : Addr) = false) ∧ ((∃ u, w2.cell? (⟨w1.heap.size, 1, none⟩ : Addr) = some u) ∧ w2.frozen? (⟨w1.heap.size, 1, none⟩ : Addr) = false) ∧ ((∃ u, w2.cell? (⟨w1.heap.size, 2, none⟩ : Addr) = some u) ∧ w2.frozen? (⟨w1.heap.size, 2, none⟩ : Addr) = false)) ∧ ∀ w3 : World, w3 = (((w2.setCell (⟨w1.heap.size, 0, none⟩ : Addr) (.int .i64 x8_00)).setCell (⟨w1.heap.size, 1, none⟩ : Addr) (.int .i64 x8_01)).setCell (⟨w1.heap.size, 2, none⟩ : Addr) (.slice x8_02A x8_02N x8_02C)) →
  ∃ (x120 : Int), ∃ (x121 : Int), ∃ (x122A : Option Addr), ∃ (x122N : Nat), ∃ (x122C : Nat), (w3.cell? (⟨w1.heap.size, 0, none⟩ : Addr) = some (.int .i64 x120) ∧ w3.cell? (⟨w1.heap.size, 1, none⟩ : Addr) = some (.int .i64 x121) ∧ w3.cell? (⟨w1.heap.size, 2, none⟩ : Addr) = some (.slice x122A x122N x122C)) ∧
  ∀ w4 : World, w4 = w3.alloc (.cells #[(.int .i64 5), (.int .i64 6)] 3 (0, 0)) →
  Calls Try.prog 45 #[(.agg #[(.int .i64 x120), (.int .i64 x121), (.slice x122A x122N x122C)]), (.slice (some (⟨w3.heap.size, 0, none⟩ : Addr)) 2 2), (.int .i64 0)] w4 (Ret fun v_1 w5 => ∃ (x14_0A : Option Addr), ∃ (x14_0N : Nat), ∃ (x14_0C : Nat), ∃ (x14_1 : Int), v_1 = (.tuple #[(.slice x14_0A x14_0N x14_0C), (.int .i64 x14_1)]) ∧
  ∀ w6 : World, w6 = w5.alloc (.cells #[(.int .i64 1), (.int .i64 2)] 3 (0, 0)) →
  ∀ w7 : World, w7 = w6.alloc (.cells #[(.int .i64 3), (.int .i64 4)] 3 (0, 0)) →
  ∀ w8 : World, w8 = w7.alloc (.cells #[(.slice (some (⟨w5.heap.size, 0, none⟩ : Addr)) 2 2), (.slice (some (⟨w6.heap.size, 0, none⟩ : Addr)) 2 2)] 29 (0, 0)) →
  Calls Try.prog 44 #[(.slice (some (⟨w7.heap.size, 0, none⟩ : Addr)) 2 2)] w8 (Ret fun v_2 w9 => ∃ (x21_0A : Option Addr), ∃ (x21_0N : Nat), ∃ (x21_0C : Nat), ∃ (x21_1 : Int), v_2 = (.tuple #[(.slice x21_0A x21_0N x21_0C), (.int .i64 x21_1)]) ∧
  ((x8_1 == (0 : Int)) = true →
  ((x14_1 == (0 : Int)) = true →
  ∀ w10 : World, w10 = w9.alloc (.cells #[(.int .i64 17), (.int .i64 39)] 3 (0, 0)) →
  Calls Try.prog 46 #[(.slice x14_0A x14_0N x14_0C), (.slice (some (⟨w9.heap.size, 0, none⟩ : Addr)) 2 2)] w10 (Ret fun v_3 w11 => ∃ (x33 : Bool), v_3 = (.bool x33) ∧
  (x33 = true →
  ((x21_1 == (0 : Int)) = true →
  ∀ w12 : World, w12 = w11.alloc (.cells #[(.int .i64 4), (.int .i64 6)] 3 (0, 0)) →
  Calls Try.prog 46 #[(.slice x21_0A x21_0N x21_0C), (.slice (some (⟨w11.heap.size, 0, none⟩ : Addr)) 2 2)] w12 (Ret fun v_4 w13 => ∃ (x42 : Bool), v_4 = (.bool x42) ∧
  (x42 = true →
  ∃ (x450 : Int), ∃ (x451 : Int), ∃ (x452A : Option Addr), ∃ (x452N : Nat), ∃ (x452C : Nat), (w13.cell? (⟨w1.heap.size, 0, none⟩ : Addr) = some (.int .i64 x450) ∧ w13.cell? (⟨w1.heap.size, 1, none⟩ : Addr) = some (.int .i64 x451) ∧ w13.cell? (⟨w1.heap.size, 2, none⟩ : Addr) = some (.slice x452A x452N x452C)) ∧
  Calls Try.prog 49 #[(.agg #[(.int .i64 x450), (.int .i64 x451), (.slice x452A x452N x452C)]), (.int .i64 1)] w13 (Ret fun v_5 w14 => ∃ (x46A : Option Addr), ∃ (x46N : Nat), ∃ (x46C : Nat), v_5 = (.slice x46A x46N x46C) ∧
  ∀ w15 : World, w15 = w14.alloc (.cells #[(.int .i64 3), (.int .i64 4)] 3 (0, 0)) →
  Calls Try.prog 46 #[(.slice x46A x46N x46C), (.slice (some (⟨w14.heap.size, 0, none⟩ : Addr)) 2 2)] w15 (Ret fun v_6 w16 => ∃ (x48 : Bool), v_6 = (.bool x48) ∧
  (x48 = true →
  ∃ (x510 : Int), ∃ (x511 : Int), ∃ (x512A : Option Addr), ∃ (x512N : Nat), ∃ (x512C : Nat), (w16.cell? (⟨w1.heap.size, 0, none⟩ : Addr) = some (.int .i64 x510) ∧ w16.cell? (⟨w1.heap.size, 1, none⟩ : Addr) = some (.int .i64 x511) ∧ w16.cell? (⟨w1.heap.size, 2, none⟩ : Addr) = some (.slice x512A x512N x512C)) ∧
  Calls Try.prog 43 #[(.agg #[(.int .i64 x510), (.int .i64 x511), (.slice x512A x512N x512C)])] w16 (Ret fun v_7 w17 => ∃ (x52 : Bool), v_7 = (.bool x52) ∧
  R (.bool x52) w17)) ∧
  (x48 = false →
  R (.bool false) w16)))) ∧
  (x42 = false →
  R (.bool false) w13))) ∧
  ((x21_1 == (0 : Int)) = false →
  R (.bool false) w11)) ∧
  (x33 = false →
  R (.bool false) w11))) ∧
  ((x14_1 == (0 : Int)) = false →
  R (.bool false) w9)) ∧
  ((x8_1 == (0 : Int)) = false →
  R (.bool false) w9))))
theorem coadjutorlaw11_awake.vc_eq (w : World) (R : Value → World → Prop) : fnV Try.prog Try.f42 (.at_ 4 2 (.at_ 4 6 (.at_ 4 11 (.at_ 4 15 (.at_ 4 20 (.at_ 4 26 .nil .nil) .nil) .nil) .nil) .nil) .nil) [] w R = coadjutorlaw11_awake.vc  w R := by kernel_rfl
theorem coadjutorlaw11_awake.calls {w : World} {R : Value → World → Prop} (h : coadjutorlaw11_awake.vc  w R) : Calls Try.prog 42 #[] w (Ret R) :=
  calls_V fit Try.func42 (.at_ 4 2 (.at_ 4 6 (.at_ 4 11 (.at_ 4 15 (.at_ 4 20 (.at_ 4 26 .nil .nil) .nil) .nil) .nil) .nil) .nil) (by rw [show (#[] : Array Value).toList = [] from rfl, coadjutorlaw11_awake.vc_eq]; exact h)
end Go.Proofs.Ytefidalhijpmdaa.Vc
