import Derived.Test.YtddgcdlljkooiaaVc
import Derived.Test.YtddgcdlljkooiaaH
import Derived.Test.YtddgcdlljkooiaaProg
import Derived.KernelRfl
set_option linter.unusedVariables false
set_option maxRecDepth 100000
namespace Go.Proofs.Ytddgcdlljkooiaa.Vc
open Go Go.Proofs Go.Proofs.Ytddgcdlljkooiaa.V
/-- function 53 -/
def num_Clamp.vc (x : Int) (low : Int) (high : Int) (w : World) (R : Value → World → Prop) : Prop :=
  (decide (x < low) = true →
  R (.int .i64 low) w) ∧
  (decide (x < low) = false →
  (decide (x > high) = true →
  R (.int .i64 high) w) ∧
  (decide (x > high) = false →
  R (.int .i64 x) w))
theorem num_Clamp.vc_eq (x : Int) (low : Int) (high : Int) (w : World) (R : Value → World → Prop) : fnV Try.prog Try.f53 (.c .nil (.c .nil .nil)) [(.int .i64 x), (.int .i64 low), (.int .i64 high)] w R = num_Clamp.vc x low high w R := by kernel_rfl
theorem num_Clamp.calls (x : Int) (low : Int) (high : Int) {w : World} {R : Value → World → Prop} (h : num_Clamp.vc x low high w R) : Calls Try.prog 53 #[(.int .i64 x), (.int .i64 low), (.int .i64 high)] w (Ret R) :=
  calls_V fit Try.func53 (.c .nil (.c .nil .nil)) (by rw [show (#[(.int .i64 x), (.int .i64 low), (.int .i64 high)] : Array Value).toList = [(.int .i64 x), (.int .i64 low), (.int .i64 high)] from rfl, num_Clamp.vc_eq]; exact h)
/-- function 62 -/
def num_Sat.vc (x : Int) (w : World) (R : Value → World → Prop) : Prop :=
  Calls Try.prog 53 #[(.int .i64 x), (.int .i64 (-32767)), (.int .i64 32767)] w (Ret fun v w1 => ∃ (x4 : Int), v = (.int .i64 x4) ∧
  R (.int .i64 x4) w1)
theorem num_Sat.vc_eq (x : Int) (w : World) (R : Value → World → Prop) : fnV Try.prog Try.f62 .nil [(.int .i64 x)] w R = num_Sat.vc x w R := by kernel_rfl
theorem num_Sat.calls (x : Int) {w : World} {R : Value → World → Prop} (h : num_Sat.vc x w R) : Calls Try.prog 62 #[(.int .i64 x)] w (Ret R) :=
  calls_V fit Try.func62 .nil (by rw [show (#[(.int .i64 x)] : Array Value).toList = [(.int .i64 x)] from rfl, num_Sat.vc_eq]; exact h)
/-- function 67 -/
def num_Shift.vc (x : Int) (n : Int) (w : World) (R : Value → World → Prop) : Prop :=
  (decide (n ≤ (0 : Int)) = true →
  R (.int .i64 x) w) ∧
  (decide (n ≤ (0 : Int)) = false →
  (decide (n ≥ (63 : Int)) = true →
  R (.int .i64 0) w) ∧
  (decide (n ≥ (63 : Int)) = false →
  ∃ vS : World → Prop, ∀ w1 : World, w1 = w.drew → vS w1 ∧
  0 ≤ n ∧
  0 ≤ (IntKind.i64.wrap (n - 1)) ∧
  R (.int .i64 (IntKind.i64.wrap ((Int.fdiv x (2 ^ (min n.toNat IntKind.i64.bits))) + (Go.bits .and .i64 (Int.fdiv x (2 ^ (min (IntKind.i64.wrap (n - 1)).toNat IntKind.i64.bits))) 1)))) w1))
theorem num_Shift.vc_eq (x : Int) (n : Int) (w : World) (R : Value → World → Prop) : fnV Try.prog Try.f67 (.c .nil (.c .nil (.tk 0 (.tk 1 (.tk 2 (.tk 3 (.tk 4 (.tk 5 (.tk 6 (.tk 7 (.tk 8 (.tk 9 (.fin .nil))))))))))))) [(.int .i64 x), (.int .i64 n)] w R = num_Shift.vc x n w R := by kernel_rfl
theorem num_Shift.calls (x : Int) (n : Int) {w : World} {R : Value → World → Prop} (h : num_Shift.vc x n w R) : Calls Try.prog 67 #[(.int .i64 x), (.int .i64 n)] w (Ret R) :=
  calls_V fit Try.func67 (.c .nil (.c .nil (.tk 0 (.tk 1 (.tk 2 (.tk 3 (.tk 4 (.tk 5 (.tk 6 (.tk 7 (.tk 8 (.tk 9 (.fin .nil))))))))))))) (by rw [show (#[(.int .i64 x), (.int .i64 n)] : Array Value).toList = [(.int .i64 x), (.int .i64 n)] from rfl, num_Shift.vc_eq]; exact h)
/-- function 51 -/
def num_Mul.vc (va : Int) (b : Int) (n : Int) (w : World) (R : Value → World → Prop) : Prop :=
  Calls Try.prog 68 #[(.int .i64 va), (.int .i64 b)] w (Ret fun v w1 => ∃ (x9 : Int), v = (.int .i64 x9) ∧
  Calls Try.prog 67 #[(.int .i64 x9), (.int .i64 n)] w1 (Ret fun v_1 w2 => ∃ (x11 : Int), v_1 = (.int .i64 x11) ∧
  Calls Try.prog 62 #[(.int .i64 x11)] w2 (Ret fun v_2 w3 => ∃ (x12 : Int), v_2 = (.int .i64 x12) ∧
  R (.int .i64 x12) w3)))
theorem num_Mul.vc_eq (va : Int) (b : Int) (n : Int) (w : World) (R : Value → World → Prop) : fnV Try.prog Try.f51 .nil [(.int .i64 va), (.int .i64 b), (.int .i64 n)] w R = num_Mul.vc va b n w R := by kernel_rfl
theorem num_Mul.calls (va : Int) (b : Int) (n : Int) {w : World} {R : Value → World → Prop} (h : num_Mul.vc va b n w R) : Calls Try.prog 51 #[(.int .i64 va), (.int .i64 b), (.int .i64 n)] w (Ret R) :=
  calls_V fit Try.func51 .nil (by rw [show (#[(.int .i64 va), (.int .i64 b), (.int .i64 n)] : Array Value).toList = [(.int .i64 va), (.int .i64 b), (.int .i64 n)] from rfl, num_Mul.vc_eq]; exact h)
/-- function 63 -/
def num_Sqrt.vc (n : Int) (w : World) (R : Value → World → Prop) : Prop :=
  (decide (n ≤ (0 : Int)) = true →
  R (.int .i64 0) w) ∧
  (decide (n ≤ (0 : Int)) = false →
  (2 : Int) ≠ 0 ∧
  ∃ vI : Int → Int → Nat → World → Prop, (∃ vk_2 : Nat, vI n (IntKind.i64.wrap ((IntKind.i64.wrap (Int.tdiv n 2)) + (Go.bits .and .i64 n 1))) vk_2 w) ∧
  ∀ (jk : Nat → Value) (x : Int) (y : Int), ∀ (vk : Nat) (w1 : World), vI x y vk w1 →
  (decide (y < x) = true →
  y ≠ 0 ∧
  (2 : Int) ≠ 0 ∧
  ∃ vk_1 : Nat, vk_1 < vk ∧ vI y (IntKind.i64.wrap (Int.tdiv (IntKind.i64.wrap (y + (IntKind.i64.wrap (Int.tdiv n y)))) 2)) vk_1 w1) ∧
  (decide (y < x) = false →
  R (.int .i64 x) w1))
theorem num_Sqrt.vc_eq (n : Int) (w : World) (R : Value → World → Prop) : fnV Try.prog Try.f63 (.c .nil (.lp [(3, some (.int .i64)), (4, some (.int .i64)), (13, none), (14, none), (15, none), (16, none), (17, none), (18, none), (19, none), (20, none), (21, none), (22, none)] (.c .nil .nil))) [(.int .i64 n)] w R = num_Sqrt.vc n w R := by kernel_rfl
theorem num_Sqrt.calls (n : Int) {w : World} {R : Value → World → Prop} (h : num_Sqrt.vc n w R) : Calls Try.prog 63 #[(.int .i64 n)] w (Ret R) :=
  calls_V fit Try.func63 (.c .nil (.lp [(3, some (.int .i64)), (4, some (.int .i64)), (13, none), (14, none), (15, none), (16, none), (17, none), (18, none), (19, none), (20, none), (21, none), (22, none)] (.c .nil .nil))) (by rw [show (#[(.int .i64 n)] : Array Value).toList = [(.int .i64 n)] from rfl, num_Sqrt.vc_eq]; exact h)
/-- function 54 -/
def num_Div.vc (va : Int) (b : Int) (w : World) (R : Value → World → Prop) : Prop :=
  ((b == (0 : Int)) = true →
  R (.int .i64 0) w) ∧
  ((b == (0 : Int)) = false →
  ((b == (-1 : Int)) = true →
  R (.int .i64 (if (IntKind.i64.wrap (0 - (IntKind.i64.wrap (va + 1)))) > (IntKind.i64.wrap (0 - va)) then (IntKind.i64.wrap (0 - (IntKind.i64.wrap (va + 1)))) else (IntKind.i64.wrap (0 - va)))) w) ∧
  ((b == (-1 : Int)) = false →
  b ≠ 0 ∧
  b ≠ 0 ∧
  (((Int.tmod va b) != (0 : Int)) = true →
  ((!((decide (va < (0 : Int))) == (decide (b < (0 : Int))))) = true →
  R (.int .i64 (IntKind.i64.wrap ((IntKind.i64.wrap (Int.tdiv va b)) - 1))) w) ∧
  ((!((decide (va < (0 : Int))) == (decide (b < (0 : Int))))) = false →
  R (.int .i64 (IntKind.i64.wrap (Int.tdiv va b))) w)) ∧
  (((Int.tmod va b) != (0 : Int)) = false →
  R (.int .i64 (IntKind.i64.wrap (Int.tdiv va b))) w)))
theorem num_Div.vc_eq (va : Int) (b : Int) (w : World) (R : Value → World → Prop) : fnV Try.prog Try.f54 (.c .nil (.c .nil (.at_ 6 4 (.c .nil .nil) (.k .nil)))) [(.int .i64 va), (.int .i64 b)] w R = num_Div.vc va b w R := by kernel_rfl
theorem num_Div.calls (va : Int) (b : Int) {w : World} {R : Value → World → Prop} (h : num_Div.vc va b w R) : Calls Try.prog 54 #[(.int .i64 va), (.int .i64 b)] w (Ret R) :=
  calls_V fit Try.func54 (.c .nil (.c .nil (.at_ 6 4 (.c .nil .nil) (.k .nil)))) (by rw [show (#[(.int .i64 va), (.int .i64 b)] : Array Value).toList = [(.int .i64 va), (.int .i64 b)] from rfl, num_Div.vc_eq]; exact h)
/-- function 68 -/
def num_product.vc (va : Int) (b : Int) (w : World) (R : Value → World → Prop) : Prop :=
  Calls Try.prog 53 #[(.int .i64 va), (.int .i64 (-1073741824)), (.int .i64 1073741824)] w (Ret fun v w1 => ∃ (x6 : Int), v = (.int .i64 x6) ∧
  Calls Try.prog 53 #[(.int .i64 b), (.int .i64 (-1073741824)), (.int .i64 1073741824)] w1 (Ret fun v_1 w2 => ∃ (x8 : Int), v_1 = (.int .i64 x8) ∧
  R (.int .i64 (IntKind.i64.wrap (x6 * x8))) w2))
theorem num_product.vc_eq (va : Int) (b : Int) (w : World) (R : Value → World → Prop) : fnV Try.prog Try.f68 .nil [(.int .i64 va), (.int .i64 b)] w R = num_product.vc va b w R := by kernel_rfl
theorem num_product.calls (va : Int) (b : Int) {w : World} {R : Value → World → Prop} (h : num_product.vc va b w R) : Calls Try.prog 68 #[(.int .i64 va), (.int .i64 b)] w (Ret R) :=
  calls_V fit Try.func68 .nil (by rw [show (#[(.int .i64 va), (.int .i64 b)] : Array Value).toList = [(.int .i64 va), (.int .i64 b)] from rfl, num_product.vc_eq]; exact h)
/-- function 72 -/
def num_Sum.vc (listA : Option Addr) (listN : Nat) (listC : Nat) (w : World) (R : Value → World → Prop) : Prop :=
  ∃ vI : Int → Int → Nat → World → Prop, (∃ vk_2 : Nat, vI 0 0 vk_2 w) ∧
  ∀ (jk : Nat → Value) (out : Int) (x8 : Int), ∀ (vk : Nat) (w1 : World), vI out x8 vk w1 →
  (decide (x8 < ((listN : Nat) : Int)) = true →
  (0 ≤ x8 ∧ x8 < ((listN : Nat) : Int)) ∧ someV listA fun p =>
  ∃ (x11 : Int), w1.cell? (p.add (x8.toNat * 1)) = some (.int .i64 x11) ∧
  Calls Try.prog 53 #[(.int .i64 x11), (.int .i64 (-2305843009213693952)), (.int .i64 2305843009213693952)] w1 (Ret fun v w2 => ∃ (x14 : Int), v = (.int .i64 x14) ∧
  Calls Try.prog 53 #[(.int .i64 (IntKind.i64.wrap (out + x14))), (.int .i64 (-4611686018427387904)), (.int .i64 4611686018427387904)] w2 (Ret fun v_1 w3 => ∃ (x16 : Int), v_1 = (.int .i64 x16) ∧
  ∃ vk_1 : Nat, vk_1 < vk ∧ vI x16 (IntKind.i64.wrap (x8 + 1)) vk_1 w3))) ∧
  (decide (x8 < ((listN : Nat) : Int)) = false →
  R (.int .i64 out) w1)
theorem num_Sum.vc_eq (listA : Option Addr) (listN : Nat) (listC : Nat) (w : World) (R : Value → World → Prop) : fnV Try.prog Try.f72 (.lp [(3, some (.int .i64)), (5, none), (8, some (.int .i64)), (9, none), (10, none), (11, none), (12, none), (13, none), (14, none), (15, none), (16, none), (17, none)] (.c .nil .nil)) [(.slice listA listN listC)] w R = num_Sum.vc listA listN listC w R := by kernel_rfl
theorem num_Sum.calls (listA : Option Addr) (listN : Nat) (listC : Nat) {w : World} {R : Value → World → Prop} (h : num_Sum.vc listA listN listC w R) : Calls Try.prog 72 #[(.slice listA listN listC)] w (Ret R) :=
  calls_V fit Try.func72 (.lp [(3, some (.int .i64)), (5, none), (8, some (.int .i64)), (9, none), (10, none), (11, none), (12, none), (13, none), (14, none), (15, none), (16, none), (17, none)] (.c .nil .nil)) (by rw [show (#[(.slice listA listN listC)] : Array Value).toList = [(.slice listA listN listC)] from rfl, num_Sum.vc_eq]; exact h)
/-- function 64 -/
def num_Mean.vc (listA : Option Addr) (listN : Nat) (listC : Nat) (w : World) (R : Value → World → Prop) : Prop :=
  Calls Try.prog 72 #[(.slice listA listN listC)] w (Ret fun v w1 => ∃ (x4 : Int), v = (.int .i64 x4) ∧
  Calls Try.prog 54 #[(.int .i64 x4), (.int .i64 ((listN : Nat) : Int))] w1 (Ret fun v_1 w2 => ∃ (x7 : Int), v_1 = (.int .i64 x7) ∧
  R (.int .i64 x7) w2))
theorem num_Mean.vc_eq (listA : Option Addr) (listN : Nat) (listC : Nat) (w : World) (R : Value → World → Prop) : fnV Try.prog Try.f64 .nil [(.slice listA listN listC)] w R = num_Mean.vc listA listN listC w R := by kernel_rfl
theorem num_Mean.calls (listA : Option Addr) (listN : Nat) (listC : Nat) {w : World} {R : Value → World → Prop} (h : num_Mean.vc listA listN listC w R) : Calls Try.prog 64 #[(.slice listA listN listC)] w (Ret R) :=
  calls_V fit Try.func64 .nil (by rw [show (#[(.slice listA listN listC)] : Array Value).toList = [(.slice listA listN listC)] from rfl, num_Mean.vc_eq]; exact h)
/-- function 55 -/
def coadjutorref01_Clamp.vc (x : Int) (low : Int) (high : Int) (w : World) (R : Value → World → Prop) : Prop :=
  (decide (x < low) = true →
  R (.int .i64 low) w) ∧
  (decide (x < low) = false →
  (decide (x > high) = true →
  R (.int .i64 high) w) ∧
  (decide (x > high) = false →
  R (.int .i64 x) w))
theorem coadjutorref01_Clamp.vc_eq (x : Int) (low : Int) (high : Int) (w : World) (R : Value → World → Prop) : fnV Try.prog Try.f55 (.c .nil (.c .nil .nil)) [(.int .i64 x), (.int .i64 low), (.int .i64 high)] w R = coadjutorref01_Clamp.vc x low high w R := by kernel_rfl
theorem coadjutorref01_Clamp.calls (x : Int) (low : Int) (high : Int) {w : World} {R : Value → World → Prop} (h : coadjutorref01_Clamp.vc x low high w R) : Calls Try.prog 55 #[(.int .i64 x), (.int .i64 low), (.int .i64 high)] w (Ret R) :=
  calls_V fit Try.func55 (.c .nil (.c .nil .nil)) (by rw [show (#[(.int .i64 x), (.int .i64 low), (.int .i64 high)] : Array Value).toList = [(.int .i64 x), (.int .i64 low), (.int .i64 high)] from rfl, coadjutorref01_Clamp.vc_eq]; exact h)
/-- function 65 -/
def coadjutorref01_Sat.vc (x : Int) (w : World) (R : Value → World → Prop) : Prop :=
  Calls Try.prog 55 #[(.int .i64 x), (.int .i64 (-32767)), (.int .i64 32767)] w (Ret fun v w1 => ∃ (x4 : Int), v = (.int .i64 x4) ∧
  R (.int .i64 x4) w1)
theorem coadjutorref01_Sat.vc_eq (x : Int) (w : World) (R : Value → World → Prop) : fnV Try.prog Try.f65 .nil [(.int .i64 x)] w R = coadjutorref01_Sat.vc x w R := by kernel_rfl
theorem coadjutorref01_Sat.calls (x : Int) {w : World} {R : Value → World → Prop} (h : coadjutorref01_Sat.vc x w R) : Calls Try.prog 65 #[(.int .i64 x)] w (Ret R) :=
  calls_V fit Try.func65 .nil (by rw [show (#[(.int .i64 x)] : Array Value).toList = [(.int .i64 x)] from rfl, coadjutorref01_Sat.vc_eq]; exact h)
/-- function 69 -/
def coadjutorref01_Shift.vc (x : Int) (n : Int) (w : World) (R : Value → World → Prop) : Prop :=
  (decide (n ≥ (63 : Int)) = true →
  R (.int .i64 0) w) ∧
  (decide (n ≥ (63 : Int)) = false →
  ∃ vI : Int → Int → Int → Nat → World → Prop, (∃ vk_2 : Nat, vI x 0 0 vk_2 w) ∧
  ∀ (jk : Nat → Value) (x_1 : Int) (last : Int) (i : Int), ∀ (vk : Nat) (w1 : World), vI x_1 last i vk w1 →
  (decide (i < n) = true →
  (2 : Int) ≠ 0 ∧
  ∃ vk_1 : Nat, vk_1 < vk ∧ vI (IntKind.i64.wrap (Int.tdiv (IntKind.i64.wrap (x_1 - (Go.bits .and .i64 x_1 1))) 2)) (Go.bits .and .i64 x_1 1) (IntKind.i64.wrap (i + 1)) vk_1 w1) ∧
  (decide (i < n) = false →
  R (.int .i64 (IntKind.i64.wrap (x_1 + last))) w1))
theorem coadjutorref01_Shift.vc_eq (x : Int) (n : Int) (w : World) (R : Value → World → Prop) : fnV Try.prog Try.f69 (.c .nil (.lp [(0, some (.int .i64)), (5, some (.int .i64)), (6, some (.int .i64)), (9, none), (10, none), (11, none), (12, none), (13, none), (14, none), (15, none), (16, none), (17, none), (18, none), (19, none)] (.c .nil .nil))) [(.int .i64 x), (.int .i64 n)] w R = coadjutorref01_Shift.vc x n w R := by kernel_rfl
theorem coadjutorref01_Shift.calls (x : Int) (n : Int) {w : World} {R : Value → World → Prop} (h : coadjutorref01_Shift.vc x n w R) : Calls Try.prog 69 #[(.int .i64 x), (.int .i64 n)] w (Ret R) :=
  calls_V fit Try.func69 (.c .nil (.lp [(0, some (.int .i64)), (5, some (.int .i64)), (6, some (.int .i64)), (9, none), (10, none), (11, none), (12, none), (13, none), (14, none), (15, none), (16, none), (17, none), (18, none), (19, none)] (.c .nil .nil))) (by rw [show (#[(.int .i64 x), (.int .i64 n)] : Array Value).toList = [(.int .i64 x), (.int .i64 n)] from rfl, coadjutorref01_Shift.vc_eq]; exact h)
/-- function 57 -/
def coadjutorref01_Mul.vc (va : Int) (b : Int) (n : Int) (w : World) (R : Value → World → Prop) : Prop :=
  Calls Try.prog 55 #[(.int .i64 va), (.int .i64 (-1073741824)), (.int .i64 1073741824)] w (Ret fun v w1 => ∃ (x8 : Int), v = (.int .i64 x8) ∧
  Calls Try.prog 55 #[(.int .i64 b), (.int .i64 (-1073741824)), (.int .i64 1073741824)] w1 (Ret fun v_1 w2 => ∃ (x10 : Int), v_1 = (.int .i64 x10) ∧
  Calls Try.prog 69 #[(.int .i64 (IntKind.i64.wrap (x8 * x10))), (.int .i64 n)] w2 (Ret fun v_2 w3 => ∃ (x13 : Int), v_2 = (.int .i64 x13) ∧
  Calls Try.prog 65 #[(.int .i64 x13)] w3 (Ret fun v_3 w4 => ∃ (x14 : Int), v_3 = (.int .i64 x14) ∧
  R (.int .i64 x14) w4))))
theorem coadjutorref01_Mul.vc_eq (va : Int) (b : Int) (n : Int) (w : World) (R : Value → World → Prop) : fnV Try.prog Try.f57 .nil [(.int .i64 va), (.int .i64 b), (.int .i64 n)] w R = coadjutorref01_Mul.vc va b n w R := by kernel_rfl
theorem coadjutorref01_Mul.calls (va : Int) (b : Int) (n : Int) {w : World} {R : Value → World → Prop} (h : coadjutorref01_Mul.vc va b n w R) : Calls Try.prog 57 #[(.int .i64 va), (.int .i64 b), (.int .i64 n)] w (Ret R) :=
  calls_V fit Try.func57 .nil (by rw [show (#[(.int .i64 va), (.int .i64 b), (.int .i64 n)] : Array Value).toList = [(.int .i64 va), (.int .i64 b), (.int .i64 n)] from rfl, coadjutorref01_Mul.vc_eq]; exact h)
/-- function 66 -/
def coadjutorref01_Sqrt.vc (n : Int) (w : World) (R : Value → World → Prop) : Prop :=
  ∃ vI : Int → Int → Nat → World → Prop, (∃ vk_2 : Nat, vI 0 31 vk_2 w) ∧
  ∀ (jk : Nat → Value) (out : Int) (vk_3 : Int), ∀ (vk : Nat) (w1 : World), vI out vk_3 vk w1 →
  (decide (vk_3 ≥ (0 : Int)) = true →
  0 ≤ vk_3 ∧
  (decide ((IntKind.i64.wrap (out + (IntKind.i64.wrap (1 * 2 ^ (min vk_3.toNat IntKind.i64.bits))))) ≤ (3037000499 : Int)) = true →
  (decide ((IntKind.i64.wrap ((IntKind.i64.wrap (out + (IntKind.i64.wrap (1 * 2 ^ (min vk_3.toNat IntKind.i64.bits))))) * (IntKind.i64.wrap (out + (IntKind.i64.wrap (1 * 2 ^ (min vk_3.toNat IntKind.i64.bits))))))) ≤ n) = true →
  ∃ vk_1 : Nat, vk_1 < vk ∧ vI (IntKind.i64.wrap (out + (IntKind.i64.wrap (1 * 2 ^ (min vk_3.toNat IntKind.i64.bits))))) (IntKind.i64.wrap (vk_3 - 1)) vk_1 w1) ∧
  (decide ((IntKind.i64.wrap ((IntKind.i64.wrap (out + (IntKind.i64.wrap (1 * 2 ^ (min vk_3.toNat IntKind.i64.bits))))) * (IntKind.i64.wrap (out + (IntKind.i64.wrap (1 * 2 ^ (min vk_3.toNat IntKind.i64.bits))))))) ≤ n) = false →
  ∃ vk_1 : Nat, vk_1 < vk ∧ vI out (IntKind.i64.wrap (vk_3 - 1)) vk_1 w1)) ∧
  (decide ((IntKind.i64.wrap (out + (IntKind.i64.wrap (1 * 2 ^ (min vk_3.toNat IntKind.i64.bits))))) ≤ (3037000499 : Int)) = false →
  ∃ vk_1 : Nat, vk_1 < vk ∧ vI out (IntKind.i64.wrap (vk_3 - 1)) vk_1 w1)) ∧
  (decide (vk_3 ≥ (0 : Int)) = false →
  R (.int .i64 out) w1)
theorem coadjutorref01_Sqrt.vc_eq (n : Int) (w : World) (R : Value → World → Prop) : fnV Try.prog Try.f66 (.lp [(3, some (.int .i64)), (4, some (.int .i64)), (5, none), (6, none), (7, none), (8, none), (9, none), (10, none), (11, none), (12, none), (13, none), (14, none), (15, none), (16, none), (17, none), (18, none), (19, none), (20, none), (21, none), (22, none), (23, none)] (.c (.at_ 6 2 (.c .nil .nil) (.k .nil)) .nil)) [(.int .i64 n)] w R = coadjutorref01_Sqrt.vc n w R := by kernel_rfl
theorem coadjutorref01_Sqrt.calls (n : Int) {w : World} {R : Value → World → Prop} (h : coadjutorref01_Sqrt.vc n w R) : Calls Try.prog 66 #[(.int .i64 n)] w (Ret R) :=
  calls_V fit Try.func66 (.lp [(3, some (.int .i64)), (4, some (.int .i64)), (5, none), (6, none), (7, none), (8, none), (9, none), (10, none), (11, none), (12, none), (13, none), (14, none), (15, none), (16, none), (17, none), (18, none), (19, none), (20, none), (21, none), (22, none), (23, none)] (.c (.at_ 6 2 (.c .nil .nil) (.k .nil)) .nil)) (by rw [show (#[(.int .i64 n)] : Array Value).toList = [(.int .i64 n)] from rfl, coadjutorref01_Sqrt.vc_eq]; exact h)
/-- function 56 -/
def coadjutorref01_Div.vc (va : Int) (b : Int) (w : World) (R : Value → World → Prop) : Prop :=
  ((b == (0 : Int)) = true →
  R (.int .i64 0) w) ∧
  ((b == (0 : Int)) = false →
  ((b == (-1 : Int)) = true →
  ((va == (-9223372036854775808 : Int)) = true →
  R (.int .i64 9223372036854775807) w) ∧
  ((va == (-9223372036854775808 : Int)) = false →
  R (.int .i64 (IntKind.i64.wrap (0 - va))) w)) ∧
  ((b == (-1 : Int)) = false →
  b ≠ 0 ∧
  b ≠ 0 ∧
  (((Int.tmod va b) != (0 : Int)) = true →
  ((!((decide (va < (0 : Int))) == (decide (b < (0 : Int))))) = true →
  R (.int .i64 (IntKind.i64.wrap ((IntKind.i64.wrap (Int.tdiv va b)) - 1))) w) ∧
  ((!((decide (va < (0 : Int))) == (decide (b < (0 : Int))))) = false →
  R (.int .i64 (IntKind.i64.wrap (Int.tdiv va b))) w)) ∧
  (((Int.tmod va b) != (0 : Int)) = false →
  R (.int .i64 (IntKind.i64.wrap (Int.tdiv va b))) w)))
theorem coadjutorref01_Div.vc_eq (va : Int) (b : Int) (w : World) (R : Value → World → Prop) : fnV Try.prog Try.f56 (.c .nil (.c (.c .nil .nil) (.at_ 8 4 (.c .nil .nil) (.k .nil)))) [(.int .i64 va), (.int .i64 b)] w R = coadjutorref01_Div.vc va b w R := by kernel_rfl
theorem coadjutorref01_Div.calls (va : Int) (b : Int) {w : World} {R : Value → World → Prop} (h : coadjutorref01_Div.vc va b w R) : Calls Try.prog 56 #[(.int .i64 va), (.int .i64 b)] w (Ret R) :=
  calls_V fit Try.func56 (.c .nil (.c (.c .nil .nil) (.at_ 8 4 (.c .nil .nil) (.k .nil)))) (by rw [show (#[(.int .i64 va), (.int .i64 b)] : Array Value).toList = [(.int .i64 va), (.int .i64 b)] from rfl, coadjutorref01_Div.vc_eq]; exact h)
end Go.Proofs.Ytddgcdlljkooiaa.Vc
