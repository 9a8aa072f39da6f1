import Derived.Test.YtefidalhijpmdaaVc
import Derived.Test.YtefidalhijpmdaaH
import Derived.Test.YtefidalhijpmdaaProg
import Derived.KernelRfl
set_option linter.unusedVariables false
set_option maxRecDepth 100000
namespace Go.Proofs.Ytefidalhijpmdaa.Vc
open Go Go.Proofs Go.Proofs.Ytefidalhijpmdaa.V
/-- function 18 -/
def num_Clamp.vc (x : Int) (low : Int) (high : Int) (w : World) (R : Value → World → Prop) : Prop :=
  (decide (x < low) = true →
  R (.int .i64 low) w) ∧
  (decide (x < low) = false →
  (decide (x > high) = true →
  R (.int .i64 high) w) ∧
  (decide (x > high) = false →
  R (.int .i64 x) w))
theorem num_Clamp.vc_eq (x : Int) (low : Int) (high : Int) (w : World) (R : Value → World → Prop) : fnV Try.prog Try.f18 (.c .nil (.c .nil .nil)) [(.int .i64 x), (.int .i64 low), (.int .i64 high)] w R = num_Clamp.vc x low high w R := by kernel_rfl
theorem num_Clamp.calls (x : Int) (low : Int) (high : Int) {w : World} {R : Value → World → Prop} (h : num_Clamp.vc x low high w R) : Calls Try.prog 18 #[(.int .i64 x), (.int .i64 low), (.int .i64 high)] w (Ret R) :=
  calls_V fit Try.func18 (.c .nil (.c .nil .nil)) (by rw [show (#[(.int .i64 x), (.int .i64 low), (.int .i64 high)] : Array Value).toList = [(.int .i64 x), (.int .i64 low), (.int .i64 high)] from rfl, num_Clamp.vc_eq]; exact h)
/-- function 20 -/
def num_Sat.vc (x : Int) (w : World) (R : Value → World → Prop) : Prop :=
  Calls Try.prog 18 #[(.int .i64 x), (.int .i64 (-32767)), (.int .i64 32767)] w (Ret fun v w1 => ∃ (x4 : Int), v = (.int .i64 x4) ∧
  R (.int .i64 x4) w1)
theorem num_Sat.vc_eq (x : Int) (w : World) (R : Value → World → Prop) : fnV Try.prog Try.f20 .nil [(.int .i64 x)] w R = num_Sat.vc x w R := by kernel_rfl
theorem num_Sat.calls (x : Int) {w : World} {R : Value → World → Prop} (h : num_Sat.vc x w R) : Calls Try.prog 20 #[(.int .i64 x)] w (Ret R) :=
  calls_V fit Try.func20 .nil (by rw [show (#[(.int .i64 x)] : Array Value).toList = [(.int .i64 x)] from rfl, num_Sat.vc_eq]; exact h)
/-- function 15 -/
def num_Shift.vc (x : Int) (n : Int) (w : World) (R : Value → World → Prop) : Prop :=
  (decide (n ≤ (0 : Int)) = true →
  R (.int .i64 x) w) ∧
  (decide (n ≤ (0 : Int)) = false →
  (decide (n ≥ (63 : Int)) = true →
  R (.int .i64 0) w) ∧
  (decide (n ≥ (63 : Int)) = false →
  ∃ vS : World → Prop, ∀ w1 : World, w1 = w.drew → vS w1 ∧
  0 ≤ n ∧
  0 ≤ (IntKind.i64.wrap (n - 1)) ∧
  R (.int .i64 (IntKind.i64.wrap ((Int.fdiv x (2 ^ (min n.toNat IntKind.i64.bits))) + (Go.bits .and .i64 (Int.fdiv x (2 ^ (min (IntKind.i64.wrap (n - 1)).toNat IntKind.i64.bits))) 1)))) w1))
theorem num_Shift.vc_eq (x : Int) (n : Int) (w : World) (R : Value → World → Prop) : fnV Try.prog Try.f15 (.c .nil (.c .nil (.tk 0 (.tk 1 (.tk 2 (.tk 3 (.tk 4 (.tk 5 (.tk 6 (.tk 7 (.tk 8 (.tk 9 (.fin .nil))))))))))))) [(.int .i64 x), (.int .i64 n)] w R = num_Shift.vc x n w R := by kernel_rfl
theorem num_Shift.calls (x : Int) (n : Int) {w : World} {R : Value → World → Prop} (h : num_Shift.vc x n w R) : Calls Try.prog 15 #[(.int .i64 x), (.int .i64 n)] w (Ret R) :=
  calls_V fit Try.func15 (.c .nil (.c .nil (.tk 0 (.tk 1 (.tk 2 (.tk 3 (.tk 4 (.tk 5 (.tk 6 (.tk 7 (.tk 8 (.tk 9 (.fin .nil))))))))))))) (by rw [show (#[(.int .i64 x), (.int .i64 n)] : Array Value).toList = [(.int .i64 x), (.int .i64 n)] from rfl, num_Shift.vc_eq]; exact h)
/-- function 23 -/
def num_Mul.vc (va : Int) (b : Int) (n : Int) (w : World) (R : Value → World → Prop) : Prop :=
  Calls Try.prog 59 #[(.int .i64 va), (.int .i64 b)] w (Ret fun v w1 => ∃ (x9 : Int), v = (.int .i64 x9) ∧
  Calls Try.prog 15 #[(.int .i64 x9), (.int .i64 n)] w1 (Ret fun v_1 w2 => ∃ (x11 : Int), v_1 = (.int .i64 x11) ∧
  Calls Try.prog 20 #[(.int .i64 x11)] w2 (Ret fun v_2 w3 => ∃ (x12 : Int), v_2 = (.int .i64 x12) ∧
  R (.int .i64 x12) w3)))
theorem num_Mul.vc_eq (va : Int) (b : Int) (n : Int) (w : World) (R : Value → World → Prop) : fnV Try.prog Try.f23 .nil [(.int .i64 va), (.int .i64 b), (.int .i64 n)] w R = num_Mul.vc va b n w R := by kernel_rfl
theorem num_Mul.calls (va : Int) (b : Int) (n : Int) {w : World} {R : Value → World → Prop} (h : num_Mul.vc va b n w R) : Calls Try.prog 23 #[(.int .i64 va), (.int .i64 b), (.int .i64 n)] w (Ret R) :=
  calls_V fit Try.func23 .nil (by rw [show (#[(.int .i64 va), (.int .i64 b), (.int .i64 n)] : Array Value).toList = [(.int .i64 va), (.int .i64 b), (.int .i64 n)] from rfl, num_Mul.vc_eq]; exact h)
/-- function 16 -/
def num_Sqrt.vc (n : Int) (w : World) (R : Value → World → Prop) : Prop :=
  (decide (n ≤ (0 : Int)) = true →
  R (.int .i64 0) w) ∧
  (decide (n ≤ (0 : Int)) = false →
  (2 : Int) ≠ 0 ∧
  ∃ vI : Int → Int → Nat → World → Prop, (∃ vk_2 : Nat, vI n (IntKind.i64.wrap ((IntKind.i64.wrap (Int.tdiv n 2)) + (Go.bits .and .i64 n 1))) vk_2 w) ∧
  ∀ (jk : Nat → Value) (x : Int) (y : Int), ∀ (vk : Nat) (w1 : World), vI x y vk w1 →
  (decide (y < x) = true →
  y ≠ 0 ∧
  (2 : Int) ≠ 0 ∧
  ∃ vk_1 : Nat, vk_1 < vk ∧ vI y (IntKind.i64.wrap (Int.tdiv (IntKind.i64.wrap (y + (IntKind.i64.wrap (Int.tdiv n y)))) 2)) vk_1 w1) ∧
  (decide (y < x) = false →
  R (.int .i64 x) w1))
theorem num_Sqrt.vc_eq (n : Int) (w : World) (R : Value → World → Prop) : fnV Try.prog Try.f16 (.c .nil (.lp [(3, some (.int .i64)), (4, some (.int .i64)), (13, none), (14, none), (15, none), (16, none), (17, none), (18, none), (19, none), (20, none), (21, none), (22, none)] (.c .nil .nil))) [(.int .i64 n)] w R = num_Sqrt.vc n w R := by kernel_rfl
theorem num_Sqrt.calls (n : Int) {w : World} {R : Value → World → Prop} (h : num_Sqrt.vc n w R) : Calls Try.prog 16 #[(.int .i64 n)] w (Ret R) :=
  calls_V fit Try.func16 (.c .nil (.lp [(3, some (.int .i64)), (4, some (.int .i64)), (13, none), (14, none), (15, none), (16, none), (17, none), (18, none), (19, none), (20, none), (21, none), (22, none)] (.c .nil .nil))) (by rw [show (#[(.int .i64 n)] : Array Value).toList = [(.int .i64 n)] from rfl, num_Sqrt.vc_eq]; exact h)
/-- function 17 -/
def num_Div.vc (va : Int) (b : Int) (w : World) (R : Value → World → Prop) : Prop :=
  ((b == (0 : Int)) = true →
  R (.int .i64 0) w) ∧
  ((b == (0 : Int)) = false →
  ((b == (-1 : Int)) = true →
  R (.int .i64 (if (IntKind.i64.wrap (0 - (IntKind.i64.wrap (va + 1)))) > (IntKind.i64.wrap (0 - va)) then (IntKind.i64.wrap (0 - (IntKind.i64.wrap (va + 1)))) else (IntKind.i64.wrap (0 - va)))) w) ∧
  ((b == (-1 : Int)) = false →
  b ≠ 0 ∧
  b ≠ 0 ∧
  (((Int.tmod va b) != (0 : Int)) = true →
  ((!((decide (va < (0 : Int))) == (decide (b < (0 : Int))))) = true →
  R (.int .i64 (IntKind.i64.wrap ((IntKind.i64.wrap (Int.tdiv va b)) - 1))) w) ∧
  ((!((decide (va < (0 : Int))) == (decide (b < (0 : Int))))) = false →
  R (.int .i64 (IntKind.i64.wrap (Int.tdiv va b))) w)) ∧
  (((Int.tmod va b) != (0 : Int)) = false →
  R (.int .i64 (IntKind.i64.wrap (Int.tdiv va b))) w)))
theorem num_Div.vc_eq (va : Int) (b : Int) (w : World) (R : Value → World → Prop) : fnV Try.prog Try.f17 (.c .nil (.c .nil (.at_ 6 4 (.c .nil .nil) (.k .nil)))) [(.int .i64 va), (.int .i64 b)] w R = num_Div.vc va b w R := by kernel_rfl
theorem num_Div.calls (va : Int) (b : Int) {w : World} {R : Value → World → Prop} (h : num_Div.vc va b w R) : Calls Try.prog 17 #[(.int .i64 va), (.int .i64 b)] w (Ret R) :=
  calls_V fit Try.func17 (.c .nil (.c .nil (.at_ 6 4 (.c .nil .nil) (.k .nil)))) (by rw [show (#[(.int .i64 va), (.int .i64 b)] : Array Value).toList = [(.int .i64 va), (.int .i64 b)] from rfl, num_Div.vc_eq]; exact h)
/-- function 59 -/
def num_product.vc (va : Int) (b : Int) (w : World) (R : Value → World → Prop) : Prop :=
  Calls Try.prog 18 #[(.int .i64 va), (.int .i64 (-1073741824)), (.int .i64 1073741824)] w (Ret fun v w1 => ∃ (x6 : Int), v = (.int .i64 x6) ∧
  Calls Try.prog 18 #[(.int .i64 b), (.int .i64 (-1073741824)), (.int .i64 1073741824)] w1 (Ret fun v_1 w2 => ∃ (x8 : Int), v_1 = (.int .i64 x8) ∧
  R (.int .i64 (IntKind.i64.wrap (x6 * x8))) w2))
theorem num_product.vc_eq (va : Int) (b : Int) (w : World) (R : Value → World → Prop) : fnV Try.prog Try.f59 .nil [(.int .i64 va), (.int .i64 b)] w R = num_product.vc va b w R := by kernel_rfl
theorem num_product.calls (va : Int) (b : Int) {w : World} {R : Value → World → Prop} (h : num_product.vc va b w R) : Calls Try.prog 59 #[(.int .i64 va), (.int .i64 b)] w (Ret R) :=
  calls_V fit Try.func59 .nil (by rw [show (#[(.int .i64 va), (.int .i64 b)] : Array Value).toList = [(.int .i64 va), (.int .i64 b)] from rfl, num_product.vc_eq]; exact h)
/-- function 57 -/
def num_Sum.vc (listA : Option Addr) (listN : Nat) (listC : Nat) (w : World) (R : Value → World → Prop) : Prop :=
  ∃ vI : Int → Int → Nat → World → Prop, (∃ vk_2 : Nat, vI 0 0 vk_2 w) ∧
  ∀ (jk : Nat → Value) (out : Int) (x8 : Int), ∀ (vk : Nat) (w1 : World), vI out x8 vk w1 →
  (decide (x8 < ((listN : Nat) : Int)) = true →
  (0 ≤ x8 ∧ x8 < ((listN : Nat) : Int)) ∧ someV listA fun p =>
  ∃ (x11 : Int), w1.cell? (p.add (x8.toNat * 1)) = some (.int .i64 x11) ∧
  Calls Try.prog 18 #[(.int .i64 x11), (.int .i64 (-2305843009213693952)), (.int .i64 2305843009213693952)] w1 (Ret fun v w2 => ∃ (x14 : Int), v = (.int .i64 x14) ∧
  Calls Try.prog 18 #[(.int .i64 (IntKind.i64.wrap (out + x14))), (.int .i64 (-4611686018427387904)), (.int .i64 4611686018427387904)] w2 (Ret fun v_1 w3 => ∃ (x16 : Int), v_1 = (.int .i64 x16) ∧
  ∃ vk_1 : Nat, vk_1 < vk ∧ vI x16 (IntKind.i64.wrap (x8 + 1)) vk_1 w3))) ∧
  (decide (x8 < ((listN : Nat) : Int)) = false →
  R (.int .i64 out) w1)
theorem num_Sum.vc_eq (listA : Option Addr) (listN : Nat) (listC : Nat) (w : World) (R : Value → World → Prop) : fnV Try.prog Try.f57 (.lp [(3, some (.int .i64)), (5, none), (8, some (.int .i64)), (9, none), (10, none), (11, none), (12, none), (13, none), (14, none), (15, none), (16, none), (17, none)] (.c .nil .nil)) [(.slice listA listN listC)] w R = num_Sum.vc listA listN listC w R := by kernel_rfl
theorem num_Sum.calls (listA : Option Addr) (listN : Nat) (listC : Nat) {w : World} {R : Value → World → Prop} (h : num_Sum.vc listA listN listC w R) : Calls Try.prog 57 #[(.slice listA listN listC)] w (Ret R) :=
  calls_V fit Try.func57 (.lp [(3, some (.int .i64)), (5, none), (8, some (.int .i64)), (9, none), (10, none), (11, none), (12, none), (13, none), (14, none), (15, none), (16, none), (17, none)] (.c .nil .nil)) (by rw [show (#[(.slice listA listN listC)] : Array Value).toList = [(.slice listA listN listC)] from rfl, num_Sum.vc_eq]; exact h)
/-- function 55 -/
def num_Max.vc (first : Int) (restA : Option Addr) (restN : Nat) (restC : Nat) (w : World) (R : Value → World → Prop) : Prop :=
  ∃ vI : Int → Int → Nat → World → Prop, (∃ vk_2 : Nat, vI first 0 vk_2 w) ∧
  ∀ (jk : Nat → Value) (first_1 : Int) (x9 : Int), ∀ (vk : Nat) (w1 : World), vI first_1 x9 vk w1 →
  (decide (x9 < ((restN : Nat) : Int)) = true →
  (0 ≤ x9 ∧ x9 < ((restN : Nat) : Int)) ∧ someV restA fun p =>
  ∃ (x12 : Int), w1.cell? (p.add (x9.toNat * 1)) = some (.int .i64 x12) ∧
  ∃ vk_1 : Nat, vk_1 < vk ∧ vI (if x12 > first_1 then x12 else first_1) (IntKind.i64.wrap (x9 + 1)) vk_1 w1) ∧
  (decide (x9 < ((restN : Nat) : Int)) = false →
  R (.int .i64 first_1) w1)
theorem num_Max.vc_eq (first : Int) (restA : Option Addr) (restN : Nat) (restC : Nat) (w : World) (R : Value → World → Prop) : fnV Try.prog Try.f55 (.lp [(0, some (.int .i64)), (6, none), (9, some (.int .i64)), (10, none), (11, none), (12, none), (13, none), (14, none), (15, none), (16, none)] (.c .nil .nil)) [(.int .i64 first), (.slice restA restN restC)] w R = num_Max.vc first restA restN restC w R := by kernel_rfl
theorem num_Max.calls (first : Int) (restA : Option Addr) (restN : Nat) (restC : Nat) {w : World} {R : Value → World → Prop} (h : num_Max.vc first restA restN restC w R) : Calls Try.prog 55 #[(.int .i64 first), (.slice restA restN restC)] w (Ret R) :=
  calls_V fit Try.func55 (.lp [(0, some (.int .i64)), (6, none), (9, some (.int .i64)), (10, none), (11, none), (12, none), (13, none), (14, none), (15, none), (16, none)] (.c .nil .nil)) (by rw [show (#[(.int .i64 first), (.slice restA restN restC)] : Array Value).toList = [(.int .i64 first), (.slice restA restN restC)] from rfl, num_Max.vc_eq]; exact h)
/-- function 56 -/
def num_Min.vc (first : Int) (restA : Option Addr) (restN : Nat) (restC : Nat) (w : World) (R : Value → World → Prop) : Prop :=
  ∀ w1 : World, w1 = w.alloc (.cells #[(.int .i64 first)] 3 (0, 0)) →
  ∃ (x8A : Option Addr), ∃ (x8N : Nat), ∃ (x8C : Nat), ∃ w2 : World, (Builtin.append_ #[29, 29] 29 #[(.slice (some (⟨w.heap.size, 0, none⟩ : Addr)) 1 1), (.slice restA restN restC)]).run Try.prog w1 = .ok (.slice x8A x8N x8C) w2 ∧
  Calls Try.prog 68 #[(.slice x8A x8N x8C)] w2 (Ret fun v w3 => ∃ (x9 : Int), v = (.int .i64 x9) ∧
  R (.int .i64 x9) w3)
theorem num_Min.vc_eq (first : Int) (restA : Option Addr) (restN : Nat) (restC : Nat) (w : World) (R : Value → World → Prop) : fnV Try.prog Try.f56 .nil [(.int .i64 first), (.slice restA restN restC)] w R = num_Min.vc first restA restN restC w R := by kernel_rfl
theorem num_Min.calls (first : Int) (restA : Option Addr) (restN : Nat) (restC : Nat) {w : World} {R : Value → World → Prop} (h : num_Min.vc first restA restN restC w R) : Calls Try.prog 56 #[(.int .i64 first), (.slice restA restN restC)] w (Ret R) :=
  calls_V fit Try.func56 .nil (by rw [show (#[(.int .i64 first), (.slice restA restN restC)] : Array Value).toList = [(.int .i64 first), (.slice restA restN restC)] from rfl, num_Min.vc_eq]; exact h)
/-- function 58 -/
def num_Dot.vc (aA : Option Addr) (aN : Nat) (aC : Nat) (bA : Option Addr) (bN : Nat) (bC : Nat) (w : World) (R : Value → World → Prop) : Prop :=
  ∃ vI : Int → Int → Nat → World → Prop, (∃ vk_2 : Nat, vI 0 0 vk_2 w) ∧
  ∀ (jk : Nat → Value) (out : Int) (x12 : Int), ∀ (vk : Nat) (w1 : World), vI out x12 vk w1 →
  (decide (x12 < (if ((bN : Nat) : Int) < ((aN : Nat) : Int) then ((bN : Nat) : Int) else ((aN : Nat) : Int))) = true →
  ∃ vS : World → Prop, ∀ w2 : World, w2 = w1.drew → vS w2 ∧
  (0 ≤ x12 ∧ x12 < ((aN : Nat) : Int)) ∧ someV aA fun p =>
  ∃ (x19 : Int), (∀ w3, vS w3 → w3.cell? (p.add (x12.toNat * 1)) = some (.int .i64 x19)) ∧
  (0 ≤ x12 ∧ x12 < ((bN : Nat) : Int)) ∧ someV bA fun p_1 =>
  ∃ (x23 : Int), (∀ w4, vS w4 → w4.cell? (p_1.add (x12.toNat * 1)) = some (.int .i64 x23)) ∧
  Calls Try.prog 59 #[(.int .i64 x19), (.int .i64 x23)] w2 (Ret fun v w5 => ∃ (x24 : Int), v = (.int .i64 x24) ∧
  vS w5 ∧
  Calls Try.prog 18 #[(.int .i64 (IntKind.i64.wrap (out + x24))), (.int .i64 (-4611686018427387904)), (.int .i64 4611686018427387904)] w5 (Ret fun v_1 w6 => ∃ (x26 : Int), v_1 = (.int .i64 x26) ∧
  vS w6 ∧
  ∃ vk_1 : Nat, vk_1 < vk ∧ vI x26 (IntKind.i64.wrap (x12 + 1)) vk_1 w6))) ∧
  (decide (x12 < (if ((bN : Nat) : Int) < ((aN : Nat) : Int) then ((bN : Nat) : Int) else ((aN : Nat) : Int))) = false →
  R (.int .i64 out) w1)
theorem num_Dot.vc_eq (aA : Option Addr) (aN : Nat) (aC : Nat) (bA : Option Addr) (bN : Nat) (bC : Nat) (w : World) (R : Value → World → Prop) : fnV Try.prog Try.f58 (.lp [(5, some (.int .i64)), (6, none), (12, some (.int .i64)), (13, none), (14, none), (15, none), (16, none), (17, none), (18, none), (19, none), (20, none), (21, none), (22, none), (23, none), (24, none), (25, none), (26, none), (27, none)] (.c (.tk 0 (.tk 1 (.tk 2 (.tk 3 (.tk 4 (.tk 5 (.tk 6 (.tk 7 (.tk 8 (.alt 9 (.tk 10 (.alt 11 (.tk 12 (.fin .nil)) .nil)) .nil)))))))))) .nil)) [(.slice aA aN aC), (.slice bA bN bC)] w R = num_Dot.vc aA aN aC bA bN bC w R := by kernel_rfl
theorem num_Dot.calls (aA : Option Addr) (aN : Nat) (aC : Nat) (bA : Option Addr) (bN : Nat) (bC : Nat) {w : World} {R : Value → World → Prop} (h : num_Dot.vc aA aN aC bA bN bC w R) : Calls Try.prog 58 #[(.slice aA aN aC), (.slice bA bN bC)] w (Ret R) :=
  calls_V fit Try.func58 (.lp [(5, some (.int .i64)), (6, none), (12, some (.int .i64)), (13, none), (14, none), (15, none), (16, none), (17, none), (18, none), (19, none), (20, none), (21, none), (22, none), (23, none), (24, none), (25, none), (26, none), (27, none)] (.c (.tk 0 (.tk 1 (.tk 2 (.tk 3 (.tk 4 (.tk 5 (.tk 6 (.tk 7 (.tk 8 (.alt 9 (.tk 10 (.alt 11 (.tk 12 (.fin .nil)) .nil)) .nil)))))))))) .nil)) (by rw [show (#[(.slice aA aN aC), (.slice bA bN bC)] : Array Value).toList = [(.slice aA aN aC), (.slice bA bN bC)] from rfl, num_Dot.vc_eq]; exact h)
/-- function 68 -/
def slices_Min.vc (xA : Option Addr) (xN : Nat) (xC : Nat) (w : World) (R : Value → World → Prop) : Prop :=
  (decide (((xN : Nat) : Int) < (1 : Int)) = true →
  False) ∧
  (decide (((xN : Nat) : Int) < (1 : Int)) = false →
  (0 ≤ (0 : Int) ∧ (0 : Int) < ((xN : Nat) : Int)) ∧ someV xA fun p =>
  ∃ (x11 : Int), w.cell? p = some (.int .i64 x11) ∧
  ∃ vI : Int → Int → Nat → World → Prop, (∃ vk_2 : Nat, vI x11 1 vk_2 w) ∧
  ∀ (jk : Nat → Value) (m : Int) (i : Int), ∀ (vk : Nat) (w1 : World), vI m i vk w1 →
  (decide (i < ((xN : Nat) : Int)) = true →
  (0 ≤ i ∧ i < ((xN : Nat) : Int)) ∧ someV xA fun p_1 =>
  ∃ (x22 : Int), w1.cell? (p_1.add (i.toNat * 1)) = some (.int .i64 x22) ∧
  ∃ vk_1 : Nat, vk_1 < vk ∧ vI (if x22 < m then x22 else m) (IntKind.i64.wrap (i + 1)) vk_1 w1) ∧
  (decide (i < ((xN : Nat) : Int)) = false →
  R (.int .i64 m) w1))
theorem slices_Min.vc_eq (xA : Option Addr) (xN : Nat) (xC : Nat) (w : World) (R : Value → World → Prop) : fnV Try.prog Try.f68 (.c .nil (.lp [(3, some (.int .i64)), (4, some (.int .i64)), (12, none), (13, none), (14, none), (15, none), (16, none), (17, none), (18, none), (19, none), (20, none), (21, none), (22, none), (23, none)] (.c .nil .nil))) [(.slice xA xN xC)] w R = slices_Min.vc xA xN xC w R := by kernel_rfl
theorem slices_Min.calls (xA : Option Addr) (xN : Nat) (xC : Nat) {w : World} {R : Value → World → Prop} (h : slices_Min.vc xA xN xC w R) : Calls Try.prog 68 #[(.slice xA xN xC)] w (Ret R) :=
  calls_V fit Try.func68 (.c .nil (.lp [(3, some (.int .i64)), (4, some (.int .i64)), (12, none), (13, none), (14, none), (15, none), (16, none), (17, none), (18, none), (19, none), (20, none), (21, none), (22, none), (23, none)] (.c .nil .nil))) (by rw [show (#[(.slice xA xN xC)] : Array Value).toList = [(.slice xA xN xC)] from rfl, slices_Min.vc_eq]; exact h)
/-- function 19 -/
def coadjutorref01_Clamp.vc (x : Int) (low : Int) (high : Int) (w : World) (R : Value → World → Prop) : Prop :=
  (decide (x < low) = true →
  R (.int .i64 low) w) ∧
  (decide (x < low) = false →
  (decide (x > high) = true →
  R (.int .i64 high) w) ∧
  (decide (x > high) = false →
  R (.int .i64 x) w))
theorem coadjutorref01_Clamp.vc_eq (x : Int) (low : Int) (high : Int) (w : World) (R : Value → World → Prop) : fnV Try.prog Try.f19 (.c .nil (.c .nil .nil)) [(.int .i64 x), (.int .i64 low), (.int .i64 high)] w R = coadjutorref01_Clamp.vc x low high w R := by kernel_rfl
theorem coadjutorref01_Clamp.calls (x : Int) (low : Int) (high : Int) {w : World} {R : Value → World → Prop} (h : coadjutorref01_Clamp.vc x low high w R) : Calls Try.prog 19 #[(.int .i64 x), (.int .i64 low), (.int .i64 high)] w (Ret R) :=
  calls_V fit Try.func19 (.c .nil (.c .nil .nil)) (by rw [show (#[(.int .i64 x), (.int .i64 low), (.int .i64 high)] : Array Value).toList = [(.int .i64 x), (.int .i64 low), (.int .i64 high)] from rfl, coadjutorref01_Clamp.vc_eq]; exact h)
/-- function 21 -/
def coadjutorref01_Sat.vc (x : Int) (w : World) (R : Value → World → Prop) : Prop :=
  Calls Try.prog 19 #[(.int .i64 x), (.int .i64 (-32767)), (.int .i64 32767)] w (Ret fun v w1 => ∃ (x4 : Int), v = (.int .i64 x4) ∧
  R (.int .i64 x4) w1)
theorem coadjutorref01_Sat.vc_eq (x : Int) (w : World) (R : Value → World → Prop) : fnV Try.prog Try.f21 .nil [(.int .i64 x)] w R = coadjutorref01_Sat.vc x w R := by kernel_rfl
theorem coadjutorref01_Sat.calls (x : Int) {w : World} {R : Value → World → Prop} (h : coadjutorref01_Sat.vc x w R) : Calls Try.prog 21 #[(.int .i64 x)] w (Ret R) :=
  calls_V fit Try.func21 .nil (by rw [show (#[(.int .i64 x)] : Array Value).toList = [(.int .i64 x)] from rfl, coadjutorref01_Sat.vc_eq]; exact h)
/-- function 22 -/
def coadjutorref01_Shift.vc (x : Int) (n : Int) (w : World) (R : Value → World → Prop) : Prop :=
  (decide (n ≥ (63 : Int)) = true →
  R (.int .i64 0) w) ∧
  (decide (n ≥ (63 : Int)) = false →
  ∃ vI : Int → Int → Int → Nat → World → Prop, (∃ vk_2 : Nat, vI x 0 0 vk_2 w) ∧
  ∀ (jk : Nat → Value) (x_1 : Int) (last : Int) (i : Int), ∀ (vk : Nat) (w1 : World), vI x_1 last i vk w1 →
  (decide (i < n) = true →
  (2 : Int) ≠ 0 ∧
  ∃ vk_1 : Nat, vk_1 < vk ∧ vI (IntKind.i64.wrap (Int.tdiv (IntKind.i64.wrap (x_1 - (Go.bits .and .i64 x_1 1))) 2)) (Go.bits .and .i64 x_1 1) (IntKind.i64.wrap (i + 1)) vk_1 w1) ∧
  (decide (i < n) = false →
  R (.int .i64 (IntKind.i64.wrap (x_1 + last))) w1))
theorem coadjutorref01_Shift.vc_eq (x : Int) (n : Int) (w : World) (R : Value → World → Prop) : fnV Try.prog Try.f22 (.c .nil (.lp [(0, some (.int .i64)), (5, some (.int .i64)), (6, some (.int .i64)), (9, none), (10, none), (11, none), (12, none), (13, none), (14, none), (15, none), (16, none), (17, none), (18, none), (19, none)] (.c .nil .nil))) [(.int .i64 x), (.int .i64 n)] w R = coadjutorref01_Shift.vc x n w R := by kernel_rfl
theorem coadjutorref01_Shift.calls (x : Int) (n : Int) {w : World} {R : Value → World → Prop} (h : coadjutorref01_Shift.vc x n w R) : Calls Try.prog 22 #[(.int .i64 x), (.int .i64 n)] w (Ret R) :=
  calls_V fit Try.func22 (.c .nil (.lp [(0, some (.int .i64)), (5, some (.int .i64)), (6, some (.int .i64)), (9, none), (10, none), (11, none), (12, none), (13, none), (14, none), (15, none), (16, none), (17, none), (18, none), (19, none)] (.c .nil .nil))) (by rw [show (#[(.int .i64 x), (.int .i64 n)] : Array Value).toList = [(.int .i64 x), (.int .i64 n)] from rfl, coadjutorref01_Shift.vc_eq]; exact h)
/-- function 24 -/
def coadjutorref01_Mul.vc (va : Int) (b : Int) (n : Int) (w : World) (R : Value → World → Prop) : Prop :=
  Calls Try.prog 19 #[(.int .i64 va), (.int .i64 (-1073741824)), (.int .i64 1073741824)] w (Ret fun v w1 => ∃ (x8 : Int), v = (.int .i64 x8) ∧
  Calls Try.prog 19 #[(.int .i64 b), (.int .i64 (-1073741824)), (.int .i64 1073741824)] w1 (Ret fun v_1 w2 => ∃ (x10 : Int), v_1 = (.int .i64 x10) ∧
  Calls Try.prog 22 #[(.int .i64 (IntKind.i64.wrap (x8 * x10))), (.int .i64 n)] w2 (Ret fun v_2 w3 => ∃ (x13 : Int), v_2 = (.int .i64 x13) ∧
  Calls Try.prog 21 #[(.int .i64 x13)] w3 (Ret fun v_3 w4 => ∃ (x14 : Int), v_3 = (.int .i64 x14) ∧
  R (.int .i64 x14) w4))))
theorem coadjutorref01_Mul.vc_eq (va : Int) (b : Int) (n : Int) (w : World) (R : Value → World → Prop) : fnV Try.prog Try.f24 .nil [(.int .i64 va), (.int .i64 b), (.int .i64 n)] w R = coadjutorref01_Mul.vc va b n w R := by kernel_rfl
theorem coadjutorref01_Mul.calls (va : Int) (b : Int) (n : Int) {w : World} {R : Value → World → Prop} (h : coadjutorref01_Mul.vc va b n w R) : Calls Try.prog 24 #[(.int .i64 va), (.int .i64 b), (.int .i64 n)] w (Ret R) :=
  calls_V fit Try.func24 .nil (by rw [show (#[(.int .i64 va), (.int .i64 b), (.int .i64 n)] : Array Value).toList = [(.int .i64 va), (.int .i64 b), (.int .i64 n)] from rfl, coadjutorref01_Mul.vc_eq]; exact h)
/-- function 25 -/
def coadjutorref01_Sqrt.vc (n : Int) (w : World) (R : Value → World → Prop) : Prop :=
  ∃ vI : Int → Int → Nat → World → Prop, (∃ vk_2 : Nat, vI 0 31 vk_2 w) ∧
  ∀ (jk : Nat → Value) (out : Int) (vk_3 : Int), ∀ (vk : Nat) (w1 : World), vI out vk_3 vk w1 →
  (decide (vk_3 ≥ (0 : Int)) = true →
  0 ≤ vk_3 ∧
  (decide ((IntKind.i64.wrap (out + (IntKind.i64.wrap (1 * 2 ^ (min vk_3.toNat IntKind.i64.bits))))) ≤ (3037000499 : Int)) = true →
  (decide ((IntKind.i64.wrap ((IntKind.i64.wrap (out + (IntKind.i64.wrap (1 * 2 ^ (min vk_3.toNat IntKind.i64.bits))))) * (IntKind.i64.wrap (out + (IntKind.i64.wrap (1 * 2 ^ (min vk_3.toNat IntKind.i64.bits))))))) ≤ n) = true →
  ∃ vk_1 : Nat, vk_1 < vk ∧ vI (IntKind.i64.wrap (out + (IntKind.i64.wrap (1 * 2 ^ (min vk_3.toNat IntKind.i64.bits))))) (IntKind.i64.wrap (vk_3 - 1)) vk_1 w1) ∧
  (decide ((IntKind.i64.wrap ((IntKind.i64.wrap (out + (IntKind.i64.wrap (1 * 2 ^ (min vk_3.toNat IntKind.i64.bits))))) * (IntKind.i64.wrap (out + (IntKind.i64.wrap (1 * 2 ^ (min vk_3.toNat IntKind.i64.bits))))))) ≤ n) = false →
  ∃ vk_1 : Nat, vk_1 < vk ∧ vI out (IntKind.i64.wrap (vk_3 - 1)) vk_1 w1)) ∧
  (decide ((IntKind.i64.wrap (out + (IntKind.i64.wrap (1 * 2 ^ (min vk_3.toNat IntKind.i64.bits))))) ≤ (3037000499 : Int)) = false →
  ∃ vk_1 : Nat, vk_1 < vk ∧ vI out (IntKind.i64.wrap (vk_3 - 1)) vk_1 w1)) ∧
  (decide (vk_3 ≥ (0 : Int)) = false →
  R (.int .i64 out) w1)
theorem coadjutorref01_Sqrt.vc_eq (n : Int) (w : World) (R : Value → World → Prop) : fnV Try.prog Try.f25 (.lp [(3, some (.int .i64)), (4, some (.int .i64)), (5, none), (6, none), (7, none), (8, none), (9, none), (10, none), (11, none), (12, none), (13, none), (14, none), (15, none), (16, none), (17, none), (18, none), (19, none), (20, none), (21, none), (22, none), (23, none)] (.c (.at_ 6 2 (.c .nil .nil) (.k .nil)) .nil)) [(.int .i64 n)] w R = coadjutorref01_Sqrt.vc n w R := by kernel_rfl
theorem coadjutorref01_Sqrt.calls (n : Int) {w : World} {R : Value → World → Prop} (h : coadjutorref01_Sqrt.vc n w R) : Calls Try.prog 25 #[(.int .i64 n)] w (Ret R) :=
  calls_V fit Try.func25 (.lp [(3, some (.int .i64)), (4, some (.int .i64)), (5, none), (6, none), (7, none), (8, none), (9, none), (10, none), (11, none), (12, none), (13, none), (14, none), (15, none), (16, none), (17, none), (18, none), (19, none), (20, none), (21, none), (22, none), (23, none)] (.c (.at_ 6 2 (.c .nil .nil) (.k .nil)) .nil)) (by rw [show (#[(.int .i64 n)] : Array Value).toList = [(.int .i64 n)] from rfl, coadjutorref01_Sqrt.vc_eq]; exact h)
/-- function 26 -/
def coadjutorref01_Div.vc (va : Int) (b : Int) (w : World) (R : Value → World → Prop) : Prop :=
  ((b == (0 : Int)) = true →
  R (.int .i64 0) w) ∧
  ((b == (0 : Int)) = false →
  ((b == (-1 : Int)) = true →
  ((va == (-9223372036854775808 : Int)) = true →
  R (.int .i64 9223372036854775807) w) ∧
  ((va == (-9223372036854775808 : Int)) = false →
  R (.int .i64 (IntKind.i64.wrap (0 - va))) w)) ∧
  ((b == (-1 : Int)) = false →
  b ≠ 0 ∧
  b ≠ 0 ∧
  (((Int.tmod va b) != (0 : Int)) = true →
  ((!((decide (va < (0 : Int))) == (decide (b < (0 : Int))))) = true →
  R (.int .i64 (IntKind.i64.wrap ((IntKind.i64.wrap (Int.tdiv va b)) - 1))) w) ∧
  ((!((decide (va < (0 : Int))) == (decide (b < (0 : Int))))) = false →
  R (.int .i64 (IntKind.i64.wrap (Int.tdiv va b))) w)) ∧
  (((Int.tmod va b) != (0 : Int)) = false →
  R (.int .i64 (IntKind.i64.wrap (Int.tdiv va b))) w)))
theorem coadjutorref01_Div.vc_eq (va : Int) (b : Int) (w : World) (R : Value → World → Prop) : fnV Try.prog Try.f26 (.c .nil (.c (.c .nil .nil) (.at_ 8 4 (.c .nil .nil) (.k .nil)))) [(.int .i64 va), (.int .i64 b)] w R = coadjutorref01_Div.vc va b w R := by kernel_rfl
theorem coadjutorref01_Div.calls (va : Int) (b : Int) {w : World} {R : Value → World → Prop} (h : coadjutorref01_Div.vc va b w R) : Calls Try.prog 26 #[(.int .i64 va), (.int .i64 b)] w (Ret R) :=
  calls_V fit Try.func26 (.c .nil (.c (.c .nil .nil) (.at_ 8 4 (.c .nil .nil) (.k .nil)))) (by rw [show (#[(.int .i64 va), (.int .i64 b)] : Array Value).toList = [(.int .i64 va), (.int .i64 b)] from rfl, coadjutorref01_Div.vc_eq]; exact h)
/-- function 14 -/
def coadjutorlaw01_awake.vc (w : World) (R : Value → World → Prop) : Prop :=
  Calls Try.prog 15 #[(.int .i64 3), (.int .i64 1)] w (Ret fun v w1 => ∃ (x1 : Int), v = (.int .i64 x1) ∧
  ((x1 == (2 : Int)) = true →
  Calls Try.prog 15 #[(.int .i64 (-3)), (.int .i64 1)] w1 (Ret fun v_1 w2 => ∃ (x4 : Int), v_1 = (.int .i64 x4) ∧
  ((x4 == (-1 : Int)) = true →
  Calls Try.prog 17 #[(.int .i64 (-3)), (.int .i64 2)] w2 (Ret fun v_2 w3 => ∃ (x8 : Int), v_2 = (.int .i64 x8) ∧
  ((x8 == (-2 : Int)) = true →
  Calls Try.prog 16 #[(.int .i64 15)] w3 (Ret fun v_3 w4 => ∃ (x12 : Int), v_3 = (.int .i64 x12) ∧
  ((x12 == (3 : Int)) = true →
  ∀ w5 : World, w5 = w4.alloc (.cells #[(.int .i64 5), (.int .i64 3)] 3 (0, 0)) →
  Calls Try.prog 55 #[(.int .i64 2), (.slice (some (⟨w4.heap.size, 0, none⟩ : Addr)) 2 2)] w5 (Ret fun v_4 w6 => ∃ (x17 : Int), v_4 = (.int .i64 x17) ∧
  ((x17 == (5 : Int)) = true →
  Calls Try.prog 56 #[(.int .i64 2), (.slice none 0 0)] w6 (Ret fun v_5 w7 => ∃ (x21 : Int), v_5 = (.int .i64 x21) ∧
  ((x21 == (2 : Int)) = true →
  ∀ w8 : World, w8 = w7.alloc (.cells #[(.int .i64 1), (.int .i64 2)] 3 (0, 0)) →
  Calls Try.prog 57 #[(.slice (some (⟨w7.heap.size, 0, none⟩ : Addr)) 2 2)] w8 (Ret fun v_6 w9 => ∃ (x26 : Int), v_6 = (.int .i64 x26) ∧
  ((x26 == (3 : Int)) = true →
  ∀ w10 : World, w10 = w9.alloc (.cells #[(.int .i64 1), (.int .i64 2)] 3 (0, 0)) →
  ∀ w11 : World, w11 = w10.alloc (.cells #[(.int .i64 3), (.int .i64 4), (.int .i64 5)] 3 (0, 0)) →
  Calls Try.prog 58 #[(.slice (some (⟨w9.heap.size, 0, none⟩ : Addr)) 2 2), (.slice (some (⟨w10.heap.size, 0, none⟩ : Addr)) 3 3)] w11 (Ret fun v_7 w12 => ∃ (x32 : Int), v_7 = (.int .i64 x32) ∧
  R (.bool (x32 == (11 : Int))) w12)) ∧
  ((x26 == (3 : Int)) = false →
  R (.bool false) w9))) ∧
  ((x21 == (2 : Int)) = false →
  R (.bool false) w7))) ∧
  ((x17 == (5 : Int)) = false →
  R (.bool false) w6))) ∧
  ((x12 == (3 : Int)) = false →
  R (.bool false) w4))) ∧
  ((x8 == (-2 : Int)) = false →
  R (.bool false) w3))) ∧
  ((x4 == (-1 : Int)) = false →
  R (.bool false) w2))) ∧
  ((x1 == (2 : Int)) = false →
  R (.bool false) w1))
theorem coadjutorlaw01_awake.vc_eq (w : World) (R : Value → World → Prop) : fnV Try.prog Try.f14 (.at_ 1 2 (.at_ 1 6 (.at_ 1 10 (.at_ 1 14 (.at_ 1 19 (.at_ 1 23 (.at_ 1 28 .nil .nil) .nil) .nil) .nil) .nil) .nil) .nil) [] w R = coadjutorlaw01_awake.vc  w R := by kernel_rfl
theorem coadjutorlaw01_awake.calls {w : World} {R : Value → World → Prop} (h : coadjutorlaw01_awake.vc  w R) : Calls Try.prog 14 #[] w (Ret R) :=
  calls_V fit Try.func14 (.at_ 1 2 (.at_ 1 6 (.at_ 1 10 (.at_ 1 14 (.at_ 1 19 (.at_ 1 23 (.at_ 1 28 .nil .nil) .nil) .nil) .nil) .nil) .nil) .nil) (by rw [show (#[] : Array Value).toList = [] from rfl, coadjutorlaw01_awake.vc_eq]; exact h)
/-- function 3 -/
def coadjutorlaw01_NumShift.vc (x : Int) (n : Int) (w : World) (R : Value → World → Prop) : Prop :=
  Calls Try.prog 14 #[] w (Ret fun v w1 => ∃ (x8 : Bool), v = (.bool x8) ∧
  ((!x8) = true →
  R (.bool false) w1) ∧
  ((!x8) = false →
  (61 : Int) ≠ 0 ∧
  (decide (x > (1152921504606846976 : Int)) = true →
  R (.bool true) w1) ∧
  (decide (x > (1152921504606846976 : Int)) = false →
  (decide (x < (-1152921504606846976 : Int)) = true →
  R (.bool true) w1) ∧
  (decide (x < (-1152921504606846976 : Int)) = false →
  Calls Try.prog 15 #[(.int .i64 x), (.int .i64 (IntKind.i64.wrap (Int.tmod (IntKind.u64.wrap n) 61)))] w1 (Ret fun v_1 w2 => ∃ (x22 : Int), v_1 = (.int .i64 x22) ∧
  Calls Try.prog 15 #[(.int .i64 (IntKind.i64.wrap (2 * x))), (.int .i64 (IntKind.i64.wrap ((IntKind.i64.wrap (Int.tmod (IntKind.u64.wrap n) 61)) + 1)))] w2 (Ret fun v_2 w3 => ∃ (x27 : Int), v_2 = (.int .i64 x27) ∧
  ((x27 != x22) = true →
  (decide ((IntKind.i64.wrap (Int.tmod (IntKind.u64.wrap n) 61)) > (0 : Int)) = true →
  R (.bool false) w3) ∧
  (decide ((IntKind.i64.wrap (Int.tmod (IntKind.u64.wrap n) 61)) > (0 : Int)) = false →
  (((IntKind.i64.wrap (Int.tmod (IntKind.u64.wrap n) 61)) == (0 : Int)) = true →
  ((x22 == x) = true →
  Calls Try.prog 15 #[(.int .i64 (IntKind.i64.wrap (2 * x))), (.int .i64 1)] w3 (Ret fun v_3 w4 => ∃ (x42 : Int), v_3 = (.int .i64 x42) ∧
  R (.bool (x42 == x)) w4)) ∧
  ((x22 == x) = false →
  R (.bool false) w3)) ∧
  (((IntKind.i64.wrap (Int.tmod (IntKind.u64.wrap n) 61)) == (0 : Int)) = false →
  0 ≤ (IntKind.i64.wrap (Int.tmod (IntKind.u64.wrap n) 61)) ∧
  0 ≤ (IntKind.i64.wrap (Int.tmod (IntKind.u64.wrap n) 61)) ∧
  (decide ((IntKind.i64.wrap (2 * (IntKind.i64.wrap (x - (IntKind.i64.wrap (x22 * 2 ^ (min (IntKind.i64.wrap (Int.tmod (IntKind.u64.wrap n) 61)).toNat IntKind.i64.bits))))))) < (IntKind.i64.wrap (1 * 2 ^ (min (IntKind.i64.wrap (Int.tmod (IntKind.u64.wrap n) 61)).toNat IntKind.i64.bits)))) = true →
  0 ≤ (IntKind.i64.wrap (Int.tmod (IntKind.u64.wrap n) 61)) ∧
  R (.bool (decide ((IntKind.i64.wrap (2 * (IntKind.i64.wrap (x - (IntKind.i64.wrap (x22 * 2 ^ (min (IntKind.i64.wrap (Int.tmod (IntKind.u64.wrap n) 61)).toNat IntKind.i64.bits))))))) ≥ (IntKind.i64.wrap ((-1) * 2 ^ (min (IntKind.i64.wrap (Int.tmod (IntKind.u64.wrap n) 61)).toNat IntKind.i64.bits)))))) w3) ∧
  (decide ((IntKind.i64.wrap (2 * (IntKind.i64.wrap (x - (IntKind.i64.wrap (x22 * 2 ^ (min (IntKind.i64.wrap (Int.tmod (IntKind.u64.wrap n) 61)).toNat IntKind.i64.bits))))))) < (IntKind.i64.wrap (1 * 2 ^ (min (IntKind.i64.wrap (Int.tmod (IntKind.u64.wrap n) 61)).toNat IntKind.i64.bits)))) = false →
  R (.bool false) w3)))) ∧
  ((x27 != x22) = false →
  (((IntKind.i64.wrap (Int.tmod (IntKind.u64.wrap n) 61)) == (0 : Int)) = true →
  ((x22 == x) = true →
  Calls Try.prog 15 #[(.int .i64 (IntKind.i64.wrap (2 * x))), (.int .i64 1)] w3 (Ret fun v_4 w5 => ∃ (x42_1 : Int), v_4 = (.int .i64 x42_1) ∧
  R (.bool (x42_1 == x)) w5)) ∧
  ((x22 == x) = false →
  R (.bool false) w3)) ∧
  (((IntKind.i64.wrap (Int.tmod (IntKind.u64.wrap n) 61)) == (0 : Int)) = false →
  0 ≤ (IntKind.i64.wrap (Int.tmod (IntKind.u64.wrap n) 61)) ∧
  0 ≤ (IntKind.i64.wrap (Int.tmod (IntKind.u64.wrap n) 61)) ∧
  (decide ((IntKind.i64.wrap (2 * (IntKind.i64.wrap (x - (IntKind.i64.wrap (x22 * 2 ^ (min (IntKind.i64.wrap (Int.tmod (IntKind.u64.wrap n) 61)).toNat IntKind.i64.bits))))))) < (IntKind.i64.wrap (1 * 2 ^ (min (IntKind.i64.wrap (Int.tmod (IntKind.u64.wrap n) 61)).toNat IntKind.i64.bits)))) = true →
  0 ≤ (IntKind.i64.wrap (Int.tmod (IntKind.u64.wrap n) 61)) ∧
  R (.bool (decide ((IntKind.i64.wrap (2 * (IntKind.i64.wrap (x - (IntKind.i64.wrap (x22 * 2 ^ (min (IntKind.i64.wrap (Int.tmod (IntKind.u64.wrap n) 61)).toNat IntKind.i64.bits))))))) ≥ (IntKind.i64.wrap ((-1) * 2 ^ (min (IntKind.i64.wrap (Int.tmod (IntKind.u64.wrap n) 61)).toNat IntKind.i64.bits)))))) w3) ∧
  (decide ((IntKind.i64.wrap (2 * (IntKind.i64.wrap (x - (IntKind.i64.wrap (x22 * 2 ^ (min (IntKind.i64.wrap (Int.tmod (IntKind.u64.wrap n) 61)).toNat IntKind.i64.bits))))))) < (IntKind.i64.wrap (1 * 2 ^ (min (IntKind.i64.wrap (Int.tmod (IntKind.u64.wrap n) 61)).toNat IntKind.i64.bits)))) = false →
  R (.bool false) w3)))))))))
theorem coadjutorlaw01_NumShift.vc_eq (x : Int) (n : Int) (w : World) (R : Value → World → Prop) : fnV Try.prog Try.f3 (.c .nil (.at_ 4 2 (.k .nil) (.c .nil (.at_ 7 7 (.c .nil (.c (.at_ 10 3 .nil .nil) (.at_ 12 5 .nil .nil))) (.k (.c (.at_ 10 3 .nil .nil) (.at_ 12 5 .nil .nil))))))) [(.int .i64 x), (.int .i64 n)] w R = coadjutorlaw01_NumShift.vc x n w R := by kernel_rfl
theorem coadjutorlaw01_NumShift.calls (x : Int) (n : Int) {w : World} {R : Value → World → Prop} (h : coadjutorlaw01_NumShift.vc x n w R) : Calls Try.prog 3 #[(.int .i64 x), (.int .i64 n)] w (Ret R) :=
  calls_V fit Try.func3 (.c .nil (.at_ 4 2 (.k .nil) (.c .nil (.at_ 7 7 (.c .nil (.c (.at_ 10 3 .nil .nil) (.at_ 12 5 .nil .nil))) (.k (.c (.at_ 10 3 .nil .nil) (.at_ 12 5 .nil .nil))))))) (by rw [show (#[(.int .i64 x), (.int .i64 n)] : Array Value).toList = [(.int .i64 x), (.int .i64 n)] from rfl, coadjutorlaw01_NumShift.vc_eq]; exact h)
/-- function 4 -/
def coadjutorlaw01_NumRoot.vc (n : Int) (r : Int) (w : World) (R : Value → World → Prop) : Prop :=
  Calls Try.prog 14 #[] w (Ret fun v w1 => ∃ (x7 : Bool), v = (.bool x7) ∧
  ((!x7) = true →
  R (.bool false) w1) ∧
  ((!x7) = false →
  (1073741824 : Int) ≠ 0 ∧
  (decide (n < (0 : Int)) = true →
  Calls Try.prog 16 #[(.int .i64 (IntKind.i64.wrap ((IntKind.i64.wrap (Int.tmod (IntKind.u64.wrap r) 1073741824)) * (IntKind.i64.wrap (Int.tmod (IntKind.u64.wrap r) 1073741824)))))] w1 (Ret fun v_1 w2 => ∃ (x22 : Int), v_1 = (.int .i64 x22) ∧
  ((x22 == (IntKind.i64.wrap (Int.tmod (IntKind.u64.wrap r) 1073741824))) = true →
  (decide (n > (0 : Int)) = true →
  R (.bool true) w2) ∧
  (decide (n > (0 : Int)) = false →
  Calls Try.prog 16 #[(.int .i64 n)] w2 (Ret fun v_2 w3 => ∃ (x30 : Int), v_2 = (.int .i64 x30) ∧
  R (.bool (x30 == (0 : Int))) w3))) ∧
  ((x22 == (IntKind.i64.wrap (Int.tmod (IntKind.u64.wrap r) 1073741824))) = false →
  R (.bool false) w2))) ∧
  (decide (n < (0 : Int)) = false →
  (decide (n > (1152921504606846976 : Int)) = true →
  Calls Try.prog 16 #[(.int .i64 (IntKind.i64.wrap ((IntKind.i64.wrap (Int.tmod (IntKind.u64.wrap r) 1073741824)) * (IntKind.i64.wrap (Int.tmod (IntKind.u64.wrap r) 1073741824)))))] w1 (Ret fun v_3 w4 => ∃ (x22_1 : Int), v_3 = (.int .i64 x22_1) ∧
  ((x22_1 == (IntKind.i64.wrap (Int.tmod (IntKind.u64.wrap r) 1073741824))) = true →
  (decide (n > (0 : Int)) = true →
  R (.bool true) w4) ∧
  (decide (n > (0 : Int)) = false →
  Calls Try.prog 16 #[(.int .i64 n)] w4 (Ret fun v_4 w5 => ∃ (x30_1 : Int), v_4 = (.int .i64 x30_1) ∧
  R (.bool (x30_1 == (0 : Int))) w5))) ∧
  ((x22_1 == (IntKind.i64.wrap (Int.tmod (IntKind.u64.wrap r) 1073741824))) = false →
  R (.bool false) w4))) ∧
  (decide (n > (1152921504606846976 : Int)) = false →
  Calls Try.prog 16 #[(.int .i64 n)] w1 (Ret fun v_5 w6 => ∃ (x35 : Int), v_5 = (.int .i64 x35) ∧
  (decide (x35 ≥ (0 : Int)) = true →
  (decide ((IntKind.i64.wrap (x35 * x35)) ≤ n) = true →
  (decide ((IntKind.i64.wrap ((IntKind.i64.wrap (x35 + 1)) * (IntKind.i64.wrap (x35 + 1)))) > n) = true →
  Calls Try.prog 16 #[(.int .i64 (IntKind.i64.wrap ((IntKind.i64.wrap (Int.tmod (IntKind.u64.wrap r) 1073741824)) * (IntKind.i64.wrap (Int.tmod (IntKind.u64.wrap r) 1073741824)))))] w6 (Ret fun v_6 w7 => ∃ (x58 : Int), v_6 = (.int .i64 x58) ∧
  R (.bool (x58 == (IntKind.i64.wrap (Int.tmod (IntKind.u64.wrap r) 1073741824)))) w7)) ∧
  (decide ((IntKind.i64.wrap ((IntKind.i64.wrap (x35 + 1)) * (IntKind.i64.wrap (x35 + 1)))) > n) = false →
  R (.bool false) w6)) ∧
  (decide ((IntKind.i64.wrap (x35 * x35)) ≤ n) = false →
  R (.bool false) w6)) ∧
  (decide (x35 ≥ (0 : Int)) = false →
  R (.bool false) w6))))))
theorem coadjutorlaw01_NumRoot.vc_eq (n : Int) (r : Int) (w : World) (R : Value → World → Prop) : fnV Try.prog Try.f4 (.c .nil (.at_ 4 2 (.k (.at_ 5 6 (.at_ 5 9 .nil .nil) .nil)) (.c (.at_ 5 6 (.at_ 5 9 .nil .nil) .nil) (.at_ 7 2 (.at_ 7 9 (.at_ 7 18 .nil .nil) .nil) .nil)))) [(.int .i64 n), (.int .i64 r)] w R = coadjutorlaw01_NumRoot.vc n r w R := by kernel_rfl
theorem coadjutorlaw01_NumRoot.calls (n : Int) (r : Int) {w : World} {R : Value → World → Prop} (h : coadjutorlaw01_NumRoot.vc n r w R) : Calls Try.prog 4 #[(.int .i64 n), (.int .i64 r)] w (Ret R) :=
  calls_V fit Try.func4 (.c .nil (.at_ 4 2 (.k (.at_ 5 6 (.at_ 5 9 .nil .nil) .nil)) (.c (.at_ 5 6 (.at_ 5 9 .nil .nil) .nil) (.at_ 7 2 (.at_ 7 9 (.at_ 7 18 .nil .nil) .nil) .nil)))) (by rw [show (#[(.int .i64 n), (.int .i64 r)] : Array Value).toList = [(.int .i64 n), (.int .i64 r)] from rfl, coadjutorlaw01_NumRoot.vc_eq]; exact h)
/-- function 5 -/
def coadjutorlaw01_NumDiv.vc (va : Int) (b : Int) (w : World) (R : Value → World → Prop) : Prop :=
  Calls Try.prog 14 #[] w (Ret fun v w1 => ∃ (x7 : Bool), v = (.bool x7) ∧
  ((!x7) = true →
  R (.bool false) w1) ∧
  ((!x7) = false →
  (decide (va > (1152921504606846976 : Int)) = true →
  Calls Try.prog 17 #[(.int .i64 va), (.int .i64 0)] w1 (Ret fun v_1 w2 => ∃ (x28 : Int), v_1 = (.int .i64 x28) ∧
  R (.bool (x28 == (0 : Int))) w2)) ∧
  (decide (va > (1152921504606846976 : Int)) = false →
  (decide (va < (-1152921504606846976 : Int)) = true →
  Calls Try.prog 17 #[(.int .i64 va), (.int .i64 0)] w1 (Ret fun v_2 w3 => ∃ (x28_1 : Int), v_2 = (.int .i64 x28_1) ∧
  R (.bool (x28_1 == (0 : Int))) w3)) ∧
  (decide (va < (-1152921504606846976 : Int)) = false →
  (decide (b > (1152921504606846976 : Int)) = true →
  Calls Try.prog 17 #[(.int .i64 va), (.int .i64 0)] w1 (Ret fun v_3 w4 => ∃ (x28_2 : Int), v_3 = (.int .i64 x28_2) ∧
  R (.bool (x28_2 == (0 : Int))) w4)) ∧
  (decide (b > (1152921504606846976 : Int)) = false →
  (decide (b < (-1152921504606846976 : Int)) = true →
  Calls Try.prog 17 #[(.int .i64 va), (.int .i64 0)] w1 (Ret fun v_4 w5 => ∃ (x28_3 : Int), v_4 = (.int .i64 x28_3) ∧
  R (.bool (x28_3 == (0 : Int))) w5)) ∧
  (decide (b < (-1152921504606846976 : Int)) = false →
  ((b == (0 : Int)) = true →
  Calls Try.prog 17 #[(.int .i64 va), (.int .i64 0)] w1 (Ret fun v_5 w6 => ∃ (x28_4 : Int), v_5 = (.int .i64 x28_4) ∧
  R (.bool (x28_4 == (0 : Int))) w6)) ∧
  ((b == (0 : Int)) = false →
  Calls Try.prog 17 #[(.int .i64 va), (.int .i64 b)] w1 (Ret fun v_6 w7 => ∃ (x32 : Int), v_6 = (.int .i64 x32) ∧
  (decide (b > (0 : Int)) = true →
  (decide ((IntKind.i64.wrap (va - (IntKind.i64.wrap (x32 * b)))) ≥ (0 : Int)) = true →
  (decide ((IntKind.i64.wrap (va - (IntKind.i64.wrap (x32 * b)))) < b) = true →
  R (.bool true) w7) ∧
  (decide ((IntKind.i64.wrap (va - (IntKind.i64.wrap (x32 * b)))) < b) = false →
  (decide (b < (0 : Int)) = true →
  (decide ((IntKind.i64.wrap (va - (IntKind.i64.wrap (x32 * b)))) ≤ (0 : Int)) = true →
  R (.bool (decide ((IntKind.i64.wrap (va - (IntKind.i64.wrap (x32 * b)))) > b))) w7) ∧
  (decide ((IntKind.i64.wrap (va - (IntKind.i64.wrap (x32 * b)))) ≤ (0 : Int)) = false →
  R (.bool false) w7)) ∧
  (decide (b < (0 : Int)) = false →
  R (.bool false) w7))) ∧
  (decide ((IntKind.i64.wrap (va - (IntKind.i64.wrap (x32 * b)))) ≥ (0 : Int)) = false →
  (decide (b < (0 : Int)) = true →
  (decide ((IntKind.i64.wrap (va - (IntKind.i64.wrap (x32 * b)))) ≤ (0 : Int)) = true →
  R (.bool (decide ((IntKind.i64.wrap (va - (IntKind.i64.wrap (x32 * b)))) > b))) w7) ∧
  (decide ((IntKind.i64.wrap (va - (IntKind.i64.wrap (x32 * b)))) ≤ (0 : Int)) = false →
  R (.bool false) w7)) ∧
  (decide (b < (0 : Int)) = false →
  R (.bool false) w7))) ∧
  (decide (b > (0 : Int)) = false →
  (decide (b < (0 : Int)) = true →
  (decide ((IntKind.i64.wrap (va - (IntKind.i64.wrap (x32 * b)))) ≤ (0 : Int)) = true →
  R (.bool (decide ((IntKind.i64.wrap (va - (IntKind.i64.wrap (x32 * b)))) > b))) w7) ∧
  (decide ((IntKind.i64.wrap (va - (IntKind.i64.wrap (x32 * b)))) ≤ (0 : Int)) = false →
  R (.bool false) w7)) ∧
  (decide (b < (0 : Int)) = false →
  R (.bool false) w7))))))))))
theorem coadjutorlaw01_NumDiv.vc_eq (va : Int) (b : Int) (w : World) (R : Value → World → Prop) : fnV Try.prog Try.f5 (.c .nil (.at_ 3 2 (.k .nil) (.at_ 3 6 (.k .nil) (.at_ 3 10 (.k .nil) (.at_ 3 14 (.k .nil) (.c .nil (.at_ 7 2 (.at_ 7 6 (.at_ 7 11 .nil (.at_ 7 14 (.at_ 7 18 .nil .nil) .nil)) (.at_ 7 14 (.at_ 7 18 .nil .nil) .nil)) (.at_ 7 14 (.at_ 7 18 .nil .nil) .nil)))))))) [(.int .i64 va), (.int .i64 b)] w R = coadjutorlaw01_NumDiv.vc va b w R := by kernel_rfl
theorem coadjutorlaw01_NumDiv.calls (va : Int) (b : Int) {w : World} {R : Value → World → Prop} (h : coadjutorlaw01_NumDiv.vc va b w R) : Calls Try.prog 5 #[(.int .i64 va), (.int .i64 b)] w (Ret R) :=
  calls_V fit Try.func5 (.c .nil (.at_ 3 2 (.k .nil) (.at_ 3 6 (.k .nil) (.at_ 3 10 (.k .nil) (.at_ 3 14 (.k .nil) (.c .nil (.at_ 7 2 (.at_ 7 6 (.at_ 7 11 .nil (.at_ 7 14 (.at_ 7 18 .nil .nil) .nil)) (.at_ 7 14 (.at_ 7 18 .nil .nil) .nil)) (.at_ 7 14 (.at_ 7 18 .nil .nil) .nil)))))))) (by rw [show (#[(.int .i64 va), (.int .i64 b)] : Array Value).toList = [(.int .i64 va), (.int .i64 b)] from rfl, coadjutorlaw01_NumDiv.vc_eq]; exact h)
/-- function 6 -/
def coadjutorlaw01_NumExact.vc (va : Int) (b : Int) (c : Int) (n : Int) (w : World) (R : Value → World → Prop) : Prop :=
  Calls Try.prog 14 #[] w (Ret fun v w1 => ∃ (x9 : Bool), v = (.bool x9) ∧
  ((!x9) = true →
  R (.bool false) w1) ∧
  ((!x9) = false →
  Calls Try.prog 18 #[(.int .i64 va), (.int .i64 b), (.int .i64 c)] w1 (Ret fun v_1 w2 => ∃ (x14 : Int), v_1 = (.int .i64 x14) ∧
  Calls Try.prog 19 #[(.int .i64 va), (.int .i64 b), (.int .i64 c)] w2 (Ret fun v_2 w3 => ∃ (x18 : Int), v_2 = (.int .i64 x18) ∧
  ((x14 == x18) = true →
  Calls Try.prog 20 #[(.int .i64 va)] w3 (Ret fun v_3 w4 => ∃ (x22 : Int), v_3 = (.int .i64 x22) ∧
  Calls Try.prog 21 #[(.int .i64 va)] w4 (Ret fun v_4 w5 => ∃ (x24 : Int), v_4 = (.int .i64 x24) ∧
  ((x22 == x24) = true →
  Calls Try.prog 15 #[(.int .i64 va), (.int .i64 n)] w5 (Ret fun v_5 w6 => ∃ (x30 : Int), v_5 = (.int .i64 x30) ∧
  Calls Try.prog 22 #[(.int .i64 va), (.int .i64 n)] w6 (Ret fun v_6 w7 => ∃ (x33 : Int), v_6 = (.int .i64 x33) ∧
  ((x30 == x33) = true →
  Calls Try.prog 23 #[(.int .i64 va), (.int .i64 b), (.int .i64 n)] w7 (Ret fun v_7 w8 => ∃ (x40 : Int), v_7 = (.int .i64 x40) ∧
  Calls Try.prog 24 #[(.int .i64 va), (.int .i64 b), (.int .i64 n)] w8 (Ret fun v_8 w9 => ∃ (x44 : Int), v_8 = (.int .i64 x44) ∧
  ((x40 == x44) = true →
  Calls Try.prog 16 #[(.int .i64 va)] w9 (Ret fun v_9 w10 => ∃ (x49 : Int), v_9 = (.int .i64 x49) ∧
  Calls Try.prog 25 #[(.int .i64 va)] w10 (Ret fun v_10 w11 => ∃ (x51 : Int), v_10 = (.int .i64 x51) ∧
  ((x49 == x51) = true →
  Calls Try.prog 17 #[(.int .i64 va), (.int .i64 b)] w11 (Ret fun v_11 w12 => ∃ (x57 : Int), v_11 = (.int .i64 x57) ∧
  Calls Try.prog 26 #[(.int .i64 va), (.int .i64 b)] w12 (Ret fun v_12 w13 => ∃ (x60 : Int), v_12 = (.int .i64 x60) ∧
  R (.bool (x57 == x60)) w13))) ∧
  ((x49 == x51) = false →
  R (.bool false) w11)))) ∧
  ((x40 == x44) = false →
  R (.bool false) w9)))) ∧
  ((x30 == x33) = false →
  R (.bool false) w7)))) ∧
  ((x22 == x24) = false →
  R (.bool false) w5)))) ∧
  ((x14 == x18) = false →
  R (.bool false) w3)))))
theorem coadjutorlaw01_NumExact.vc_eq (va : Int) (b : Int) (c : Int) (n : Int) (w : World) (R : Value → World → Prop) : fnV Try.prog Try.f6 (.c .nil (.at_ 3 9 (.at_ 3 16 (.at_ 3 25 (.at_ 3 36 (.at_ 3 43 .nil .nil) .nil) .nil) .nil) .nil)) [(.int .i64 va), (.int .i64 b), (.int .i64 c), (.int .i64 n)] w R = coadjutorlaw01_NumExact.vc va b c n w R := by kernel_rfl
theorem coadjutorlaw01_NumExact.calls (va : Int) (b : Int) (c : Int) (n : Int) {w : World} {R : Value → World → Prop} (h : coadjutorlaw01_NumExact.vc va b c n w R) : Calls Try.prog 6 #[(.int .i64 va), (.int .i64 b), (.int .i64 c), (.int .i64 n)] w (Ret R) :=
  calls_V fit Try.func6 (.c .nil (.at_ 3 9 (.at_ 3 16 (.at_ 3 25 (.at_ 3 36 (.at_ 3 43 .nil .nil) .nil) .nil) .nil) .nil)) (by rw [show (#[(.int .i64 va), (.int .i64 b), (.int .i64 c), (.int .i64 n)] : Array Value).toList = [(.int .i64 va), (.int .i64 b), (.int .i64 c), (.int .i64 n)] from rfl, coadjutorlaw01_NumExact.vc_eq]; exact h)
end Go.Proofs.Ytefidalhijpmdaa.Vc
