import Derived.Test.YtfhnegfoglngoaaVc
import Derived.Test.YtfhnegfoglngoaaH
import Derived.Test.YtfhnegfoglngoaaProg
import Derived.KernelRfl
set_option linter.unusedVariables false
set_option maxRecDepth 100000
namespace Go.Proofs.Ytfhnegfoglngoaa.Vc
open Go Go.Proofs Go.Proofs.Ytfhnegfoglngoaa.V
/-- function 56 -/
def num_Clamp.vc (x : Int) (low : Int) (high : Int) (w : World) (R : Value → World → Prop) : Prop :=
  (decide (x < low) = true →
  R (.int .i64 low) w) ∧
  (decide (x < low) = false →
  (decide (x > high) = true →
  R (.int .i64 high) w) ∧
  (decide (x > high) = false →
  R (.int .i64 x) w))
theorem num_Clamp.vc_eq (x : Int) (low : Int) (high : Int) (w : World) (R : Value → World → Prop) : fnV Try.prog Try.f56 (.c .nil (.c .nil .nil)) [(.int .i64 x), (.int .i64 low), (.int .i64 high)] w R = num_Clamp.vc x low high w R := by kernel_rfl
theorem num_Clamp.calls (x : Int) (low : Int) (high : Int) {w : World} {R : Value → World → Prop} (h : num_Clamp.vc x low high w R) : Calls Try.prog 56 #[(.int .i64 x), (.int .i64 low), (.int .i64 high)] w (Ret R) :=
  calls_V fit Try.func56 (.c .nil (.c .nil .nil)) (by rw [show (#[(.int .i64 x), (.int .i64 low), (.int .i64 high)] : Array Value).toList = [(.int .i64 x), (.int .i64 low), (.int .i64 high)] from rfl, num_Clamp.vc_eq]; exact h)
/-- function 33 -/
def num_Sat.vc (x : Int) (w : World) (R : Value → World → Prop) : Prop :=
  Calls Try.prog 56 #[(.int .i64 x), (.int .i64 (-32767)), (.int .i64 32767)] w (Ret fun v w1 => ∃ (x4 : Int), v = (.int .i64 x4) ∧
  R (.int .i64 x4) w1)
theorem num_Sat.vc_eq (x : Int) (w : World) (R : Value → World → Prop) : fnV Try.prog Try.f33 .nil [(.int .i64 x)] w R = num_Sat.vc x w R := by kernel_rfl
theorem num_Sat.calls (x : Int) {w : World} {R : Value → World → Prop} (h : num_Sat.vc x w R) : Calls Try.prog 33 #[(.int .i64 x)] w (Ret R) :=
  calls_V fit Try.func33 .nil (by rw [show (#[(.int .i64 x)] : Array Value).toList = [(.int .i64 x)] from rfl, num_Sat.vc_eq]; exact h)
/-- function 63 -/
def num_Shift.vc (x : Int) (n : Int) (w : World) (R : Value → World → Prop) : Prop :=
  (decide (n ≤ (0 : Int)) = true →
  R (.int .i64 x) w) ∧
  (decide (n ≤ (0 : Int)) = false →
  (decide (n ≥ (63 : Int)) = true →
  R (.int .i64 0) w) ∧
  (decide (n ≥ (63 : Int)) = false →
  ∃ vS : World → Prop, ∀ w1 : World, w1 = w.drew → vS w1 ∧
  0 ≤ n ∧
  0 ≤ (IntKind.i64.wrap (n - 1)) ∧
  R (.int .i64 (IntKind.i64.wrap ((Int.fdiv x (2 ^ (min n.toNat IntKind.i64.bits))) + (Go.bits .and .i64 (Int.fdiv x (2 ^ (min (IntKind.i64.wrap (n - 1)).toNat IntKind.i64.bits))) 1)))) w1))
theorem num_Shift.vc_eq (x : Int) (n : Int) (w : World) (R : Value → World → Prop) : fnV Try.prog Try.f63 (.c .nil (.c .nil (.tk 0 (.tk 1 (.tk 2 (.tk 3 (.tk 4 (.tk 5 (.tk 6 (.tk 7 (.tk 8 (.tk 9 (.fin .nil))))))))))))) [(.int .i64 x), (.int .i64 n)] w R = num_Shift.vc x n w R := by kernel_rfl
theorem num_Shift.calls (x : Int) (n : Int) {w : World} {R : Value → World → Prop} (h : num_Shift.vc x n w R) : Calls Try.prog 63 #[(.int .i64 x), (.int .i64 n)] w (Ret R) :=
  calls_V fit Try.func63 (.c .nil (.c .nil (.tk 0 (.tk 1 (.tk 2 (.tk 3 (.tk 4 (.tk 5 (.tk 6 (.tk 7 (.tk 8 (.tk 9 (.fin .nil))))))))))))) (by rw [show (#[(.int .i64 x), (.int .i64 n)] : Array Value).toList = [(.int .i64 x), (.int .i64 n)] from rfl, num_Shift.vc_eq]; exact h)
/-- function 83 -/
def num_Mul.vc (va : Int) (b : Int) (n : Int) (w : World) (R : Value → World → Prop) : Prop :=
  Calls Try.prog 85 #[(.int .i64 va), (.int .i64 b)] w (Ret fun v w1 => ∃ (x9 : Int), v = (.int .i64 x9) ∧
  Calls Try.prog 63 #[(.int .i64 x9), (.int .i64 n)] w1 (Ret fun v_1 w2 => ∃ (x11 : Int), v_1 = (.int .i64 x11) ∧
  Calls Try.prog 33 #[(.int .i64 x11)] w2 (Ret fun v_2 w3 => ∃ (x12 : Int), v_2 = (.int .i64 x12) ∧
  R (.int .i64 x12) w3)))
theorem num_Mul.vc_eq (va : Int) (b : Int) (n : Int) (w : World) (R : Value → World → Prop) : fnV Try.prog Try.f83 .nil [(.int .i64 va), (.int .i64 b), (.int .i64 n)] w R = num_Mul.vc va b n w R := by kernel_rfl
theorem num_Mul.calls (va : Int) (b : Int) (n : Int) {w : World} {R : Value → World → Prop} (h : num_Mul.vc va b n w R) : Calls Try.prog 83 #[(.int .i64 va), (.int .i64 b), (.int .i64 n)] w (Ret R) :=
  calls_V fit Try.func83 .nil (by rw [show (#[(.int .i64 va), (.int .i64 b), (.int .i64 n)] : Array Value).toList = [(.int .i64 va), (.int .i64 b), (.int .i64 n)] from rfl, num_Mul.vc_eq]; exact h)
/-- function 95 -/
def num_Sqrt.vc (n : Int) (w : World) (R : Value → World → Prop) : Prop :=
  (decide (n ≤ (0 : Int)) = true →
  R (.int .i64 0) w) ∧
  (decide (n ≤ (0 : Int)) = false →
  (2 : Int) ≠ 0 ∧
  ∃ vI : Int → Int → Nat → World → Prop, (∃ vk_2 : Nat, vI n (IntKind.i64.wrap ((IntKind.i64.wrap (Int.tdiv n 2)) + (Go.bits .and .i64 n 1))) vk_2 w) ∧
  ∀ (jk : Nat → Value) (x : Int) (y : Int), ∀ (vk : Nat) (w1 : World), vI x y vk w1 →
  (decide (y < x) = true →
  y ≠ 0 ∧
  (2 : Int) ≠ 0 ∧
  ∃ vk_1 : Nat, vk_1 < vk ∧ vI y (IntKind.i64.wrap (Int.tdiv (IntKind.i64.wrap (y + (IntKind.i64.wrap (Int.tdiv n y)))) 2)) vk_1 w1) ∧
  (decide (y < x) = false →
  R (.int .i64 x) w1))
theorem num_Sqrt.vc_eq (n : Int) (w : World) (R : Value → World → Prop) : fnV Try.prog Try.f95 (.c .nil (.lp [(3, some (.int .i64)), (4, some (.int .i64)), (13, none), (14, none), (15, none), (16, none), (17, none), (18, none), (19, none), (20, none), (21, none), (22, none)] (.c .nil .nil))) [(.int .i64 n)] w R = num_Sqrt.vc n w R := by kernel_rfl
theorem num_Sqrt.calls (n : Int) {w : World} {R : Value → World → Prop} (h : num_Sqrt.vc n w R) : Calls Try.prog 95 #[(.int .i64 n)] w (Ret R) :=
  calls_V fit Try.func95 (.c .nil (.lp [(3, some (.int .i64)), (4, some (.int .i64)), (13, none), (14, none), (15, none), (16, none), (17, none), (18, none), (19, none), (20, none), (21, none), (22, none)] (.c .nil .nil))) (by rw [show (#[(.int .i64 n)] : Array Value).toList = [(.int .i64 n)] from rfl, num_Sqrt.vc_eq]; exact h)
/-- function 94 -/
def num_Div.vc (va : Int) (b : Int) (w : World) (R : Value → World → Prop) : Prop :=
  ((b == (0 : Int)) = true →
  R (.int .i64 0) w) ∧
  ((b == (0 : Int)) = false →
  ((b == (-1 : Int)) = true →
  R (.int .i64 (if (IntKind.i64.wrap (0 - (IntKind.i64.wrap (va + 1)))) > (IntKind.i64.wrap (0 - va)) then (IntKind.i64.wrap (0 - (IntKind.i64.wrap (va + 1)))) else (IntKind.i64.wrap (0 - va)))) w) ∧
  ((b == (-1 : Int)) = false →
  b ≠ 0 ∧
  b ≠ 0 ∧
  (((Int.tmod va b) != (0 : Int)) = true →
  ((!((decide (va < (0 : Int))) == (decide (b < (0 : Int))))) = true →
  R (.int .i64 (IntKind.i64.wrap ((IntKind.i64.wrap (Int.tdiv va b)) - 1))) w) ∧
  ((!((decide (va < (0 : Int))) == (decide (b < (0 : Int))))) = false →
  R (.int .i64 (IntKind.i64.wrap (Int.tdiv va b))) w)) ∧
  (((Int.tmod va b) != (0 : Int)) = false →
  R (.int .i64 (IntKind.i64.wrap (Int.tdiv va b))) w)))
theorem num_Div.vc_eq (va : Int) (b : Int) (w : World) (R : Value → World → Prop) : fnV Try.prog Try.f94 (.c .nil (.c .nil (.at_ 6 4 (.c .nil .nil) (.k .nil)))) [(.int .i64 va), (.int .i64 b)] w R = num_Div.vc va b w R := by kernel_rfl
theorem num_Div.calls (va : Int) (b : Int) {w : World} {R : Value → World → Prop} (h : num_Div.vc va b w R) : Calls Try.prog 94 #[(.int .i64 va), (.int .i64 b)] w (Ret R) :=
  calls_V fit Try.func94 (.c .nil (.c .nil (.at_ 6 4 (.c .nil .nil) (.k .nil)))) (by rw [show (#[(.int .i64 va), (.int .i64 b)] : Array Value).toList = [(.int .i64 va), (.int .i64 b)] from rfl, num_Div.vc_eq]; exact h)
/-- function 85 -/
def num_product.vc (va : Int) (b : Int) (w : World) (R : Value → World → Prop) : Prop :=
  Calls Try.prog 56 #[(.int .i64 va), (.int .i64 (-1073741824)), (.int .i64 1073741824)] w (Ret fun v w1 => ∃ (x6 : Int), v = (.int .i64 x6) ∧
  Calls Try.prog 56 #[(.int .i64 b), (.int .i64 (-1073741824)), (.int .i64 1073741824)] w1 (Ret fun v_1 w2 => ∃ (x8 : Int), v_1 = (.int .i64 x8) ∧
  R (.int .i64 (IntKind.i64.wrap (x6 * x8))) w2))
theorem num_product.vc_eq (va : Int) (b : Int) (w : World) (R : Value → World → Prop) : fnV Try.prog Try.f85 .nil [(.int .i64 va), (.int .i64 b)] w R = num_product.vc va b w R := by kernel_rfl
theorem num_product.calls (va : Int) (b : Int) {w : World} {R : Value → World → Prop} (h : num_product.vc va b w R) : Calls Try.prog 85 #[(.int .i64 va), (.int .i64 b)] w (Ret R) :=
  calls_V fit Try.func85 .nil (by rw [show (#[(.int .i64 va), (.int .i64 b)] : Array Value).toList = [(.int .i64 va), (.int .i64 b)] from rfl, num_product.vc_eq]; exact h)
/-- function 66 -/
def num_Sum.vc (listA : Option Addr) (listN : Nat) (listC : Nat) (w : World) (R : Value → World → Prop) : Prop :=
  ∃ vI : Int → Int → Nat → World → Prop, (∃ vk_2 : Nat, vI 0 0 vk_2 w) ∧
  ∀ (jk : Nat → Value) (out : Int) (x8 : Int), ∀ (vk : Nat) (w1 : World), vI out x8 vk w1 →
  (decide (x8 < ((listN : Nat) : Int)) = true →
  (0 ≤ x8 ∧ x8 < ((listN : Nat) : Int)) ∧ someV listA fun p =>
  ∃ (x11 : Int), w1.cell? (p.add (x8.toNat * 1)) = some (.int .i64 x11) ∧
  Calls Try.prog 56 #[(.int .i64 x11), (.int .i64 (-2305843009213693952)), (.int .i64 2305843009213693952)] w1 (Ret fun v w2 => ∃ (x14 : Int), v = (.int .i64 x14) ∧
  Calls Try.prog 56 #[(.int .i64 (IntKind.i64.wrap (out + x14))), (.int .i64 (-4611686018427387904)), (.int .i64 4611686018427387904)] w2 (Ret fun v_1 w3 => ∃ (x16 : Int), v_1 = (.int .i64 x16) ∧
  ∃ vk_1 : Nat, vk_1 < vk ∧ vI x16 (IntKind.i64.wrap (x8 + 1)) vk_1 w3))) ∧
  (decide (x8 < ((listN : Nat) : Int)) = false →
  R (.int .i64 out) w1)
theorem num_Sum.vc_eq (listA : Option Addr) (listN : Nat) (listC : Nat) (w : World) (R : Value → World → Prop) : fnV Try.prog Try.f66 (.lp [(3, some (.int .i64)), (5, none), (8, some (.int .i64)), (9, none), (10, none), (11, none), (12, none), (13, none), (14, none), (15, none), (16, none), (17, none)] (.c .nil .nil)) [(.slice listA listN listC)] w R = num_Sum.vc listA listN listC w R := by kernel_rfl
theorem num_Sum.calls (listA : Option Addr) (listN : Nat) (listC : Nat) {w : World} {R : Value → World → Prop} (h : num_Sum.vc listA listN listC w R) : Calls Try.prog 66 #[(.slice listA listN listC)] w (Ret R) :=
  calls_V fit Try.func66 (.lp [(3, some (.int .i64)), (5, none), (8, some (.int .i64)), (9, none), (10, none), (11, none), (12, none), (13, none), (14, none), (15, none), (16, none), (17, none)] (.c .nil .nil)) (by rw [show (#[(.slice listA listN listC)] : Array Value).toList = [(.slice listA listN listC)] from rfl, num_Sum.vc_eq]; exact h)
/-- function 96 -/
def num_Mean.vc (listA : Option Addr) (listN : Nat) (listC : Nat) (w : World) (R : Value → World → Prop) : Prop :=
  Calls Try.prog 66 #[(.slice listA listN listC)] w (Ret fun v w1 => ∃ (x4 : Int), v = (.int .i64 x4) ∧
  Calls Try.prog 94 #[(.int .i64 x4), (.int .i64 ((listN : Nat) : Int))] w1 (Ret fun v_1 w2 => ∃ (x7 : Int), v_1 = (.int .i64 x7) ∧
  R (.int .i64 x7) w2))
theorem num_Mean.vc_eq (listA : Option Addr) (listN : Nat) (listC : Nat) (w : World) (R : Value → World → Prop) : fnV Try.prog Try.f96 .nil [(.slice listA listN listC)] w R = num_Mean.vc listA listN listC w R := by kernel_rfl
theorem num_Mean.calls (listA : Option Addr) (listN : Nat) (listC : Nat) {w : World} {R : Value → World → Prop} (h : num_Mean.vc listA listN listC w R) : Calls Try.prog 96 #[(.slice listA listN listC)] w (Ret R) :=
  calls_V fit Try.func96 .nil (by rw [show (#[(.slice listA listN listC)] : Array Value).toList = [(.slice listA listN listC)] from rfl, num_Mean.vc_eq]; exact h)
/-- function 64 -/
def num_Dot.vc (aA : Option Addr) (aN : Nat) (aC : Nat) (bA : Option Addr) (bN : Nat) (bC : Nat) (w : World) (R : Value → World → Prop) : Prop :=
  ∃ vI : Int → Int → Nat → World → Prop, (∃ vk_2 : Nat, vI 0 0 vk_2 w) ∧
  ∀ (jk : Nat → Value) (out : Int) (x12 : Int), ∀ (vk : Nat) (w1 : World), vI out x12 vk w1 →
  (decide (x12 < (if ((bN : Nat) : Int) < ((aN : Nat) : Int) then ((bN : Nat) : Int) else ((aN : Nat) : Int))) = true →
  ∃ vS : World → Prop, ∀ w2 : World, w2 = w1.drew → vS w2 ∧
  (0 ≤ x12 ∧ x12 < ((aN : Nat) : Int)) ∧ someV aA fun p =>
  ∃ (x19 : Int), (∀ w3, vS w3 → w3.cell? (p.add (x12.toNat * 1)) = some (.int .i64 x19)) ∧
  (0 ≤ x12 ∧ x12 < ((bN : Nat) : Int)) ∧ someV bA fun p_1 =>
  ∃ (x23 : Int), (∀ w4, vS w4 → w4.cell? (p_1.add (x12.toNat * 1)) = some (.int .i64 x23)) ∧
  Calls Try.prog 85 #[(.int .i64 x19), (.int .i64 x23)] w2 (Ret fun v w5 => ∃ (x24 : Int), v = (.int .i64 x24) ∧
  vS w5 ∧
  Calls Try.prog 56 #[(.int .i64 (IntKind.i64.wrap (out + x24))), (.int .i64 (-4611686018427387904)), (.int .i64 4611686018427387904)] w5 (Ret fun v_1 w6 => ∃ (x26 : Int), v_1 = (.int .i64 x26) ∧
  vS w6 ∧
  ∃ vk_1 : Nat, vk_1 < vk ∧ vI x26 (IntKind.i64.wrap (x12 + 1)) vk_1 w6))) ∧
  (decide (x12 < (if ((bN : Nat) : Int) < ((aN : Nat) : Int) then ((bN : Nat) : Int) else ((aN : Nat) : Int))) = false →
  R (.int .i64 out) w1)
theorem num_Dot.vc_eq (aA : Option Addr) (aN : Nat) (aC : Nat) (bA : Option Addr) (bN : Nat) (bC : Nat) (w : World) (R : Value → World → Prop) : fnV Try.prog Try.f64 (.lp [(5, some (.int .i64)), (6, none), (12, some (.int .i64)), (13, none), (14, none), (15, none), (16, none), (17, none), (18, none), (19, none), (20, none), (21, none), (22, none), (23, none), (24, none), (25, none), (26, none), (27, none)] (.c (.tk 0 (.tk 1 (.tk 2 (.tk 3 (.tk 4 (.tk 5 (.tk 6 (.tk 7 (.tk 8 (.alt 9 (.tk 10 (.alt 11 (.tk 12 (.fin .nil)) .nil)) .nil)))))))))) .nil)) [(.slice aA aN aC), (.slice bA bN bC)] w R = num_Dot.vc aA aN aC bA bN bC w R := by kernel_rfl
theorem num_Dot.calls (aA : Option Addr) (aN : Nat) (aC : Nat) (bA : Option Addr) (bN : Nat) (bC : Nat) {w : World} {R : Value → World → Prop} (h : num_Dot.vc aA aN aC bA bN bC w R) : Calls Try.prog 64 #[(.slice aA aN aC), (.slice bA bN bC)] w (Ret R) :=
  calls_V fit Try.func64 (.lp [(5, some (.int .i64)), (6, none), (12, some (.int .i64)), (13, none), (14, none), (15, none), (16, none), (17, none), (18, none), (19, none), (20, none), (21, none), (22, none), (23, none), (24, none), (25, none), (26, none), (27, none)] (.c (.tk 0 (.tk 1 (.tk 2 (.tk 3 (.tk 4 (.tk 5 (.tk 6 (.tk 7 (.tk 8 (.alt 9 (.tk 10 (.alt 11 (.tk 12 (.fin .nil)) .nil)) .nil)))))))))) .nil)) (by rw [show (#[(.slice aA aN aC), (.slice bA bN bC)] : Array Value).toList = [(.slice aA aN aC), (.slice bA bN bC)] from rfl, num_Dot.vc_eq]; exact h)
/-- function 87 -/
def coadjutorref01_Clamp.vc (x : Int) (low : Int) (high : Int) (w : World) (R : Value → World → Prop) : Prop :=
  (decide (x < low) = true →
  R (.int .i64 low) w) ∧
  (decide (x < low) = false →
  (decide (x > high) = true →
  R (.int .i64 high) w) ∧
  (decide (x > high) = false →
  R (.int .i64 x) w))
theorem coadjutorref01_Clamp.vc_eq (x : Int) (low : Int) (high : Int) (w : World) (R : Value → World → Prop) : fnV Try.prog Try.f87 (.c .nil (.c .nil .nil)) [(.int .i64 x), (.int .i64 low), (.int .i64 high)] w R = coadjutorref01_Clamp.vc x low high w R := by kernel_rfl
theorem coadjutorref01_Clamp.calls (x : Int) (low : Int) (high : Int) {w : World} {R : Value → World → Prop} (h : coadjutorref01_Clamp.vc x low high w R) : Calls Try.prog 87 #[(.int .i64 x), (.int .i64 low), (.int .i64 high)] w (Ret R) :=
  calls_V fit Try.func87 (.c .nil (.c .nil .nil)) (by rw [show (#[(.int .i64 x), (.int .i64 low), (.int .i64 high)] : Array Value).toList = [(.int .i64 x), (.int .i64 low), (.int .i64 high)] from rfl, coadjutorref01_Clamp.vc_eq]; exact h)
end Go.Proofs.Ytfhnegfoglngoaa.Vc
