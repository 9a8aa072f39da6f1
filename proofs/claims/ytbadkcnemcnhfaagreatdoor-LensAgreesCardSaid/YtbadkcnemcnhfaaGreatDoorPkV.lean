/- What functions of the program come to, as conditions. -/
import Derived.Test.YtbadkcnemcnhfaaGreatDoorVc
import Derived.Test.YtbadkcnemcnhfaaGreatDoorH
import Derived.Test.YtbadkcnemcnhfaaGreatDoorProg
import Derived.KernelRfl
set_option linter.unusedVariables false
set_option maxRecDepth 100000
namespace Go.Proofs.YtbadkcnemcnhfaaGreatDoor.Vc
open Go Go.Proofs Go.Proofs.YtbadkcnemcnhfaaGreatDoor.V
/-- function 113 -/
def num_Clamp.vc (x : Int) (low : Int) (high : Int) (w : World) (R : Value → World → Prop) : Prop :=
  (decide (x < low) = true →
  R (.int .i64 low) w) ∧
  (decide (x < low) = false →
  (decide (x > high) = true →
  R (.int .i64 high) w) ∧
  (decide (x > high) = false →
  R (.int .i64 x) w))
theorem num_Clamp.vc_eq (x : Int) (low : Int) (high : Int) (w : World) (R : Value → World → Prop) : fnV Tryz.prog Tryz.f113 (.c .nil (.c .nil .nil)) [(.int .i64 x), (.int .i64 low), (.int .i64 high)] w R = num_Clamp.vc x low high w R := by kernel_rfl
theorem num_Clamp.calls (x : Int) (low : Int) (high : Int) {w : World} {R : Value → World → Prop} (h : num_Clamp.vc x low high w R) : Calls Tryz.prog 113 #[(.int .i64 x), (.int .i64 low), (.int .i64 high)] w (Ret R) :=
  calls_V fit Tryz.func113 (.c .nil (.c .nil .nil)) (by rw [show (#[(.int .i64 x), (.int .i64 low), (.int .i64 high)] : Array Value).toList = [(.int .i64 x), (.int .i64 low), (.int .i64 high)] from rfl, num_Clamp.vc_eq]; exact h)
/-- function 92 -/
def num_Sat.vc (x : Int) (w : World) (R : Value → World → Prop) : Prop :=
  Calls Tryz.prog 113 #[(.int .i64 x), (.int .i64 (-32767)), (.int .i64 32767)] w (Ret fun v w1 => ∃ (x4 : Int), v = (.int .i64 x4) ∧
  R (.int .i64 x4) w1)
theorem num_Sat.vc_eq (x : Int) (w : World) (R : Value → World → Prop) : fnV Tryz.prog Tryz.f92 .nil [(.int .i64 x)] w R = num_Sat.vc x w R := by kernel_rfl
theorem num_Sat.calls (x : Int) {w : World} {R : Value → World → Prop} (h : num_Sat.vc x w R) : Calls Tryz.prog 92 #[(.int .i64 x)] w (Ret R) :=
  calls_V fit Tryz.func92 .nil (by rw [show (#[(.int .i64 x)] : Array Value).toList = [(.int .i64 x)] from rfl, num_Sat.vc_eq]; exact h)
/-- function 120 -/
def num_Shift.vc (x : Int) (n : Int) (w : World) (R : Value → World → Prop) : Prop :=
  (decide (n ≤ (0 : Int)) = true →
  R (.int .i64 x) w) ∧
  (decide (n ≤ (0 : Int)) = false →
  (decide (n ≥ (63 : Int)) = true →
  R (.int .i64 0) w) ∧
  (decide (n ≥ (63 : Int)) = false →
  ∃ vS : World → Prop, ∀ w1 : World, w1 = w.drew → vS w1 ∧
  0 ≤ n ∧
  0 ≤ (IntKind.i64.wrap (n - 1)) ∧
  R (.int .i64 (IntKind.i64.wrap ((Int.fdiv x (2 ^ (min n.toNat IntKind.i64.bits))) + (Go.bits .and .i64 (Int.fdiv x (2 ^ (min (IntKind.i64.wrap (n - 1)).toNat IntKind.i64.bits))) 1)))) w1))
theorem num_Shift.vc_eq (x : Int) (n : Int) (w : World) (R : Value → World → Prop) : fnV Tryz.prog Tryz.f120 (.c .nil (.c .nil (.tk 0 (.tk 1 (.tk 2 (.tk 3 (.tk 4 (.tk 5 (.tk 6 (.tk 7 (.tk 8 (.tk 9 (.fin .nil))))))))))))) [(.int .i64 x), (.int .i64 n)] w R = num_Shift.vc x n w R := by kernel_rfl
theorem num_Shift.calls (x : Int) (n : Int) {w : World} {R : Value → World → Prop} (h : num_Shift.vc x n w R) : Calls Tryz.prog 120 #[(.int .i64 x), (.int .i64 n)] w (Ret R) :=
  calls_V fit Tryz.func120 (.c .nil (.c .nil (.tk 0 (.tk 1 (.tk 2 (.tk 3 (.tk 4 (.tk 5 (.tk 6 (.tk 7 (.tk 8 (.tk 9 (.fin .nil))))))))))))) (by rw [show (#[(.int .i64 x), (.int .i64 n)] : Array Value).toList = [(.int .i64 x), (.int .i64 n)] from rfl, num_Shift.vc_eq]; exact h)
/-- function 135 -/
def num_Mul.vc (va : Int) (b : Int) (n : Int) (w : World) (R : Value → World → Prop) : Prop :=
  Calls Tryz.prog 137 #[(.int .i64 va), (.int .i64 b)] w (Ret fun v w1 => ∃ (x9 : Int), v = (.int .i64 x9) ∧
  Calls Tryz.prog 120 #[(.int .i64 x9), (.int .i64 n)] w1 (Ret fun v_1 w2 => ∃ (x11 : Int), v_1 = (.int .i64 x11) ∧
  Calls Tryz.prog 92 #[(.int .i64 x11)] w2 (Ret fun v_2 w3 => ∃ (x12 : Int), v_2 = (.int .i64 x12) ∧
  R (.int .i64 x12) w3)))
theorem num_Mul.vc_eq (va : Int) (b : Int) (n : Int) (w : World) (R : Value → World → Prop) : fnV Tryz.prog Tryz.f135 .nil [(.int .i64 va), (.int .i64 b), (.int .i64 n)] w R = num_Mul.vc va b n w R := by kernel_rfl
theorem num_Mul.calls (va : Int) (b : Int) (n : Int) {w : World} {R : Value → World → Prop} (h : num_Mul.vc va b n w R) : Calls Tryz.prog 135 #[(.int .i64 va), (.int .i64 b), (.int .i64 n)] w (Ret R) :=
  calls_V fit Tryz.func135 .nil (by rw [show (#[(.int .i64 va), (.int .i64 b), (.int .i64 n)] : Array Value).toList = [(.int .i64 va), (.int .i64 b), (.int .i64 n)] from rfl, num_Mul.vc_eq]; exact h)
/-- function 147 -/
def num_Sqrt.vc (n : Int) (w : World) (R : Value → World → Prop) : Prop :=
  (decide (n ≤ (0 : Int)) = true →
  R (.int .i64 0) w) ∧
  (decide (n ≤ (0 : Int)) = false →
  (2 : Int) ≠ 0 ∧
  ∃ vI : Int → Int → Nat → World → Prop, (∃ vk_2 : Nat, vI n (IntKind.i64.wrap ((IntKind.i64.wrap (Int.tdiv n 2)) + (Go.bits .and .i64 n 1))) vk_2 w) ∧
  ∀ (jk : Nat → Value) (x : Int) (y : Int), ∀ (vk : Nat) (w1 : World), vI x y vk w1 →
  (decide (y < x) = true →
  y ≠ 0 ∧
  (2 : Int) ≠ 0 ∧
  ∃ vk_1 : Nat, vk_1 < vk ∧ vI y (IntKind.i64.wrap (Int.tdiv (IntKind.i64.wrap (y + (IntKind.i64.wrap (Int.tdiv n y)))) 2)) vk_1 w1) ∧
  (decide (y < x) = false →
  R (.int .i64 x) w1))
theorem num_Sqrt.vc_eq (n : Int) (w : World) (R : Value → World → Prop) : fnV Tryz.prog Tryz.f147 (.c .nil (.lp [(3, some (.int .i64)), (4, some (.int .i64)), (13, none), (14, none), (15, none), (16, none), (17, none), (18, none), (19, none), (20, none), (21, none), (22, none)] (.c .nil .nil))) [(.int .i64 n)] w R = num_Sqrt.vc n w R := by kernel_rfl
theorem num_Sqrt.calls (n : Int) {w : World} {R : Value → World → Prop} (h : num_Sqrt.vc n w R) : Calls Tryz.prog 147 #[(.int .i64 n)] w (Ret R) :=
  calls_V fit Tryz.func147 (.c .nil (.lp [(3, some (.int .i64)), (4, some (.int .i64)), (13, none), (14, none), (15, none), (16, none), (17, none), (18, none), (19, none), (20, none), (21, none), (22, none)] (.c .nil .nil))) (by rw [show (#[(.int .i64 n)] : Array Value).toList = [(.int .i64 n)] from rfl, num_Sqrt.vc_eq]; exact h)
/-- function 146 -/
def num_Div.vc (va : Int) (b : Int) (w : World) (R : Value → World → Prop) : Prop :=
  ((b == (0 : Int)) = true →
  R (.int .i64 0) w) ∧
  ((b == (0 : Int)) = false →
  ((b == (-1 : Int)) = true →
  R (.int .i64 (if (IntKind.i64.wrap (0 - (IntKind.i64.wrap (va + 1)))) > (IntKind.i64.wrap (0 - va)) then (IntKind.i64.wrap (0 - (IntKind.i64.wrap (va + 1)))) else (IntKind.i64.wrap (0 - va)))) w) ∧
  ((b == (-1 : Int)) = false →
  b ≠ 0 ∧
  b ≠ 0 ∧
  (((Int.tmod va b) != (0 : Int)) = true →
  ((!((decide (va < (0 : Int))) == (decide (b < (0 : Int))))) = true →
  R (.int .i64 (IntKind.i64.wrap ((IntKind.i64.wrap (Int.tdiv va b)) - 1))) w) ∧
  ((!((decide (va < (0 : Int))) == (decide (b < (0 : Int))))) = false →
  R (.int .i64 (IntKind.i64.wrap (Int.tdiv va b))) w)) ∧
  (((Int.tmod va b) != (0 : Int)) = false →
  R (.int .i64 (IntKind.i64.wrap (Int.tdiv va b))) w)))
theorem num_Div.vc_eq (va : Int) (b : Int) (w : World) (R : Value → World → Prop) : fnV Tryz.prog Tryz.f146 (.c .nil (.c .nil (.at_ 6 4 (.c .nil .nil) (.k .nil)))) [(.int .i64 va), (.int .i64 b)] w R = num_Div.vc va b w R := by kernel_rfl
theorem num_Div.calls (va : Int) (b : Int) {w : World} {R : Value → World → Prop} (h : num_Div.vc va b w R) : Calls Tryz.prog 146 #[(.int .i64 va), (.int .i64 b)] w (Ret R) :=
  calls_V fit Tryz.func146 (.c .nil (.c .nil (.at_ 6 4 (.c .nil .nil) (.k .nil)))) (by rw [show (#[(.int .i64 va), (.int .i64 b)] : Array Value).toList = [(.int .i64 va), (.int .i64 b)] from rfl, num_Div.vc_eq]; exact h)
/-- function 137 -/
def num_product.vc (va : Int) (b : Int) (w : World) (R : Value → World → Prop) : Prop :=
  Calls Tryz.prog 113 #[(.int .i64 va), (.int .i64 (-1073741824)), (.int .i64 1073741824)] w (Ret fun v w1 => ∃ (x6 : Int), v = (.int .i64 x6) ∧
  Calls Tryz.prog 113 #[(.int .i64 b), (.int .i64 (-1073741824)), (.int .i64 1073741824)] w1 (Ret fun v_1 w2 => ∃ (x8 : Int), v_1 = (.int .i64 x8) ∧
  R (.int .i64 (IntKind.i64.wrap (x6 * x8))) w2))
theorem num_product.vc_eq (va : Int) (b : Int) (w : World) (R : Value → World → Prop) : fnV Tryz.prog Tryz.f137 .nil [(.int .i64 va), (.int .i64 b)] w R = num_product.vc va b w R := by kernel_rfl
theorem num_product.calls (va : Int) (b : Int) {w : World} {R : Value → World → Prop} (h : num_product.vc va b w R) : Calls Tryz.prog 137 #[(.int .i64 va), (.int .i64 b)] w (Ret R) :=
  calls_V fit Tryz.func137 .nil (by rw [show (#[(.int .i64 va), (.int .i64 b)] : Array Value).toList = [(.int .i64 va), (.int .i64 b)] from rfl, num_product.vc_eq]; exact h)
/-- function 142 -/
def num_Sum.vc (listA : Option Addr) (listN : Nat) (listC : Nat) (w : World) (R : Value → World → Prop) : Prop :=
  ∃ vI : Int → Int → Nat → World → Prop, (∃ vk_2 : Nat, vI 0 0 vk_2 w) ∧
  ∀ (jk : Nat → Value) (out : Int) (x8 : Int), ∀ (vk : Nat) (w1 : World), vI out x8 vk w1 →
  (decide (x8 < ((listN : Nat) : Int)) = true →
  (0 ≤ x8 ∧ x8 < ((listN : Nat) : Int)) ∧ someV listA fun p =>
  ∃ (x11 : Int), w1.cell? (p.add (x8.toNat * 1)) = some (.int .i64 x11) ∧
  Calls Tryz.prog 113 #[(.int .i64 x11), (.int .i64 (-2305843009213693952)), (.int .i64 2305843009213693952)] w1 (Ret fun v w2 => ∃ (x14 : Int), v = (.int .i64 x14) ∧
  Calls Tryz.prog 113 #[(.int .i64 (IntKind.i64.wrap (out + x14))), (.int .i64 (-4611686018427387904)), (.int .i64 4611686018427387904)] w2 (Ret fun v_1 w3 => ∃ (x16 : Int), v_1 = (.int .i64 x16) ∧
  ∃ vk_1 : Nat, vk_1 < vk ∧ vI x16 (IntKind.i64.wrap (x8 + 1)) vk_1 w3))) ∧
  (decide (x8 < ((listN : Nat) : Int)) = false →
  R (.int .i64 out) w1)
theorem num_Sum.vc_eq (listA : Option Addr) (listN : Nat) (listC : Nat) (w : World) (R : Value → World → Prop) : fnV Tryz.prog Tryz.f142 (.lp [(3, some (.int .i64)), (5, none), (8, some (.int .i64)), (9, none), (10, none), (11, none), (12, none), (13, none), (14, none), (15, none), (16, none), (17, none)] (.c .nil .nil)) [(.slice listA listN listC)] w R = num_Sum.vc listA listN listC w R := by kernel_rfl
theorem num_Sum.calls (listA : Option Addr) (listN : Nat) (listC : Nat) {w : World} {R : Value → World → Prop} (h : num_Sum.vc listA listN listC w R) : Calls Tryz.prog 142 #[(.slice listA listN listC)] w (Ret R) :=
  calls_V fit Tryz.func142 (.lp [(3, some (.int .i64)), (5, none), (8, some (.int .i64)), (9, none), (10, none), (11, none), (12, none), (13, none), (14, none), (15, none), (16, none), (17, none)] (.c .nil .nil)) (by rw [show (#[(.slice listA listN listC)] : Array Value).toList = [(.slice listA listN listC)] from rfl, num_Sum.vc_eq]; exact h)
/-- function 148 -/
def num_Mean.vc (listA : Option Addr) (listN : Nat) (listC : Nat) (w : World) (R : Value → World → Prop) : Prop :=
  Calls Tryz.prog 142 #[(.slice listA listN listC)] w (Ret fun v w1 => ∃ (x4 : Int), v = (.int .i64 x4) ∧
  Calls Tryz.prog 146 #[(.int .i64 x4), (.int .i64 ((listN : Nat) : Int))] w1 (Ret fun v_1 w2 => ∃ (x7 : Int), v_1 = (.int .i64 x7) ∧
  R (.int .i64 x7) w2))
theorem num_Mean.vc_eq (listA : Option Addr) (listN : Nat) (listC : Nat) (w : World) (R : Value → World → Prop) : fnV Tryz.prog Tryz.f148 .nil [(.slice listA listN listC)] w R = num_Mean.vc listA listN listC w R := by kernel_rfl
theorem num_Mean.calls (listA : Option Addr) (listN : Nat) (listC : Nat) {w : World} {R : Value → World → Prop} (h : num_Mean.vc listA listN listC w R) : Calls Tryz.prog 148 #[(.slice listA listN listC)] w (Ret R) :=
  calls_V fit Tryz.func148 .nil (by rw [show (#[(.slice listA listN listC)] : Array Value).toList = [(.slice listA listN listC)] from rfl, num_Mean.vc_eq]; exact h)
/-- function 121 -/
def num_Dot.vc (aA : Option Addr) (aN : Nat) (aC : Nat) (bA : Option Addr) (bN : Nat) (bC : Nat) (w : World) (R : Value → World → Prop) : Prop :=
  ∃ vI : Int → Int → Nat → World → Prop, (∃ vk_2 : Nat, vI 0 0 vk_2 w) ∧
  ∀ (jk : Nat → Value) (out : Int) (x12 : Int), ∀ (vk : Nat) (w1 : World), vI out x12 vk w1 →
  (decide (x12 < (if ((bN : Nat) : Int) < ((aN : Nat) : Int) then ((bN : Nat) : Int) else ((aN : Nat) : Int))) = true →
  ∃ vS : World → Prop, ∀ w2 : World, w2 = w1.drew → vS w2 ∧
  (0 ≤ x12 ∧ x12 < ((aN : Nat) : Int)) ∧ someV aA fun p =>
  ∃ (x19 : Int), (∀ w3, vS w3 → w3.cell? (p.add (x12.toNat * 1)) = some (.int .i64 x19)) ∧
  (0 ≤ x12 ∧ x12 < ((bN : Nat) : Int)) ∧ someV bA fun p_1 =>
  ∃ (x23 : Int), (∀ w4, vS w4 → w4.cell? (p_1.add (x12.toNat * 1)) = some (.int .i64 x23)) ∧
  Calls Tryz.prog 137 #[(.int .i64 x19), (.int .i64 x23)] w2 (Ret fun v w5 => ∃ (x24 : Int), v = (.int .i64 x24) ∧
  vS w5 ∧
  Calls Tryz.prog 113 #[(.int .i64 (IntKind.i64.wrap (out + x24))), (.int .i64 (-4611686018427387904)), (.int .i64 4611686018427387904)] w5 (Ret fun v_1 w6 => ∃ (x26 : Int), v_1 = (.int .i64 x26) ∧
  vS w6 ∧
  ∃ vk_1 : Nat, vk_1 < vk ∧ vI x26 (IntKind.i64.wrap (x12 + 1)) vk_1 w6))) ∧
  (decide (x12 < (if ((bN : Nat) : Int) < ((aN : Nat) : Int) then ((bN : Nat) : Int) else ((aN : Nat) : Int))) = false →
  R (.int .i64 out) w1)
theorem num_Dot.vc_eq (aA : Option Addr) (aN : Nat) (aC : Nat) (bA : Option Addr) (bN : Nat) (bC : Nat) (w : World) (R : Value → World → Prop) : fnV Tryz.prog Tryz.f121 (.lp [(5, some (.int .i64)), (6, none), (12, some (.int .i64)), (13, none), (14, none), (15, none), (16, none), (17, none), (18, none), (19, none), (20, none), (21, none), (22, none), (23, none), (24, none), (25, none), (26, none), (27, none)] (.c (.tk 0 (.tk 1 (.tk 2 (.tk 3 (.tk 4 (.tk 5 (.tk 6 (.tk 7 (.tk 8 (.alt 9 (.tk 10 (.alt 11 (.tk 12 (.fin .nil)) .nil)) .nil)))))))))) .nil)) [(.slice aA aN aC), (.slice bA bN bC)] w R = num_Dot.vc aA aN aC bA bN bC w R := by kernel_rfl
theorem num_Dot.calls (aA : Option Addr) (aN : Nat) (aC : Nat) (bA : Option Addr) (bN : Nat) (bC : Nat) {w : World} {R : Value → World → Prop} (h : num_Dot.vc aA aN aC bA bN bC w R) : Calls Tryz.prog 121 #[(.slice aA aN aC), (.slice bA bN bC)] w (Ret R) :=
  calls_V fit Tryz.func121 (.lp [(5, some (.int .i64)), (6, none), (12, some (.int .i64)), (13, none), (14, none), (15, none), (16, none), (17, none), (18, none), (19, none), (20, none), (21, none), (22, none), (23, none), (24, none), (25, none), (26, none), (27, none)] (.c (.tk 0 (.tk 1 (.tk 2 (.tk 3 (.tk 4 (.tk 5 (.tk 6 (.tk 7 (.tk 8 (.alt 9 (.tk 10 (.alt 11 (.tk 12 (.fin .nil)) .nil)) .nil)))))))))) .nil)) (by rw [show (#[(.slice aA aN aC), (.slice bA bN bC)] : Array Value).toList = [(.slice aA aN aC), (.slice bA bN bC)] from rfl, num_Dot.vc_eq]; exact h)
/-- function 68 -/
def coadjutorref01_Clamp.vc (x : Int) (low : Int) (high : Int) (w : World) (R : Value → World → Prop) : Prop :=
  (decide (x < low) = true →
  R (.int .i64 low) w) ∧
  (decide (x < low) = false →
  (decide (x > high) = true →
  R (.int .i64 high) w) ∧
  (decide (x > high) = false →
  R (.int .i64 x) w))
theorem coadjutorref01_Clamp.vc_eq (x : Int) (low : Int) (high : Int) (w : World) (R : Value → World → Prop) : fnV Tryz.prog Tryz.f68 (.c .nil (.c .nil .nil)) [(.int .i64 x), (.int .i64 low), (.int .i64 high)] w R = coadjutorref01_Clamp.vc x low high w R := by kernel_rfl
theorem coadjutorref01_Clamp.calls (x : Int) (low : Int) (high : Int) {w : World} {R : Value → World → Prop} (h : coadjutorref01_Clamp.vc x low high w R) : Calls Tryz.prog 68 #[(.int .i64 x), (.int .i64 low), (.int .i64 high)] w (Ret R) :=
  calls_V fit Tryz.func68 (.c .nil (.c .nil .nil)) (by rw [show (#[(.int .i64 x), (.int .i64 low), (.int .i64 high)] : Array Value).toList = [(.int .i64 x), (.int .i64 low), (.int .i64 high)] from rfl, coadjutorref01_Clamp.vc_eq]; exact h)
/-- function 42 -/
def coadjutorref01_Sat.vc (x : Int) (w : World) (R : Value → World → Prop) : Prop :=
  Calls Tryz.prog 68 #[(.int .i64 x), (.int .i64 (-32767)), (.int .i64 32767)] w (Ret fun v w1 => ∃ (x4 : Int), v = (.int .i64 x4) ∧
  R (.int .i64 x4) w1)
theorem coadjutorref01_Sat.vc_eq (x : Int) (w : World) (R : Value → World → Prop) : fnV Tryz.prog Tryz.f42 .nil [(.int .i64 x)] w R = coadjutorref01_Sat.vc x w R := by kernel_rfl
theorem coadjutorref01_Sat.calls (x : Int) {w : World} {R : Value → World → Prop} (h : coadjutorref01_Sat.vc x w R) : Calls Tryz.prog 42 #[(.int .i64 x)] w (Ret R) :=
  calls_V fit Tryz.func42 .nil (by rw [show (#[(.int .i64 x)] : Array Value).toList = [(.int .i64 x)] from rfl, coadjutorref01_Sat.vc_eq]; exact h)
/-- function 49 -/
def coadjutorref01_Shift.vc (x : Int) (n : Int) (w : World) (R : Value → World → Prop) : Prop :=
  (decide (n ≥ (63 : Int)) = true →
  R (.int .i64 0) w) ∧
  (decide (n ≥ (63 : Int)) = false →
  ∃ vI : Int → Int → Int → Nat → World → Prop, (∃ vk_2 : Nat, vI x 0 0 vk_2 w) ∧
  ∀ (jk : Nat → Value) (x_1 : Int) (last : Int) (i : Int), ∀ (vk : Nat) (w1 : World), vI x_1 last i vk w1 →
  (decide (i < n) = true →
  (2 : Int) ≠ 0 ∧
  ∃ vk_1 : Nat, vk_1 < vk ∧ vI (IntKind.i64.wrap (Int.tdiv (IntKind.i64.wrap (x_1 - (Go.bits .and .i64 x_1 1))) 2)) (Go.bits .and .i64 x_1 1) (IntKind.i64.wrap (i + 1)) vk_1 w1) ∧
  (decide (i < n) = false →
  R (.int .i64 (IntKind.i64.wrap (x_1 + last))) w1))
theorem coadjutorref01_Shift.vc_eq (x : Int) (n : Int) (w : World) (R : Value → World → Prop) : fnV Tryz.prog Tryz.f49 (.c .nil (.lp [(0, some (.int .i64)), (5, some (.int .i64)), (6, some (.int .i64)), (9, none), (10, none), (11, none), (12, none), (13, none), (14, none), (15, none), (16, none), (17, none), (18, none), (19, none)] (.c .nil .nil))) [(.int .i64 x), (.int .i64 n)] w R = coadjutorref01_Shift.vc x n w R := by kernel_rfl
theorem coadjutorref01_Shift.calls (x : Int) (n : Int) {w : World} {R : Value → World → Prop} (h : coadjutorref01_Shift.vc x n w R) : Calls Tryz.prog 49 #[(.int .i64 x), (.int .i64 n)] w (Ret R) :=
  calls_V fit Tryz.func49 (.c .nil (.lp [(0, some (.int .i64)), (5, some (.int .i64)), (6, some (.int .i64)), (9, none), (10, none), (11, none), (12, none), (13, none), (14, none), (15, none), (16, none), (17, none), (18, none), (19, none)] (.c .nil .nil))) (by rw [show (#[(.int .i64 x), (.int .i64 n)] : Array Value).toList = [(.int .i64 x), (.int .i64 n)] from rfl, coadjutorref01_Shift.vc_eq]; exact h)
/-- function 72 -/
def coadjutorref01_Mul.vc (va : Int) (b : Int) (n : Int) (w : World) (R : Value → World → Prop) : Prop :=
  Calls Tryz.prog 68 #[(.int .i64 va), (.int .i64 (-1073741824)), (.int .i64 1073741824)] w (Ret fun v w1 => ∃ (x8 : Int), v = (.int .i64 x8) ∧
  Calls Tryz.prog 68 #[(.int .i64 b), (.int .i64 (-1073741824)), (.int .i64 1073741824)] w1 (Ret fun v_1 w2 => ∃ (x10 : Int), v_1 = (.int .i64 x10) ∧
  Calls Tryz.prog 49 #[(.int .i64 (IntKind.i64.wrap (x8 * x10))), (.int .i64 n)] w2 (Ret fun v_2 w3 => ∃ (x13 : Int), v_2 = (.int .i64 x13) ∧
  Calls Tryz.prog 42 #[(.int .i64 x13)] w3 (Ret fun v_3 w4 => ∃ (x14 : Int), v_3 = (.int .i64 x14) ∧
  R (.int .i64 x14) w4))))
theorem coadjutorref01_Mul.vc_eq (va : Int) (b : Int) (n : Int) (w : World) (R : Value → World → Prop) : fnV Tryz.prog Tryz.f72 .nil [(.int .i64 va), (.int .i64 b), (.int .i64 n)] w R = coadjutorref01_Mul.vc va b n w R := by kernel_rfl
theorem coadjutorref01_Mul.calls (va : Int) (b : Int) (n : Int) {w : World} {R : Value → World → Prop} (h : coadjutorref01_Mul.vc va b n w R) : Calls Tryz.prog 72 #[(.int .i64 va), (.int .i64 b), (.int .i64 n)] w (Ret R) :=
  calls_V fit Tryz.func72 .nil (by rw [show (#[(.int .i64 va), (.int .i64 b), (.int .i64 n)] : Array Value).toList = [(.int .i64 va), (.int .i64 b), (.int .i64 n)] from rfl, coadjutorref01_Mul.vc_eq]; exact h)
/-- function 99 -/
def coadjutorref01_Sqrt.vc (n : Int) (w : World) (R : Value → World → Prop) : Prop :=
  ∃ vI : Int → Int → Nat → World → Prop, (∃ vk_2 : Nat, vI 0 31 vk_2 w) ∧
  ∀ (jk : Nat → Value) (out : Int) (vk_3 : Int), ∀ (vk : Nat) (w1 : World), vI out vk_3 vk w1 →
  (decide (vk_3 ≥ (0 : Int)) = true →
  0 ≤ vk_3 ∧
  (decide ((IntKind.i64.wrap (out + (IntKind.i64.wrap (1 * 2 ^ (min vk_3.toNat IntKind.i64.bits))))) ≤ (3037000499 : Int)) = true →
  (decide ((IntKind.i64.wrap ((IntKind.i64.wrap (out + (IntKind.i64.wrap (1 * 2 ^ (min vk_3.toNat IntKind.i64.bits))))) * (IntKind.i64.wrap (out + (IntKind.i64.wrap (1 * 2 ^ (min vk_3.toNat IntKind.i64.bits))))))) ≤ n) = true →
  ∃ vk_1 : Nat, vk_1 < vk ∧ vI (IntKind.i64.wrap (out + (IntKind.i64.wrap (1 * 2 ^ (min vk_3.toNat IntKind.i64.bits))))) (IntKind.i64.wrap (vk_3 - 1)) vk_1 w1) ∧
  (decide ((IntKind.i64.wrap ((IntKind.i64.wrap (out + (IntKind.i64.wrap (1 * 2 ^ (min vk_3.toNat IntKind.i64.bits))))) * (IntKind.i64.wrap (out + (IntKind.i64.wrap (1 * 2 ^ (min vk_3.toNat IntKind.i64.bits))))))) ≤ n) = false →
  ∃ vk_1 : Nat, vk_1 < vk ∧ vI out (IntKind.i64.wrap (vk_3 - 1)) vk_1 w1)) ∧
  (decide ((IntKind.i64.wrap (out + (IntKind.i64.wrap (1 * 2 ^ (min vk_3.toNat IntKind.i64.bits))))) ≤ (3037000499 : Int)) = false →
  ∃ vk_1 : Nat, vk_1 < vk ∧ vI out (IntKind.i64.wrap (vk_3 - 1)) vk_1 w1)) ∧
  (decide (vk_3 ≥ (0 : Int)) = false →
  R (.int .i64 out) w1)
theorem coadjutorref01_Sqrt.vc_eq (n : Int) (w : World) (R : Value → World → Prop) : fnV Tryz.prog Tryz.f99 (.lp [(3, some (.int .i64)), (4, some (.int .i64)), (5, none), (6, none), (7, none), (8, none), (9, none), (10, none), (11, none), (12, none), (13, none), (14, none), (15, none), (16, none), (17, none), (18, none), (19, none), (20, none), (21, none), (22, none), (23, none)] (.c (.at_ 6 2 (.c .nil .nil) (.k .nil)) .nil)) [(.int .i64 n)] w R = coadjutorref01_Sqrt.vc n w R := by kernel_rfl
theorem coadjutorref01_Sqrt.calls (n : Int) {w : World} {R : Value → World → Prop} (h : coadjutorref01_Sqrt.vc n w R) : Calls Tryz.prog 99 #[(.int .i64 n)] w (Ret R) :=
  calls_V fit Tryz.func99 (.lp [(3, some (.int .i64)), (4, some (.int .i64)), (5, none), (6, none), (7, none), (8, none), (9, none), (10, none), (11, none), (12, none), (13, none), (14, none), (15, none), (16, none), (17, none), (18, none), (19, none), (20, none), (21, none), (22, none), (23, none)] (.c (.at_ 6 2 (.c .nil .nil) (.k .nil)) .nil)) (by rw [show (#[(.int .i64 n)] : Array Value).toList = [(.int .i64 n)] from rfl, coadjutorref01_Sqrt.vc_eq]; exact h)
/-- function 100 -/
def coadjutorref01_Div.vc (va : Int) (b : Int) (w : World) (R : Value → World → Prop) : Prop :=
  ((b == (0 : Int)) = true →
  R (.int .i64 0) w) ∧
  ((b == (0 : Int)) = false →
  ((b == (-1 : Int)) = true →
  ((va == (-9223372036854775808 : Int)) = true →
  R (.int .i64 9223372036854775807) w) ∧
  ((va == (-9223372036854775808 : Int)) = false →
  R (.int .i64 (IntKind.i64.wrap (0 - va))) w)) ∧
  ((b == (-1 : Int)) = false →
  b ≠ 0 ∧
  b ≠ 0 ∧
  (((Int.tmod va b) != (0 : Int)) = true →
  ((!((decide (va < (0 : Int))) == (decide (b < (0 : Int))))) = true →
  R (.int .i64 (IntKind.i64.wrap ((IntKind.i64.wrap (Int.tdiv va b)) - 1))) w) ∧
  ((!((decide (va < (0 : Int))) == (decide (b < (0 : Int))))) = false →
  R (.int .i64 (IntKind.i64.wrap (Int.tdiv va b))) w)) ∧
  (((Int.tmod va b) != (0 : Int)) = false →
  R (.int .i64 (IntKind.i64.wrap (Int.tdiv va b))) w)))
theorem coadjutorref01_Div.vc_eq (va : Int) (b : Int) (w : World) (R : Value → World → Prop) : fnV Tryz.prog Tryz.f100 (.c .nil (.c (.c .nil .nil) (.at_ 8 4 (.c .nil .nil) (.k .nil)))) [(.int .i64 va), (.int .i64 b)] w R = coadjutorref01_Div.vc va b w R := by kernel_rfl
theorem coadjutorref01_Div.calls (va : Int) (b : Int) {w : World} {R : Value → World → Prop} (h : coadjutorref01_Div.vc va b w R) : Calls Tryz.prog 100 #[(.int .i64 va), (.int .i64 b)] w (Ret R) :=
  calls_V fit Tryz.func100 (.c .nil (.c (.c .nil .nil) (.at_ 8 4 (.c .nil .nil) (.k .nil)))) (by rw [show (#[(.int .i64 va), (.int .i64 b)] : Array Value).toList = [(.int .i64 va), (.int .i64 b)] from rfl, coadjutorref01_Div.vc_eq]; exact h)
end Go.Proofs.YtbadkcnemcnhfaaGreatDoor.Vc

set_option linter.unusedVariables false
set_option maxRecDepth 100000
namespace Go.Proofs.YtbadkcnemcnhfaaGreatDoor.Vc
open Go Go.Proofs Go.Proofs.YtbadkcnemcnhfaaGreatDoor.V
/-- function 78 -/
def vecs_isSide.vc (n : Int) (w : World) (R : Value → World → Prop) : Prop :=
  (decide (n ≥ (1 : Int)) = true →
  R (.bool (decide (n ≤ (64 : Int)))) w) ∧
  (decide (n ≥ (1 : Int)) = false →
  R (.bool false) w)
theorem vecs_isSide.vc_eq (n : Int) (w : World) (R : Value → World → Prop) : fnV Tryz.prog Tryz.f78 (.at_ 1 2 .nil .nil) [(.int .i64 n)] w R = vecs_isSide.vc n w R := by kernel_rfl
theorem vecs_isSide.calls (n : Int) {w : World} {R : Value → World → Prop} (h : vecs_isSide.vc n w R) : Calls Tryz.prog 78 #[(.int .i64 n)] w (Ret R) :=
  calls_V fit Tryz.func78 (.at_ 1 2 .nil .nil) (by rw [show (#[(.int .i64 n)] : Array Value).toList = [(.int .i64 n)] from rfl, vecs_isSide.vc_eq]; exact h)
/-- function 129 -/
def vecs_Good.vc (t0 : Int) (t1 : Int) (t2A : Option Addr) (t2N : Nat) (t2C : Nat) (w : World) (R : Value → World → Prop) : Prop :=
  ∀ w1 : World, w1 = w.alloc (.cells #[(.int .i64 t0), (.int .i64 t1), (.slice t2A t2N t2C)] 80 (0, 0)) →
  ∃ (x4 : Int), w1.cell? (⟨w.heap.size, 0, none⟩ : Addr) = some (.int .i64 x4) ∧
  Calls Tryz.prog 78 #[(.int .i64 x4)] w1 (Ret fun v w2 => ∃ (x5 : Bool), v = (.bool x5) ∧
  (x5 = true →
  ∃ (x8 : Int), w2.cell? (⟨w.heap.size, 1, none⟩ : Addr) = some (.int .i64 x8) ∧
  Calls Tryz.prog 78 #[(.int .i64 x8)] w2 (Ret fun v_1 w3 => ∃ (x9 : Bool), v_1 = (.bool x9) ∧
  (x9 = true →
  ∃ (x13A : Option Addr), ∃ (x13N : Nat), ∃ (x13C : Nat), w3.cell? (⟨w.heap.size, 2, none⟩ : Addr) = some (.slice x13A x13N x13C) ∧
  ∃ (x16 : Int), w3.cell? (⟨w.heap.size, 0, none⟩ : Addr) = some (.int .i64 x16) ∧
  ∃ (x18 : Int), w3.cell? (⟨w.heap.size, 1, none⟩ : Addr) = some (.int .i64 x18) ∧
  R (.bool (((x13N : Nat) : Int) == (IntKind.i64.wrap (x16 * x18)))) w3) ∧
  (x9 = false →
  R (.bool false) w3))) ∧
  (x5 = false →
  R (.bool false) w2))
theorem vecs_Good.vc_eq (t0 : Int) (t1 : Int) (t2A : Option Addr) (t2N : Nat) (t2C : Nat) (w : World) (R : Value → World → Prop) : fnV Tryz.prog Tryz.f129 (.at_ 1 3 (.at_ 1 8 .nil .nil) .nil) [(.agg #[(.int .i64 t0), (.int .i64 t1), (.slice t2A t2N t2C)])] w R = vecs_Good.vc t0 t1 t2A t2N t2C w R := by kernel_rfl
theorem vecs_Good.calls (t0 : Int) (t1 : Int) (t2A : Option Addr) (t2N : Nat) (t2C : Nat) {w : World} {R : Value → World → Prop} (h : vecs_Good.vc t0 t1 t2A t2N t2C w R) : Calls Tryz.prog 129 #[(.agg #[(.int .i64 t0), (.int .i64 t1), (.slice t2A t2N t2C)])] w (Ret R) :=
  calls_V fit Tryz.func129 (.at_ 1 3 (.at_ 1 8 .nil .nil) .nil) (by rw [show (#[(.agg #[(.int .i64 t0), (.int .i64 t1), (.slice t2A t2N t2C)])] : Array Value).toList = [(.agg #[(.int .i64 t0), (.int .i64 t1), (.slice t2A t2N t2C)])] from rfl, vecs_Good.vc_eq]; exact h)
/-- function 55 -/
def vecs_Of.vc (rows : Int) (cols : Int) (s : ByteArray) (w : World) (R : Value → World → Prop) : Prop :=
  ∀ w1 : World, w1 = w.alloc (.cells #[(.int .i64 0), (.int .i64 0), (.slice none 0 0)] 80 (0, 0)) →
  Calls Tryz.prog 78 #[(.int .i64 rows)] w1 (Ret fun v w2 => ∃ (x13 : Bool), v = (.bool x13) ∧
  ((!x13) = true →
  (((∃ u, w2.cell? (⟨w.heap.size, 0, none⟩ : Addr) = some u) ∧ w2.frozen? (⟨w.heap.size, 0, none⟩ : Addr) = false) ∧ ((∃ u, w2.cell? (⟨w.heap.size, 1, none⟩ : Addr) = some u) ∧ w2.frozen? (⟨w.heap.size, 1, none⟩ : Addr) = false) ∧ ((∃ u, w2.cell? (⟨w.heap.size, 2, none⟩ : Addr) = some u) ∧ w2.frozen? (⟨w.heap.size, 2, none⟩ : Addr) = false)) ∧ ∀ w3 : World, w3 = (((w2.setCell (⟨w.heap.size, 0, none⟩ : Addr) (.int .i64 0)).setCell (⟨w.heap.size, 1, none⟩ : Addr) (.int .i64 0)).setCell (⟨w.heap.size, 2, none⟩ : Addr) (.slice none 0 0)) →
  ∃ (r00 : Int), ∃ (r01 : Int), ∃ (r02A : Option Addr), ∃ (r02N : Nat), ∃ (r02C : Nat), (w3.cell? (⟨w.heap.size, 0, none⟩ : Addr) = some (.int .i64 r00) ∧ w3.cell? (⟨w.heap.size, 1, none⟩ : Addr) = some (.int .i64 r01) ∧ w3.cell? (⟨w.heap.size, 2, none⟩ : Addr) = some (.slice r02A r02N r02C)) ∧
  R (.tuple #[(.agg #[(.int .i64 r00), (.int .i64 r01), (.slice r02A r02N r02C)]), (.int .i64 1)]) w3) ∧
  ((!x13) = false →
  Calls Tryz.prog 78 #[(.int .i64 cols)] w2 (Ret fun v_1 w4 => ∃ (x17 : Bool), v_1 = (.bool x17) ∧
  ((!x17) = true →
  (((∃ u, w4.cell? (⟨w.heap.size, 0, none⟩ : Addr) = some u) ∧ w4.frozen? (⟨w.heap.size, 0, none⟩ : Addr) = false) ∧ ((∃ u, w4.cell? (⟨w.heap.size, 1, none⟩ : Addr) = some u) ∧ w4.frozen? (⟨w.heap.size, 1, none⟩ : Addr) = false) ∧ ((∃ u, w4.cell? (⟨w.heap.size, 2, none⟩ : Addr) = some u) ∧ w4.frozen? (⟨w.heap.size, 2, none⟩ : Addr) = false)) ∧ ∀ w5 : World, w5 = (((w4.setCell (⟨w.heap.size, 0, none⟩ : Addr) (.int .i64 0)).setCell (⟨w.heap.size, 1, none⟩ : Addr) (.int .i64 0)).setCell (⟨w.heap.size, 2, none⟩ : Addr) (.slice none 0 0)) →
  ∃ (r00_1 : Int), ∃ (r01_1 : Int), ∃ (r02A_1 : Option Addr), ∃ (r02N_1 : Nat), ∃ (r02C_1 : Nat), (w5.cell? (⟨w.heap.size, 0, none⟩ : Addr) = some (.int .i64 r00_1) ∧ w5.cell? (⟨w.heap.size, 1, none⟩ : Addr) = some (.int .i64 r01_1) ∧ w5.cell? (⟨w.heap.size, 2, none⟩ : Addr) = some (.slice r02A_1 r02N_1 r02C_1)) ∧
  R (.tuple #[(.agg #[(.int .i64 r00_1), (.int .i64 r01_1), (.slice r02A_1 r02N_1 r02C_1)]), (.int .i64 1)]) w5) ∧
  ((!x17) = false →
  ((((s.size : Nat) : Int) != (IntKind.i64.wrap (rows * cols))) = true →
  (((∃ u, w4.cell? (⟨w.heap.size, 0, none⟩ : Addr) = some u) ∧ w4.frozen? (⟨w.heap.size, 0, none⟩ : Addr) = false) ∧ ((∃ u, w4.cell? (⟨w.heap.size, 1, none⟩ : Addr) = some u) ∧ w4.frozen? (⟨w.heap.size, 1, none⟩ : Addr) = false) ∧ ((∃ u, w4.cell? (⟨w.heap.size, 2, none⟩ : Addr) = some u) ∧ w4.frozen? (⟨w.heap.size, 2, none⟩ : Addr) = false)) ∧ ∀ w6 : World, w6 = (((w4.setCell (⟨w.heap.size, 0, none⟩ : Addr) (.int .i64 0)).setCell (⟨w.heap.size, 1, none⟩ : Addr) (.int .i64 0)).setCell (⟨w.heap.size, 2, none⟩ : Addr) (.slice none 0 0)) →
  ∃ (r00_2 : Int), ∃ (r01_2 : Int), ∃ (r02A_2 : Option Addr), ∃ (r02N_2 : Nat), ∃ (r02C_2 : Nat), (w6.cell? (⟨w.heap.size, 0, none⟩ : Addr) = some (.int .i64 r00_2) ∧ w6.cell? (⟨w.heap.size, 1, none⟩ : Addr) = some (.int .i64 r01_2) ∧ w6.cell? (⟨w.heap.size, 2, none⟩ : Addr) = some (.slice r02A_2 r02N_2 r02C_2)) ∧
  R (.tuple #[(.agg #[(.int .i64 r00_2), (.int .i64 r01_2), (.slice r02A_2 r02N_2 r02C_2)]), (.int .i64 5)]) w6) ∧
  ((((s.size : Nat) : Int) != (IntKind.i64.wrap (rows * cols))) = false →
  ∀ w7 : World, w7 = w4.alloc (.cells #[(.int .i64 0), (.int .i64 0), (.slice none 0 0)] 80 (0, 0)) →
  (((∃ u, w7.cell? (⟨w4.heap.size, 0, none⟩ : Addr) = some u) ∧ w7.frozen? (⟨w4.heap.size, 0, none⟩ : Addr) = false) ∧ ((∃ u, w7.cell? (⟨w4.heap.size, 1, none⟩ : Addr) = some u) ∧ w7.frozen? (⟨w4.heap.size, 1, none⟩ : Addr) = false) ∧ ((∃ u, w7.cell? (⟨w4.heap.size, 2, none⟩ : Addr) = some u) ∧ w7.frozen? (⟨w4.heap.size, 2, none⟩ : Addr) = false)) ∧ ∀ w8 : World, w8 = (((w7.setCell (⟨w4.heap.size, 0, none⟩ : Addr) (.int .i64 rows)).setCell (⟨w4.heap.size, 1, none⟩ : Addr) (.int .i64 cols)).setCell (⟨w4.heap.size, 2, none⟩ : Addr) (.slice none 0 0)) →
  ∃ (x33A : Option Addr), ∃ (x33N : Nat), ∃ (x33C : Nat), ∃ w9 : World, (convert 9 64 (.string s)).run Tryz.prog w8 = .ok (.slice x33A x33N x33C) w9 ∧
  ∃ vI : Int → Nat → World → Prop, (∃ vk_2 : Nat, vI 0 vk_2 w9) ∧
  ∀ (jk : Nat → Value) (x35 : Int), ∀ (vk : Nat) (w10 : World), vI x35 vk w10 →
  (decide (x35 < ((x33N : Nat) : Int)) = true →
  (0 ≤ x35 ∧ x35 < ((x33N : Nat) : Int)) ∧ someV x33A fun p =>
  ∃ (x38 : Int), w10.cell? (p.add (x35.toNat * 1)) = some (.int .u8 x38) ∧
  ∃ (x40A : Option Addr), ∃ (x40N : Nat), ∃ (x40C : Nat), w10.cell? (⟨w4.heap.size, 2, none⟩ : Addr) = some (.slice x40A x40N x40C) ∧
  ∀ w11 : World, w11 = w10.alloc (.cells #[(.int .i8 (IntKind.i8.wrap x38))] 85 (0, 0)) →
  ∃ (x44A : Option Addr), ∃ (x44N : Nat), ∃ (x44C : Nat), ∃ w12 : World, (Builtin.append_ #[78, 78] 78 #[(.slice x40A x40N x40C), (.slice (some (⟨w10.heap.size, 0, none⟩ : Addr)) 1 1)]).run Tryz.prog w11 = .ok (.slice x44A x44N x44C) w12 ∧
  (((∃ u, w12.cell? (⟨w4.heap.size, 2, none⟩ : Addr) = some u) ∧ w12.frozen? (⟨w4.heap.size, 2, none⟩ : Addr) = false)) ∧ ∀ w13 : World, w13 = (w12.setCell (⟨w4.heap.size, 2, none⟩ : Addr) (.slice x44A x44N x44C)) →
  ∃ vk_1 : Nat, vk_1 < vk ∧ vI (IntKind.i64.wrap (x35 + 1)) vk_1 w13) ∧
  (decide (x35 < ((x33N : Nat) : Int)) = false →
  ∃ (x470 : Int), ∃ (x471 : Int), ∃ (x472A : Option Addr), ∃ (x472N : Nat), ∃ (x472C : Nat), (w10.cell? (⟨w4.heap.size, 0, none⟩ : Addr) = some (.int .i64 x470) ∧ w10.cell? (⟨w4.heap.size, 1, none⟩ : Addr) = some (.int .i64 x471) ∧ w10.cell? (⟨w4.heap.size, 2, none⟩ : Addr) = some (.slice x472A x472N x472C)) ∧
  (((∃ u, w10.cell? (⟨w.heap.size, 0, none⟩ : Addr) = some u) ∧ w10.frozen? (⟨w.heap.size, 0, none⟩ : Addr) = false) ∧ ((∃ u, w10.cell? (⟨w.heap.size, 1, none⟩ : Addr) = some u) ∧ w10.frozen? (⟨w.heap.size, 1, none⟩ : Addr) = false) ∧ ((∃ u, w10.cell? (⟨w.heap.size, 2, none⟩ : Addr) = some u) ∧ w10.frozen? (⟨w.heap.size, 2, none⟩ : Addr) = false)) ∧ ∀ w14 : World, w14 = (((w10.setCell (⟨w.heap.size, 0, none⟩ : Addr) (.int .i64 x470)).setCell (⟨w.heap.size, 1, none⟩ : Addr) (.int .i64 x471)).setCell (⟨w.heap.size, 2, none⟩ : Addr) (.slice x472A x472N x472C)) →
  ∃ (r00_3 : Int), ∃ (r01_3 : Int), ∃ (r02A_3 : Option Addr), ∃ (r02N_3 : Nat), ∃ (r02C_3 : Nat), (w14.cell? (⟨w.heap.size, 0, none⟩ : Addr) = some (.int .i64 r00_3) ∧ w14.cell? (⟨w.heap.size, 1, none⟩ : Addr) = some (.int .i64 r01_3) ∧ w14.cell? (⟨w.heap.size, 2, none⟩ : Addr) = some (.slice r02A_3 r02N_3 r02C_3)) ∧
  R (.tuple #[(.agg #[(.int .i64 r00_3), (.int .i64 r01_3), (.slice r02A_3 r02N_3 r02C_3)]), (.int .i64 0)]) w14))))))
theorem vecs_Of.vc_eq (rows : Int) (cols : Int) (s : ByteArray) (w : World) (R : Value → World → Prop) : fnV Tryz.prog Tryz.f55 (.at_ 1 3 (.k .nil) (.c .nil (.c .nil (.lp [(10, none), (35, some (.int .i64)), (36, none), (37, none), (38, none), (39, none), (40, none), (41, none), (42, none), (43, none), (44, none), (45, none), (46, none)] (.c .nil .nil))))) [(.int .i64 rows), (.int .i64 cols), (.string s)] w R = vecs_Of.vc rows cols s w R := by kernel_rfl
theorem vecs_Of.calls (rows : Int) (cols : Int) (s : ByteArray) {w : World} {R : Value → World → Prop} (h : vecs_Of.vc rows cols s w R) : Calls Tryz.prog 55 #[(.int .i64 rows), (.int .i64 cols), (.string s)] w (Ret R) :=
  calls_V fit Tryz.func55 (.at_ 1 3 (.k .nil) (.c .nil (.c .nil (.lp [(10, none), (35, some (.int .i64)), (36, none), (37, none), (38, none), (39, none), (40, none), (41, none), (42, none), (43, none), (44, none), (45, none), (46, none)] (.c .nil .nil))))) (by rw [show (#[(.int .i64 rows), (.int .i64 cols), (.string s)] : Array Value).toList = [(.int .i64 rows), (.int .i64 cols), (.string s)] from rfl, vecs_Of.vc_eq]; exact h)
/-- function 112 -/
def vecs_Table_Row.vc (t0 : Int) (t1 : Int) (t2A : Option Addr) (t2N : Nat) (t2C : Nat) (vat : Int) (w : World) (R : Value → World → Prop) : Prop :=
  ∀ w1 : World, w1 = w.alloc (.cells #[(.int .i64 t0), (.int .i64 t1), (.slice t2A t2N t2C)] 80 (0, 0)) →
  ∃ (x80 : Int), ∃ (x81 : Int), ∃ (x82A : Option Addr), ∃ (x82N : Nat), ∃ (x82C : Nat), (w1.cell? (⟨w.heap.size, 0, none⟩ : Addr) = some (.int .i64 x80) ∧ w1.cell? (⟨w.heap.size, 1, none⟩ : Addr) = some (.int .i64 x81) ∧ w1.cell? (⟨w.heap.size, 2, none⟩ : Addr) = some (.slice x82A x82N x82C)) ∧
  Calls Tryz.prog 129 #[(.agg #[(.int .i64 x80), (.int .i64 x81), (.slice x82A x82N x82C)])] w1 (Ret fun v w2 => ∃ (x9 : Bool), v = (.bool x9) ∧
  ((!x9) = true →
  R (.slice none 0 0) w2) ∧
  ((!x9) = false →
  (decide (vat < (0 : Int)) = true →
  R (.slice none 0 0) w2) ∧
  (decide (vat < (0 : Int)) = false →
  ∃ (x18 : Int), w2.cell? (⟨w.heap.size, 0, none⟩ : Addr) = some (.int .i64 x18) ∧
  (decide (vat ≥ x18) = true →
  R (.slice none 0 0) w2) ∧
  (decide (vat ≥ x18) = false →
  ∃ (x22A : Option Addr), ∃ (x22N : Nat), ∃ (x22C : Nat), w2.cell? (⟨w.heap.size, 2, none⟩ : Addr) = some (.slice x22A x22N x22C) ∧
  ∃ (x25 : Int), w2.cell? (⟨w.heap.size, 1, none⟩ : Addr) = some (.int .i64 x25) ∧
  ∃ (x30 : Int), w2.cell? (⟨w.heap.size, 1, none⟩ : Addr) = some (.int .i64 x30) ∧
  (0 ≤ (IntKind.i64.wrap (vat * x25)) ∧ (IntKind.i64.wrap (vat * x25)) ≤ (IntKind.i64.wrap ((IntKind.i64.wrap (vat + 1)) * x30)) ∧ (IntKind.i64.wrap ((IntKind.i64.wrap (vat + 1)) * x30)) ≤ ((x22C : Nat) : Int)) ∧
  ∃ vI : Option Addr → Nat → Nat → Int → Nat → World → Prop, (∃ vk_2 : Nat, vI none 0 0 0 vk_2 w2) ∧
  ∀ (jk : Nat → Value) (outA : Option Addr) (outN : Nat) (outC : Nat) (x34 : Int), ∀ (vk : Nat) (w3 : World), vI outA outN outC x34 vk w3 →
  (decide (x34 < ((((IntKind.i64.wrap ((IntKind.i64.wrap (vat + 1)) * x30)).toNat - (IntKind.i64.wrap (vat * x25)).toNat) : Nat) : Int)) = true →
  (0 ≤ x34 ∧ x34 < ((((IntKind.i64.wrap ((IntKind.i64.wrap (vat + 1)) * x30)).toNat - (IntKind.i64.wrap (vat * x25)).toNat) : Nat) : Int)) ∧ someV (if x22C = (IntKind.i64.wrap (vat * x25)).toNat then x22A else x22A.map (·.add ((IntKind.i64.wrap (vat * x25)).toNat * 1))) fun p =>
  ∃ (x37 : Int), w3.cell? (p.add (x34.toNat * 1)) = some (.int .i8 x37) ∧
  ∀ w4 : World, w4 = w3.alloc (.cells #[(.int .i64 (IntKind.i64.wrap x37))] 3 (0, 0)) →
  ∃ (x42A : Option Addr), ∃ (x42N : Nat), ∃ (x42C : Nat), ∃ w5 : World, (Builtin.append_ #[39, 39] 39 #[(.slice outA outN outC), (.slice (some (⟨w3.heap.size, 0, none⟩ : Addr)) 1 1)]).run Tryz.prog w4 = .ok (.slice x42A x42N x42C) w5 ∧
  ∃ vk_1 : Nat, vk_1 < vk ∧ vI x42A x42N x42C (IntKind.i64.wrap (x34 + 1)) vk_1 w5) ∧
  (decide (x34 < ((((IntKind.i64.wrap ((IntKind.i64.wrap (vat + 1)) * x30)).toNat - (IntKind.i64.wrap (vat * x25)).toNat) : Nat) : Int)) = false →
  R (.slice outA outN outC) w3)))))
theorem vecs_Table_Row.vc_eq (t0 : Int) (t1 : Int) (t2A : Option Addr) (t2N : Nat) (t2C : Nat) (vat : Int) (w : World) (R : Value → World → Prop) : fnV Tryz.prog Tryz.f112 (.at_ 1 3 (.k .nil) (.at_ 1 7 (.k .nil) (.c .nil (.lp [(5, some (.slice)), (7, none), (34, some (.int .i64)), (35, none), (36, none), (37, none), (38, none), (39, none), (40, none), (41, none), (42, none), (43, none)] (.c .nil .nil))))) [(.agg #[(.int .i64 t0), (.int .i64 t1), (.slice t2A t2N t2C)]), (.int .i64 vat)] w R = vecs_Table_Row.vc t0 t1 t2A t2N t2C vat w R := by kernel_rfl
theorem vecs_Table_Row.calls (t0 : Int) (t1 : Int) (t2A : Option Addr) (t2N : Nat) (t2C : Nat) (vat : Int) {w : World} {R : Value → World → Prop} (h : vecs_Table_Row.vc t0 t1 t2A t2N t2C vat w R) : Calls Tryz.prog 112 #[(.agg #[(.int .i64 t0), (.int .i64 t1), (.slice t2A t2N t2C)]), (.int .i64 vat)] w (Ret R) :=
  calls_V fit Tryz.func112 (.at_ 1 3 (.k .nil) (.at_ 1 7 (.k .nil) (.c .nil (.lp [(5, some (.slice)), (7, none), (34, some (.int .i64)), (35, none), (36, none), (37, none), (38, none), (39, none), (40, none), (41, none), (42, none), (43, none)] (.c .nil .nil))))) (by rw [show (#[(.agg #[(.int .i64 t0), (.int .i64 t1), (.slice t2A t2N t2C)]), (.int .i64 vat)] : Array Value).toList = [(.agg #[(.int .i64 t0), (.int .i64 t1), (.slice t2A t2N t2C)]), (.int .i64 vat)] from rfl, vecs_Table_Row.vc_eq]; exact h)
/-- function 131 -/
def vecs_Table_Times.vc (t0 : Int) (t1 : Int) (t2A : Option Addr) (t2N : Nat) (t2C : Nat) (vA : Option Addr) (vN : Nat) (vC : Nat) (shift : Int) (w : World) (R : Value → World → Prop) : Prop :=
  ∀ w1 : World, w1 = w.alloc (.cells #[(.int .i64 t0), (.int .i64 t1), (.slice t2A t2N t2C)] 80 (0, 0)) →
  ∃ (x100 : Int), ∃ (x101 : Int), ∃ (x102A : Option Addr), ∃ (x102N : Nat), ∃ (x102C : Nat), (w1.cell? (⟨w.heap.size, 0, none⟩ : Addr) = some (.int .i64 x100) ∧ w1.cell? (⟨w.heap.size, 1, none⟩ : Addr) = some (.int .i64 x101) ∧ w1.cell? (⟨w.heap.size, 2, none⟩ : Addr) = some (.slice x102A x102N x102C)) ∧
  Calls Tryz.prog 129 #[(.agg #[(.int .i64 x100), (.int .i64 x101), (.slice x102A x102N x102C)])] w1 (Ret fun v w2 => ∃ (x11 : Bool), v = (.bool x11) ∧
  ((!x11) = true →
  R (.tuple #[(.slice none 0 0), (.int .i64 1)]) w2) ∧
  ((!x11) = false →
  ∃ (x17 : Int), w2.cell? (⟨w.heap.size, 1, none⟩ : Addr) = some (.int .i64 x17) ∧
  ((((vN : Nat) : Int) != x17) = true →
  R (.tuple #[(.slice none 0 0), (.int .i64 1)]) w2) ∧
  ((((vN : Nat) : Int) != x17) = false →
  ∃ (x21 : Int), w2.cell? (⟨w.heap.size, 0, none⟩ : Addr) = some (.int .i64 x21) ∧
  ∃ vI : Option Addr → Nat → Nat → Int → Nat → World → Prop, (∃ vk_2 : Nat, vI none 0 0 0 vk_2 w2) ∧
  ∀ (jk : Nat → Value) (outA : Option Addr) (outN : Nat) (outC : Nat) (x22 : Int), ∀ (vk : Nat) (w3 : World), vI outA outN outC x22 vk w3 →
  (decide (x22 < x21) = true →
  ∃ (x260 : Int), ∃ (x261 : Int), ∃ (x262A : Option Addr), ∃ (x262N : Nat), ∃ (x262C : Nat), (w3.cell? (⟨w.heap.size, 0, none⟩ : Addr) = some (.int .i64 x260) ∧ w3.cell? (⟨w.heap.size, 1, none⟩ : Addr) = some (.int .i64 x261) ∧ w3.cell? (⟨w.heap.size, 2, none⟩ : Addr) = some (.slice x262A x262N x262C)) ∧
  Calls Tryz.prog 112 #[(.agg #[(.int .i64 x260), (.int .i64 x261), (.slice x262A x262N x262C)]), (.int .i64 x22)] w3 (Ret fun v_1 w4 => ∃ (x28A : Option Addr), ∃ (x28N : Nat), ∃ (x28C : Nat), v_1 = (.slice x28A x28N x28C) ∧
  Calls Tryz.prog 121 #[(.slice x28A x28N x28C), (.slice vA vN vC)] w4 (Ret fun v_2 w5 => ∃ (x30 : Int), v_2 = (.int .i64 x30) ∧
  Calls Tryz.prog 120 #[(.int .i64 x30), (.int .i64 shift)] w5 (Ret fun v_3 w6 => ∃ (x32 : Int), v_3 = (.int .i64 x32) ∧
  Calls Tryz.prog 92 #[(.int .i64 x32)] w6 (Ret fun v_4 w7 => ∃ (x33 : Int), v_4 = (.int .i64 x33) ∧
  ∀ w8 : World, w8 = w7.alloc (.cells #[(.int .i64 x33)] 3 (0, 0)) →
  ∃ (x35A : Option Addr), ∃ (x35N : Nat), ∃ (x35C : Nat), ∃ w9 : World, (Builtin.append_ #[39, 39] 39 #[(.slice outA outN outC), (.slice (some (⟨w7.heap.size, 0, none⟩ : Addr)) 1 1)]).run Tryz.prog w8 = .ok (.slice x35A x35N x35C) w9 ∧
  ∃ vk_1 : Nat, vk_1 < vk ∧ vI x35A x35N x35C (IntKind.i64.wrap (x22 + 1)) vk_1 w9))))) ∧
  (decide (x22 < x21) = false →
  R (.tuple #[(.slice outA outN outC), (.int .i64 0)]) w3))))
theorem vecs_Table_Times.vc_eq (t0 : Int) (t1 : Int) (t2A : Option Addr) (t2N : Nat) (t2C : Nat) (vA : Option Addr) (vN : Nat) (vC : Nat) (shift : Int) (w : World) (R : Value → World → Prop) : fnV Tryz.prog Tryz.f131 (.at_ 1 3 (.k .nil) (.c .nil (.lp [(8, some (.slice)), (9, none), (22, some (.int .i64)), (23, none), (24, none), (25, none), (26, none), (27, none), (28, none), (29, none), (30, none), (31, none), (32, none), (33, none), (34, none), (35, none), (36, none)] (.c .nil .nil)))) [(.agg #[(.int .i64 t0), (.int .i64 t1), (.slice t2A t2N t2C)]), (.slice vA vN vC), (.int .i64 shift)] w R = vecs_Table_Times.vc t0 t1 t2A t2N t2C vA vN vC shift w R := by kernel_rfl
theorem vecs_Table_Times.calls (t0 : Int) (t1 : Int) (t2A : Option Addr) (t2N : Nat) (t2C : Nat) (vA : Option Addr) (vN : Nat) (vC : Nat) (shift : Int) {w : World} {R : Value → World → Prop} (h : vecs_Table_Times.vc t0 t1 t2A t2N t2C vA vN vC shift w R) : Calls Tryz.prog 131 #[(.agg #[(.int .i64 t0), (.int .i64 t1), (.slice t2A t2N t2C)]), (.slice vA vN vC), (.int .i64 shift)] w (Ret R) :=
  calls_V fit Tryz.func131 (.at_ 1 3 (.k .nil) (.c .nil (.lp [(8, some (.slice)), (9, none), (22, some (.int .i64)), (23, none), (24, none), (25, none), (26, none), (27, none), (28, none), (29, none), (30, none), (31, none), (32, none), (33, none), (34, none), (35, none), (36, none)] (.c .nil .nil)))) (by rw [show (#[(.agg #[(.int .i64 t0), (.int .i64 t1), (.slice t2A t2N t2C)]), (.slice vA vN vC), (.int .i64 shift)] : Array Value).toList = [(.agg #[(.int .i64 t0), (.int .i64 t1), (.slice t2A t2N t2C)]), (.slice vA vN vC), (.int .i64 shift)] from rfl, vecs_Table_Times.vc_eq]; exact h)
/-- function 134 -/
def vecs_Plus.vc (listA : Option Addr) (listN : Nat) (listC : Nat) (w : World) (R : Value → World → Prop) : Prop :=
  ((((listN : Nat) : Int) == (0 : Int)) = true →
  R (.tuple #[(.slice none 0 0), (.int .i64 0)]) w) ∧
  ((((listN : Nat) : Int) == (0 : Int)) = false →
  ∃ vI : Int → Nat → World → Prop, (∃ vk_2 : Nat, vI 0 vk_2 w) ∧
  ∀ (jk : Nat → Value) (x16 : Int), ∀ (vk : Nat) (w1 : World), vI x16 vk w1 →
  (decide (x16 < ((listN : Nat) : Int)) = true →
  (0 ≤ x16 ∧ x16 < ((listN : Nat) : Int)) ∧ someV listA fun p =>
  ∃ (x19A : Option Addr), ∃ (x19N : Nat), ∃ (x19C : Nat), w1.cell? (p.add (x16.toNat * 1)) = some (.slice x19A x19N x19C) ∧
  (0 ≤ (0 : Int) ∧ (0 : Int) < ((listN : Nat) : Int)) ∧ someV listA fun p_1 =>
  ∃ (x24A : Option Addr), ∃ (x24N : Nat), ∃ (x24C : Nat), w1.cell? p_1 = some (.slice x24A x24N x24C) ∧
  ((((x19N : Nat) : Int) != ((x24N : Nat) : Int)) = true →
  R (.tuple #[(.slice none 0 0), (.int .i64 1)]) w1) ∧
  ((((x19N : Nat) : Int) != ((x24N : Nat) : Int)) = false →
  ∃ vk_1 : Nat, vk_1 < vk ∧ vI (IntKind.i64.wrap (x16 + 1)) vk_1 w1)) ∧
  (decide (x16 < ((listN : Nat) : Int)) = false →
  (0 ≤ (0 : Int) ∧ (0 : Int) < ((listN : Nat) : Int)) ∧ someV listA fun p_2 =>
  ∃ (x30A : Option Addr), ∃ (x30N : Nat), ∃ (x30C : Nat), w1.cell? p_2 = some (.slice x30A x30N x30C) ∧
  ∃ vI_1 : Option Addr → Nat → Nat → Int → Nat → World → Prop, (∃ vk_5 : Nat, vI_1 none 0 0 0 vk_5 w1) ∧
  ∀ (jk : Nat → Value) (outA : Option Addr) (outN : Nat) (outC : Nat) (x32 : Int), ∀ (vk_3 : Nat) (w2 : World), vI_1 outA outN outC x32 vk_3 w2 →
  (decide (x32 < ((x30N : Nat) : Int)) = true →
  ∃ vI_2 : Option Addr → Nat → Nat → Int → Nat → World → Prop, (∃ vk_8 : Nat, vI_2 none 0 0 0 vk_8 w2) ∧
  ∀ (jk : Nat → Value) (columnA : Option Addr) (columnN : Nat) (columnC : Nat) (x37 : Int), ∀ (vk_6 : Nat) (w3 : World), vI_2 columnA columnN columnC x37 vk_6 w3 →
  (decide (x37 < ((listN : Nat) : Int)) = true →
  (0 ≤ x37 ∧ x37 < ((listN : Nat) : Int)) ∧ someV listA fun p_3 =>
  ∃ (x40A : Option Addr), ∃ (x40N : Nat), ∃ (x40C : Nat), w3.cell? (p_3.add (x37.toNat * 1)) = some (.slice x40A x40N x40C) ∧
  (0 ≤ x32 ∧ x32 < ((x40N : Nat) : Int)) ∧ someV x40A fun p_4 =>
  ∃ (x45 : Int), w3.cell? (p_4.add (x32.toNat * 1)) = some (.int .i64 x45) ∧
  ∀ w4 : World, w4 = w3.alloc (.cells #[(.int .i64 x45)] 3 (0, 0)) →
  ∃ (x47A : Option Addr), ∃ (x47N : Nat), ∃ (x47C : Nat), ∃ w5 : World, (Builtin.append_ #[39, 39] 39 #[(.slice columnA columnN columnC), (.slice (some (⟨w3.heap.size, 0, none⟩ : Addr)) 1 1)]).run Tryz.prog w4 = .ok (.slice x47A x47N x47C) w5 ∧
  ∃ vk_7 : Nat, vk_7 < vk_6 ∧ vI_2 x47A x47N x47C (IntKind.i64.wrap (x37 + 1)) vk_7 w5) ∧
  (decide (x37 < ((listN : Nat) : Int)) = false →
  Calls Tryz.prog 142 #[(.slice columnA columnN columnC)] w3 (Ret fun v w6 => ∃ (x51 : Int), v = (.int .i64 x51) ∧
  Calls Tryz.prog 92 #[(.int .i64 x51)] w6 (Ret fun v_1 w7 => ∃ (x52 : Int), v_1 = (.int .i64 x52) ∧
  ∀ w8 : World, w8 = w7.alloc (.cells #[(.int .i64 x52)] 3 (0, 0)) →
  ∃ (x54A : Option Addr), ∃ (x54N : Nat), ∃ (x54C : Nat), ∃ w9 : World, (Builtin.append_ #[39, 39] 39 #[(.slice outA outN outC), (.slice (some (⟨w7.heap.size, 0, none⟩ : Addr)) 1 1)]).run Tryz.prog w8 = .ok (.slice x54A x54N x54C) w9 ∧
  ∃ vk_4 : Nat, vk_4 < vk_3 ∧ vI_1 x54A x54N x54C (IntKind.i64.wrap (x32 + 1)) vk_4 w9)))) ∧
  (decide (x32 < ((x30N : Nat) : Int)) = false →
  R (.tuple #[(.slice outA outN outC), (.int .i64 0)]) w2)))
theorem vecs_Plus.vc_eq (listA : Option Addr) (listN : Nat) (listC : Nat) (w : World) (R : Value → World → Prop) : fnV Tryz.prog Tryz.f134 (.c .nil (.lp [(2, none), (3, none), (5, none), (16, some (.int .i64)), (17, none), (18, none), (19, none), (20, none), (21, none), (22, none), (23, none), (24, none), (25, none), (26, none), (27, none)] (.c (.c .nil .nil) (.lp [(6, some (.slice)), (7, none), (8, none), (10, none), (32, some (.int .i64)), (33, none), (34, none), (35, none), (36, none), (37, none), (38, none), (39, none), (40, none), (41, none), (42, none), (43, none), (44, none), (45, none), (46, none), (47, none), (48, none), (49, none), (50, none), (51, none), (52, none), (53, none), (54, none), (55, none)] (.c (.lp [(8, some (.slice)), (10, none), (37, some (.int .i64)), (38, none), (39, none), (40, none), (41, none), (42, none), (43, none), (44, none), (45, none), (46, none), (47, none), (48, none)] (.c .nil .nil)) .nil))))) [(.slice listA listN listC)] w R = vecs_Plus.vc listA listN listC w R := by kernel_rfl
theorem vecs_Plus.calls (listA : Option Addr) (listN : Nat) (listC : Nat) {w : World} {R : Value → World → Prop} (h : vecs_Plus.vc listA listN listC w R) : Calls Tryz.prog 134 #[(.slice listA listN listC)] w (Ret R) :=
  calls_V fit Tryz.func134 (.c .nil (.lp [(2, none), (3, none), (5, none), (16, some (.int .i64)), (17, none), (18, none), (19, none), (20, none), (21, none), (22, none), (23, none), (24, none), (25, none), (26, none), (27, none)] (.c (.c .nil .nil) (.lp [(6, some (.slice)), (7, none), (8, none), (10, none), (32, some (.int .i64)), (33, none), (34, none), (35, none), (36, none), (37, none), (38, none), (39, none), (40, none), (41, none), (42, none), (43, none), (44, none), (45, none), (46, none), (47, none), (48, none), (49, none), (50, none), (51, none), (52, none), (53, none), (54, none), (55, none)] (.c (.lp [(8, some (.slice)), (10, none), (37, some (.int .i64)), (38, none), (39, none), (40, none), (41, none), (42, none), (43, none), (44, none), (45, none), (46, none), (47, none), (48, none)] (.c .nil .nil)) .nil))))) (by rw [show (#[(.slice listA listN listC)] : Array Value).toList = [(.slice listA listN listC)] from rfl, vecs_Plus.vc_eq]; exact h)
/-- function 71 -/
def coadjutorref11_Plus.vc (listA : Option Addr) (listN : Nat) (listC : Nat) (w : World) (R : Value → World → Prop) : Prop :=
  ∀ w1 : World, w1 = w.alloc (.cells #[] 3 (0, 0)) →
  ∃ vI : Int → Nat → World → Prop, (∃ vk_2 : Nat, vI 0 vk_2 w1) ∧
  ∀ (jk : Nat → Value) (i : Int), ∀ (vk : Nat) (w2 : World), vI i vk w2 →
  (decide (i < ((listN : Nat) : Int)) = true →
  ∃ vS : World → Prop, ∀ w3 : World, w3 = w2.drew → vS w3 ∧
  (0 ≤ i ∧ i < ((listN : Nat) : Int)) ∧ someV listA fun p =>
  ∃ (x19A : Option Addr), ∃ (x19N : Nat), ∃ (x19C : Nat), (∀ w4, vS w4 → w4.cell? (p.add (i.toNat * 1)) = some (.slice x19A x19N x19C)) ∧
  (0 ≤ (0 : Int) ∧ (0 : Int) < ((listN : Nat) : Int)) ∧ someV listA fun p_1 =>
  ∃ (x23A : Option Addr), ∃ (x23N : Nat), ∃ (x23C : Nat), (∀ w5, vS w5 → w5.cell? p_1 = some (.slice x23A x23N x23C)) ∧
  ((((x19N : Nat) : Int) != ((x23N : Nat) : Int)) = true →
  R (.tuple #[(.slice none 0 0), (.bool false)]) w3) ∧
  ((((x19N : Nat) : Int) != ((x23N : Nat) : Int)) = false →
  ∃ vk_1 : Nat, vk_1 < vk ∧ vI (IntKind.i64.wrap (i + 1)) vk_1 w3)) ∧
  (decide (i < ((listN : Nat) : Int)) = false →
  ∃ vI_1 : Option Addr → Nat → Nat → Int → Nat → World → Prop, (∃ vk_5 : Nat, vI_1 (some (⟨w.heap.size, 0, none⟩ : Addr)) 0 0 0 vk_5 w2) ∧
  ∀ (jk : Nat → Value) (outA : Option Addr) (outN : Nat) (outC : Nat) (vk_6 : Int), ∀ (vk_3 : Nat) (w6 : World), vI_1 outA outN outC vk_6 vk_3 w6 →
  (decide (((listN : Nat) : Int) > (0 : Int)) = true →
  (0 ≤ (0 : Int) ∧ (0 : Int) < ((listN : Nat) : Int)) ∧ someV listA fun p_2 =>
  ∃ (x33A : Option Addr), ∃ (x33N : Nat), ∃ (x33C : Nat), w6.cell? p_2 = some (.slice x33A x33N x33C) ∧
  (decide (vk_6 < ((x33N : Nat) : Int)) = true →
  ∀ w7 : World, w7 = w6.alloc (.cells #[] 3 (0, 0)) →
  ∃ vI_2 : Option Addr → Nat → Nat → Int → Nat → World → Prop, (∃ vk_9 : Nat, vI_2 (some (⟨w6.heap.size, 0, none⟩ : Addr)) 0 0 0 vk_9 w7) ∧
  ∀ (jk : Nat → Value) (lA : Option Addr) (lN : Nat) (lC : Nat) (i_1 : Int), ∀ (vk_7 : Nat) (w8 : World), vI_2 lA lN lC i_1 vk_7 w8 →
  (decide (i_1 < ((listN : Nat) : Int)) = true →
  (0 ≤ i_1 ∧ i_1 < ((listN : Nat) : Int)) ∧ someV listA fun p_3 =>
  ∃ (x50A : Option Addr), ∃ (x50N : Nat), ∃ (x50C : Nat), w8.cell? (p_3.add (i_1.toNat * 1)) = some (.slice x50A x50N x50C) ∧
  (0 ≤ vk_6 ∧ vk_6 < ((x50N : Nat) : Int)) ∧ someV x50A fun p_4 =>
  ∃ (x53 : Int), w8.cell? (p_4.add (vk_6.toNat * 1)) = some (.int .i64 x53) ∧
  ∀ w9 : World, w9 = w8.alloc (.cells #[(.int .i64 x53)] 3 (0, 0)) →
  ∃ (x55A : Option Addr), ∃ (x55N : Nat), ∃ (x55C : Nat), ∃ w10 : World, (Builtin.append_ #[39, 39] 39 #[(.slice lA lN lC), (.slice (some (⟨w8.heap.size, 0, none⟩ : Addr)) 1 1)]).run Tryz.prog w9 = .ok (.slice x55A x55N x55C) w10 ∧
  ∃ vk_8 : Nat, vk_8 < vk_7 ∧ vI_2 x55A x55N x55C (IntKind.i64.wrap (i_1 + 1)) vk_8 w10) ∧
  (decide (i_1 < ((listN : Nat) : Int)) = false →
  Calls Tryz.prog 74 #[(.slice lA lN lC)] w8 (Ret fun v w11 => ∃ (x58 : Int), v = (.int .i64 x58) ∧
  Calls Tryz.prog 42 #[(.int .i64 x58)] w11 (Ret fun v_1 w12 => ∃ (x59 : Int), v_1 = (.int .i64 x59) ∧
  ∀ w13 : World, w13 = w12.alloc (.cells #[(.int .i64 x59)] 3 (0, 0)) →
  ∃ (x61A : Option Addr), ∃ (x61N : Nat), ∃ (x61C : Nat), ∃ w14 : World, (Builtin.append_ #[39, 39] 39 #[(.slice outA outN outC), (.slice (some (⟨w12.heap.size, 0, none⟩ : Addr)) 1 1)]).run Tryz.prog w13 = .ok (.slice x61A x61N x61C) w14 ∧
  ∃ vk_4 : Nat, vk_4 < vk_3 ∧ vI_1 x61A x61N x61C (IntKind.i64.wrap (vk_6 + 1)) vk_4 w14)))) ∧
  (decide (vk_6 < ((x33N : Nat) : Int)) = false →
  R (.tuple #[(.slice outA outN outC), (.bool true)]) w6)) ∧
  (decide (((listN : Nat) : Int) > (0 : Int)) = false →
  R (.tuple #[(.slice outA outN outC), (.bool true)]) w6))
theorem coadjutorref11_Plus.vc_eq (listA : Option Addr) (listN : Nat) (listC : Nat) (w : World) (R : Value → World → Prop) : fnV Tryz.prog Tryz.f71 (.lp [(2, none), (3, none), (5, some (.int .i64)), (10, none), (11, none), (12, none), (13, none), (14, none), (15, none), (16, none), (17, none), (18, none), (19, none), (20, none), (21, none), (22, none), (23, none), (24, none), (25, none)] (.c (.tk 0 (.tk 1 (.tk 2 (.tk 3 (.tk 4 (.tk 5 (.tk 6 (.tk 7 (.tk 8 (.tk 9 (.fin (.c .nil .nil)))))))))))) (.lp [(4, some (.slice)), (6, some (.int .i64)), (7, none), (8, none), (26, none), (27, none), (28, none), (29, none), (30, none), (31, none), (32, none), (33, none), (34, none), (35, none), (36, none), (37, none), (38, none), (39, none), (40, none), (41, none), (42, none), (43, none), (44, none), (45, none), (46, none), (47, none), (48, none), (49, none), (50, none), (51, none), (52, none), (53, none), (54, none), (55, none), (56, none), (57, none), (58, none), (59, none), (60, none), (61, none)] (.at_ 8 3 (.c (.lp [(7, some (.slice)), (8, some (.int .i64)), (40, none), (41, none), (42, none), (43, none), (44, none), (45, none), (46, none), (47, none), (48, none), (49, none), (50, none), (51, none), (52, none), (53, none), (54, none), (55, none)] (.c .nil .nil)) .nil) (.k .nil))))) [(.slice listA listN listC)] w R = coadjutorref11_Plus.vc listA listN listC w R := by kernel_rfl
theorem coadjutorref11_Plus.calls (listA : Option Addr) (listN : Nat) (listC : Nat) {w : World} {R : Value → World → Prop} (h : coadjutorref11_Plus.vc listA listN listC w R) : Calls Tryz.prog 71 #[(.slice listA listN listC)] w (Ret R) :=
  calls_V fit Tryz.func71 (.lp [(2, none), (3, none), (5, some (.int .i64)), (10, none), (11, none), (12, none), (13, none), (14, none), (15, none), (16, none), (17, none), (18, none), (19, none), (20, none), (21, none), (22, none), (23, none), (24, none), (25, none)] (.c (.tk 0 (.tk 1 (.tk 2 (.tk 3 (.tk 4 (.tk 5 (.tk 6 (.tk 7 (.tk 8 (.tk 9 (.fin (.c .nil .nil)))))))))))) (.lp [(4, some (.slice)), (6, some (.int .i64)), (7, none), (8, none), (26, none), (27, none), (28, none), (29, none), (30, none), (31, none), (32, none), (33, none), (34, none), (35, none), (36, none), (37, none), (38, none), (39, none), (40, none), (41, none), (42, none), (43, none), (44, none), (45, none), (46, none), (47, none), (48, none), (49, none), (50, none), (51, none), (52, none), (53, none), (54, none), (55, none), (56, none), (57, none), (58, none), (59, none), (60, none), (61, none)] (.at_ 8 3 (.c (.lp [(7, some (.slice)), (8, some (.int .i64)), (40, none), (41, none), (42, none), (43, none), (44, none), (45, none), (46, none), (47, none), (48, none), (49, none), (50, none), (51, none), (52, none), (53, none), (54, none), (55, none)] (.c .nil .nil)) .nil) (.k .nil))))) (by rw [show (#[(.slice listA listN listC)] : Array Value).toList = [(.slice listA listN listC)] from rfl, coadjutorref11_Plus.vc_eq]; exact h)
/-- function 74 -/
def coadjutorref01_Sum.vc (lA : Option Addr) (lN : Nat) (lC : Nat) (w : World) (R : Value → World → Prop) : Prop :=
  ∃ vI : Int → Int → Nat → World → Prop, (∃ vk_2 : Nat, vI 0 0 vk_2 w) ∧
  ∀ (jk : Nat → Value) (out : Int) (i : Int), ∀ (vk : Nat) (w1 : World), vI out i vk w1 →
  (decide (i < ((lN : Nat) : Int)) = true →
  (0 ≤ i ∧ i < ((lN : Nat) : Int)) ∧ someV lA fun p =>
  ∃ (x15 : Int), w1.cell? (p.add (i.toNat * 1)) = some (.int .i64 x15) ∧
  Calls Tryz.prog 68 #[(.int .i64 x15), (.int .i64 (-2305843009213693952)), (.int .i64 2305843009213693952)] w1 (Ret fun v w2 => ∃ (x16 : Int), v = (.int .i64 x16) ∧
  Calls Tryz.prog 68 #[(.int .i64 (IntKind.i64.wrap (out + x16))), (.int .i64 (-4611686018427387904)), (.int .i64 4611686018427387904)] w2 (Ret fun v_1 w3 => ∃ (x18 : Int), v_1 = (.int .i64 x18) ∧
  ∃ vk_1 : Nat, vk_1 < vk ∧ vI x18 (IntKind.i64.wrap (i + 1)) vk_1 w3))) ∧
  (decide (i < ((lN : Nat) : Int)) = false →
  R (.int .i64 out) w1)
theorem coadjutorref01_Sum.vc_eq (lA : Option Addr) (lN : Nat) (lC : Nat) (w : World) (R : Value → World → Prop) : fnV Tryz.prog Tryz.f74 (.lp [(3, some (.int .i64)), (4, some (.int .i64)), (5, none), (6, none), (7, none), (8, none), (9, none), (10, none), (11, none), (12, none), (13, none), (14, none), (15, none), (16, none), (17, none), (18, none)] (.c .nil .nil)) [(.slice lA lN lC)] w R = coadjutorref01_Sum.vc lA lN lC w R := by kernel_rfl
theorem coadjutorref01_Sum.calls (lA : Option Addr) (lN : Nat) (lC : Nat) {w : World} {R : Value → World → Prop} (h : coadjutorref01_Sum.vc lA lN lC w R) : Calls Tryz.prog 74 #[(.slice lA lN lC)] w (Ret R) :=
  calls_V fit Tryz.func74 (.lp [(3, some (.int .i64)), (4, some (.int .i64)), (5, none), (6, none), (7, none), (8, none), (9, none), (10, none), (11, none), (12, none), (13, none), (14, none), (15, none), (16, none), (17, none), (18, none)] (.c .nil .nil)) (by rw [show (#[(.slice lA lN lC)] : Array Value).toList = [(.slice lA lN lC)] from rfl, coadjutorref01_Sum.vc_eq]; exact h)
/-- function 50 -/
def coadjutorref01_Dot.vc (aA : Option Addr) (aN : Nat) (aC : Nat) (bA : Option Addr) (bN : Nat) (bC : Nat) (w : World) (R : Value → World → Prop) : Prop :=
  ∀ w1 : World, w1 = w.alloc (.cells #[] 3 (0, 0)) →
  ∃ vI : Option Addr → Nat → Nat → Int → Nat → World → Prop, (∃ vk_2 : Nat, vI (some (⟨w.heap.size, 0, none⟩ : Addr)) 0 0 0 vk_2 w1) ∧
  ∀ (jk : Nat → Value) (lA : Option Addr) (lN : Nat) (lC : Nat) (i : Int), ∀ (vk : Nat) (w2 : World), vI lA lN lC i vk w2 →
  (decide (i < ((aN : Nat) : Int)) = true →
  (decide (i < ((bN : Nat) : Int)) = true →
  ∃ vS : World → Prop, ∀ w3 : World, w3 = w2.drew → vS w3 ∧
  (0 ≤ i ∧ i < ((aN : Nat) : Int)) ∧ someV aA fun p =>
  ∃ (x24 : Int), (∀ w4, vS w4 → w4.cell? (p.add (i.toNat * 1)) = some (.int .i64 x24)) ∧
  (0 ≤ i ∧ i < ((bN : Nat) : Int)) ∧ someV bA fun p_1 =>
  ∃ (x29 : Int), (∀ w5, vS w5 → w5.cell? (p_1.add (i.toNat * 1)) = some (.int .i64 x29)) ∧
  Calls Tryz.prog 68 #[(.int .i64 x24), (.int .i64 (-1073741824)), (.int .i64 1073741824)] w3 (Ret fun v w6 => ∃ (x25 : Int), v = (.int .i64 x25) ∧
  vS w6 ∧
  Calls Tryz.prog 68 #[(.int .i64 x29), (.int .i64 (-1073741824)), (.int .i64 1073741824)] w6 (Ret fun v_1 w7 => ∃ (x30 : Int), v_1 = (.int .i64 x30) ∧
  vS w7 ∧
  ∀ w8 : World, w8 = w7.alloc (.cells #[(.int .i64 (IntKind.i64.wrap (x25 * x30)))] 3 (0, 0)) →
  vS w8 ∧
  ∃ (x33A : Option Addr), ∃ (x33N : Nat), ∃ (x33C : Nat), ∃ w9 : World, (Builtin.append_ #[39, 39] 39 #[(.slice lA lN lC), (.slice (some (⟨w7.heap.size, 0, none⟩ : Addr)) 1 1)]).run Tryz.prog w8 = .ok (.slice x33A x33N x33C) w9 ∧
  vS w9 ∧
  ∃ vk_1 : Nat, vk_1 < vk ∧ vI x33A x33N x33C (IntKind.i64.wrap (i + 1)) vk_1 w9))) ∧
  (decide (i < ((bN : Nat) : Int)) = false →
  Calls Tryz.prog 74 #[(.slice lA lN lC)] w2 (Ret fun v_2 w10 => ∃ (x35 : Int), v_2 = (.int .i64 x35) ∧
  R (.int .i64 x35) w10))) ∧
  (decide (i < ((aN : Nat) : Int)) = false →
  Calls Tryz.prog 74 #[(.slice lA lN lC)] w2 (Ret fun v_3 w11 => ∃ (x35_1 : Int), v_3 = (.int .i64 x35_1) ∧
  R (.int .i64 x35_1) w11))
theorem coadjutorref01_Dot.vc_eq (aA : Option Addr) (aN : Nat) (aC : Nat) (bA : Option Addr) (bN : Nat) (bC : Nat) (w : World) (R : Value → World → Prop) : fnV Tryz.prog Tryz.f50 (.lp [(5, some (.slice)), (6, some (.int .i64)), (8, none), (9, none), (10, none), (11, none), (12, none), (13, none), (14, none), (15, none), (16, none), (17, none), (18, none), (19, none), (20, none), (21, none), (22, none), (23, none), (24, none), (25, none), (26, none), (27, none), (28, none), (29, none), (30, none), (31, none), (32, none), (33, none)] (.at_ 3 4 (.c (.tk 0 (.tk 1 (.tk 2 (.tk 3 (.tk 4 (.tk 6 (.tk 7 (.tk 8 (.tk 9 (.alt 5 (.alt 10 (.tk 11 (.alt 12 (.alt 13 (.tk 14 (.fin .nil)) .nil) .nil)) .nil) .nil)))))))))) .nil) (.k .nil))) [(.slice aA aN aC), (.slice bA bN bC)] w R = coadjutorref01_Dot.vc aA aN aC bA bN bC w R := by kernel_rfl
theorem coadjutorref01_Dot.calls (aA : Option Addr) (aN : Nat) (aC : Nat) (bA : Option Addr) (bN : Nat) (bC : Nat) {w : World} {R : Value → World → Prop} (h : coadjutorref01_Dot.vc aA aN aC bA bN bC w R) : Calls Tryz.prog 50 #[(.slice aA aN aC), (.slice bA bN bC)] w (Ret R) :=
  calls_V fit Tryz.func50 (.lp [(5, some (.slice)), (6, some (.int .i64)), (8, none), (9, none), (10, none), (11, none), (12, none), (13, none), (14, none), (15, none), (16, none), (17, none), (18, none), (19, none), (20, none), (21, none), (22, none), (23, none), (24, none), (25, none), (26, none), (27, none), (28, none), (29, none), (30, none), (31, none), (32, none), (33, none)] (.at_ 3 4 (.c (.tk 0 (.tk 1 (.tk 2 (.tk 3 (.tk 4 (.tk 6 (.tk 7 (.tk 8 (.tk 9 (.alt 5 (.alt 10 (.tk 11 (.alt 12 (.alt 13 (.tk 14 (.fin .nil)) .nil) .nil)) .nil) .nil)))))))))) .nil) (.k .nil))) (by rw [show (#[(.slice aA aN aC), (.slice bA bN bC)] : Array Value).toList = [(.slice aA aN aC), (.slice bA bN bC)] from rfl, coadjutorref01_Dot.vc_eq]; exact h)
end Go.Proofs.YtbadkcnemcnhfaaGreatDoor.Vc

set_option linter.unusedVariables false
set_option maxRecDepth 100000
namespace Go.Proofs.YtbadkcnemcnhfaaGreatDoor.Vc
open Go Go.Proofs Go.Proofs.YtbadkcnemcnhfaaGreatDoor.V
/-- function 136 -/
def act_Gate.vc (n : Int) (w : World) (R : Value → World → Prop) : Prop :=
  Calls Tryz.prog 145 #[] w (Ret fun v w1 => ∃ (x40 : Int), ∃ (x41 : Int), ∃ (x42 : Int), ∃ (x43 : Int), ∃ (x44 : Int), ∃ (x45 : Int), ∃ (x46 : Int), ∃ (x47 : Int), ∃ (x48 : Int), ∃ (x49 : Int), ∃ (x410 : Int), ∃ (x411 : Int), ∃ (x412 : Int), ∃ (x413 : Int), ∃ (x414 : Int), ∃ (x415 : Int), ∃ (x416 : Int), v = (.agg #[(.int .i64 x40), (.int .i64 x41), (.int .i64 x42), (.int .i64 x43), (.int .i64 x44), (.int .i64 x45), (.int .i64 x46), (.int .i64 x47), (.int .i64 x48), (.int .i64 x49), (.int .i64 x410), (.int .i64 x411), (.int .i64 x412), (.int .i64 x413), (.int .i64 x414), (.int .i64 x415), (.int .i64 x416)]) ∧
  ∀ w2 : World, w2 = w1.alloc (.cells #[(.int .i64 0), (.int .i64 0), (.int .i64 0), (.int .i64 0), (.int .i64 0), (.int .i64 0), (.int .i64 0), (.int .i64 0), (.int .i64 0), (.int .i64 0), (.int .i64 0), (.int .i64 0), (.int .i64 0), (.int .i64 0), (.int .i64 0), (.int .i64 0), (.int .i64 0)] 148 (0, 0)) →
  (((∃ u, w2.cell? (⟨w1.heap.size, 0, none⟩ : Addr) = some u) ∧ w2.frozen? (⟨w1.heap.size, 0, none⟩ : Addr) = false) ∧ ((∃ u, w2.cell? (⟨w1.heap.size, 1, none⟩ : Addr) = some u) ∧ w2.frozen? (⟨w1.heap.size, 1, none⟩ : Addr) = false) ∧ ((∃ u, w2.cell? (⟨w1.heap.size, 2, none⟩ : Addr) = some u) ∧ w2.frozen? (⟨w1.heap.size, 2, none⟩ : Addr) = false) ∧ ((∃ u, w2.cell? (⟨w1.heap.size, 3, none⟩ : Addr) = some u) ∧ w2.frozen? (⟨w1.heap.size, 3, none⟩ : Addr) = false) ∧ ((∃ u, w2.cell? (⟨w1.heap.size, 4, none⟩ : Addr) = some u) ∧ w2.frozen? (⟨w1.heap.size, 4, none⟩ : Addr) = false) ∧ ((∃ u, w2.cell? (⟨w1.heap.size, 5, none⟩ : Addr) = some u) ∧ w2.frozen? (⟨w1.heap.size, 5, none⟩ : Addr) = false) ∧ ((∃ u, w2.cell? (⟨w1.heap.size, 6, none⟩ : Addr) = some u) ∧ w2.frozen? (⟨w1.heap.size, 6, none⟩ : Addr) = false) ∧ ((∃ u, w2.cell? (⟨w1.heap.size, 7, none⟩ : Addr) = some u) ∧ w2.frozen? (⟨w1.heap.size, 7, none⟩ : Addr) = false) ∧ ((∃ u, w2.cell? (⟨w1.heap.size, 8, none⟩ : Addr) = some u) ∧ w2.frozen? (⟨w1.heap.size, 8, none⟩ : Addr) = false) ∧ ((∃ u, w2.cell? (⟨w1.heap.size, 9, none⟩ : Addr) = some u) ∧ w2.frozen? (⟨w1.heap.size, 9, none⟩ : Addr) = false) ∧ ((∃ u, w2.cell? (⟨w1.heap.size, 10, none⟩ : Addr) = some u) ∧ w2.frozen? (⟨w1.heap.size, 10, none⟩ : Addr) = false) ∧ ((∃ u, w2.cell? (⟨w1.heap.size, 11, none⟩ : Addr) = some u) ∧ w2.frozen? (⟨w1.heap.size, 11, none⟩ : Addr) = false) ∧ ((∃ u, w2.cell? (⟨w1.heap.size, 12, none⟩ : Addr) = some u) ∧ w2.frozen? (⟨w1.heap.size, 12, none⟩ : Addr) = false) ∧ ((∃ u, w2.cell? (⟨w1.heap.size, 13, none⟩ : Addr) = some u) ∧ w2.frozen? (⟨w1.heap.size, 13, none⟩ : Addr) = false) ∧ ((∃ u, w2.cell? (⟨w1.heap.size, 14, none⟩ : Addr) = some u) ∧ w2.frozen? (⟨w1.heap.size, 14, none⟩ : Addr) = false) ∧ ((∃ u, w2.cell? (⟨w1.heap.size, 15, none⟩ : Addr) = some u) ∧ w2.frozen? (⟨w1.heap.size, 15, none⟩ : Addr) = false) ∧ ((∃ u, w2.cell? (⟨w1.heap.size, 16, none⟩ : Addr) = some u) ∧ w2.frozen? (⟨w1.heap.size, 16, none⟩ : Addr) = false)) ∧ ∀ w3 : World, w3 = (((((((((((((((((w2.setCell (⟨w1.heap.size, 0, none⟩ : Addr) (.int .i64 x40)).setCell (⟨w1.heap.size, 1, none⟩ : Addr) (.int .i64 x41)).setCell (⟨w1.heap.size, 2, none⟩ : Addr) (.int .i64 x42)).setCell (⟨w1.heap.size, 3, none⟩ : Addr) (.int .i64 x43)).setCell (⟨w1.heap.size, 4, none⟩ : Addr) (.int .i64 x44)).setCell (⟨w1.heap.size, 5, none⟩ : Addr) (.int .i64 x45)).setCell (⟨w1.heap.size, 6, none⟩ : Addr) (.int .i64 x46)).setCell (⟨w1.heap.size, 7, none⟩ : Addr) (.int .i64 x47)).setCell (⟨w1.heap.size, 8, none⟩ : Addr) (.int .i64 x48)).setCell (⟨w1.heap.size, 9, none⟩ : Addr) (.int .i64 x49)).setCell (⟨w1.heap.size, 10, none⟩ : Addr) (.int .i64 x410)).setCell (⟨w1.heap.size, 11, none⟩ : Addr) (.int .i64 x411)).setCell (⟨w1.heap.size, 12, none⟩ : Addr) (.int .i64 x412)).setCell (⟨w1.heap.size, 13, none⟩ : Addr) (.int .i64 x413)).setCell (⟨w1.heap.size, 14, none⟩ : Addr) (.int .i64 x414)).setCell (⟨w1.heap.size, 15, none⟩ : Addr) (.int .i64 x415)).setCell (⟨w1.heap.size, 16, none⟩ : Addr) (.int .i64 x416)) →
  Calls Tryz.prog 146 #[(.int .i64 n), (.int .i64 32)] w3 (Ret fun v_1 w4 => ∃ (x6 : Int), v_1 = (.int .i64 x6) ∧
  Calls Tryz.prog 113 #[(.int .i64 x6), (.int .i64 (-8)), (.int .i64 8)] w4 (Ret fun v_2 w5 => ∃ (x7 : Int), v_2 = (.int .i64 x7) ∧
  (0 ≤ (IntKind.i64.wrap (x7 + 8)) ∧ (IntKind.i64.wrap (x7 + 8)) < (17 : Int)) ∧
  ∃ (x10 : Int), w5.cell? ((⟨w1.heap.size, 0, none⟩ : Addr).add ((IntKind.i64.wrap (x7 + 8)).toNat * 1)) = some (.int .i64 x10) ∧
  R (.int .i64 x10) w5)))
theorem act_Gate.vc_eq (n : Int) (w : World) (R : Value → World → Prop) : fnV Tryz.prog Tryz.f136 .nil [(.int .i64 n)] w R = act_Gate.vc n w R := by kernel_rfl
theorem act_Gate.calls (n : Int) {w : World} {R : Value → World → Prop} (h : act_Gate.vc n w R) : Calls Tryz.prog 136 #[(.int .i64 n)] w (Ret R) :=
  calls_V fit Tryz.func136 .nil (by rw [show (#[(.int .i64 n)] : Array Value).toList = [(.int .i64 n)] from rfl, act_Gate.vc_eq]; exact h)
/-- function 119 -/
def act_Pairs.vc (gatesA : Option Addr) (gatesN : Nat) (gatesC : Nat) (rowA : Option Addr) (rowN : Nat) (rowC : Nat) (w : World) (R : Value → World → Prop) : Prop :=
  ((((gatesN : Nat) : Int) != ((rowN : Nat) : Int)) = true →
  R (.slice none 0 0) w) ∧
  ((((gatesN : Nat) : Int) != ((rowN : Nat) : Int)) = false →
  ∃ vI : Option Addr → Nat → Nat → Int → Nat → World → Prop, (∃ vk_2 : Nat, vI none 0 0 0 vk_2 w) ∧
  ∀ (jk : Nat → Value) (outA : Option Addr) (outN : Nat) (outC : Nat) (x15 : Int), ∀ (vk : Nat) (w1 : World), vI outA outN outC x15 vk w1 →
  (decide (x15 < ((rowN : Nat) : Int)) = true →
  (0 ≤ x15 ∧ x15 < ((rowN : Nat) : Int)) ∧ someV rowA fun p =>
  ∃ (x19 : Int), w1.cell? (p.add (x15.toNat * 1)) = some (.int .i64 x19) ∧
  (0 ≤ x15 ∧ x15 < ((gatesN : Nat) : Int)) ∧ someV gatesA fun p_1 =>
  ∃ (x25 : Int), w1.cell? (p_1.add (x15.toNat * 1)) = some (.int .i64 x25) ∧
  Calls Tryz.prog 136 #[(.int .i64 x25)] w1 (Ret fun v w2 => ∃ (x26 : Int), v = (.int .i64 x26) ∧
  Calls Tryz.prog 135 #[(.int .i64 x19), (.int .i64 x26), (.int .i64 8)] w2 (Ret fun v_1 w3 => ∃ (x27 : Int), v_1 = (.int .i64 x27) ∧
  ∀ w4 : World, w4 = w3.alloc (.cells #[(.int .i64 x27)] 3 (0, 0)) →
  ∃ (x29A : Option Addr), ∃ (x29N : Nat), ∃ (x29C : Nat), ∃ w5 : World, (Builtin.append_ #[39, 39] 39 #[(.slice outA outN outC), (.slice (some (⟨w3.heap.size, 0, none⟩ : Addr)) 1 1)]).run Tryz.prog w4 = .ok (.slice x29A x29N x29C) w5 ∧
  ∃ vk_1 : Nat, vk_1 < vk ∧ vI x29A x29N x29C (IntKind.i64.wrap (x15 + 1)) vk_1 w5))) ∧
  (decide (x15 < ((rowN : Nat) : Int)) = false →
  R (.slice outA outN outC) w1))
theorem act_Pairs.vc_eq (gatesA : Option Addr) (gatesN : Nat) (gatesC : Nat) (rowA : Option Addr) (rowN : Nat) (rowC : Nat) (w : World) (R : Value → World → Prop) : fnV Tryz.prog Tryz.f119 (.c .nil (.lp [(5, some (.slice)), (6, none), (7, none), (15, some (.int .i64)), (16, none), (17, none), (18, none), (19, none), (20, none), (21, none), (22, none), (23, none), (24, none), (25, none), (26, none), (27, none), (28, none), (29, none), (30, none)] (.c .nil .nil))) [(.slice gatesA gatesN gatesC), (.slice rowA rowN rowC)] w R = act_Pairs.vc gatesA gatesN gatesC rowA rowN rowC w R := by kernel_rfl
theorem act_Pairs.calls (gatesA : Option Addr) (gatesN : Nat) (gatesC : Nat) (rowA : Option Addr) (rowN : Nat) (rowC : Nat) {w : World} {R : Value → World → Prop} (h : act_Pairs.vc gatesA gatesN gatesC rowA rowN rowC w R) : Calls Tryz.prog 119 #[(.slice gatesA gatesN gatesC), (.slice rowA rowN rowC)] w (Ret R) :=
  calls_V fit Tryz.func119 (.c .nil (.lp [(5, some (.slice)), (6, none), (7, none), (15, some (.int .i64)), (16, none), (17, none), (18, none), (19, none), (20, none), (21, none), (22, none), (23, none), (24, none), (25, none), (26, none), (27, none), (28, none), (29, none), (30, none)] (.c .nil .nil))) (by rw [show (#[(.slice gatesA gatesN gatesC), (.slice rowA rowN rowC)] : Array Value).toList = [(.slice gatesA gatesN gatesC), (.slice rowA rowN rowC)] from rfl, act_Pairs.vc_eq]; exact h)
/-- function 145 -/
def act_table.vc (w : World) (R : Value → World → Prop) : Prop :=
  ∀ w1 : World, w1 = w.alloc (.cells #[(.int .i64 0), (.int .i64 0), (.int .i64 0), (.int .i64 0), (.int .i64 0), (.int .i64 0), (.int .i64 0), (.int .i64 0), (.int .i64 0), (.int .i64 0), (.int .i64 0), (.int .i64 0), (.int .i64 0), (.int .i64 0), (.int .i64 0), (.int .i64 0), (.int .i64 0)] 148 (0, 0)) →
  (((∃ u, w1.cell? (⟨w.heap.size, 0, none⟩ : Addr) = some u) ∧ w1.frozen? (⟨w.heap.size, 0, none⟩ : Addr) = false) ∧ ((∃ u, w1.cell? (⟨w.heap.size, 1, none⟩ : Addr) = some u) ∧ w1.frozen? (⟨w.heap.size, 1, none⟩ : Addr) = false) ∧ ((∃ u, w1.cell? (⟨w.heap.size, 2, none⟩ : Addr) = some u) ∧ w1.frozen? (⟨w.heap.size, 2, none⟩ : Addr) = false) ∧ ((∃ u, w1.cell? (⟨w.heap.size, 3, none⟩ : Addr) = some u) ∧ w1.frozen? (⟨w.heap.size, 3, none⟩ : Addr) = false) ∧ ((∃ u, w1.cell? (⟨w.heap.size, 4, none⟩ : Addr) = some u) ∧ w1.frozen? (⟨w.heap.size, 4, none⟩ : Addr) = false) ∧ ((∃ u, w1.cell? (⟨w.heap.size, 5, none⟩ : Addr) = some u) ∧ w1.frozen? (⟨w.heap.size, 5, none⟩ : Addr) = false) ∧ ((∃ u, w1.cell? (⟨w.heap.size, 6, none⟩ : Addr) = some u) ∧ w1.frozen? (⟨w.heap.size, 6, none⟩ : Addr) = false) ∧ ((∃ u, w1.cell? (⟨w.heap.size, 7, none⟩ : Addr) = some u) ∧ w1.frozen? (⟨w.heap.size, 7, none⟩ : Addr) = false) ∧ ((∃ u, w1.cell? (⟨w.heap.size, 8, none⟩ : Addr) = some u) ∧ w1.frozen? (⟨w.heap.size, 8, none⟩ : Addr) = false) ∧ ((∃ u, w1.cell? (⟨w.heap.size, 9, none⟩ : Addr) = some u) ∧ w1.frozen? (⟨w.heap.size, 9, none⟩ : Addr) = false) ∧ ((∃ u, w1.cell? (⟨w.heap.size, 10, none⟩ : Addr) = some u) ∧ w1.frozen? (⟨w.heap.size, 10, none⟩ : Addr) = false) ∧ ((∃ u, w1.cell? (⟨w.heap.size, 11, none⟩ : Addr) = some u) ∧ w1.frozen? (⟨w.heap.size, 11, none⟩ : Addr) = false) ∧ ((∃ u, w1.cell? (⟨w.heap.size, 12, none⟩ : Addr) = some u) ∧ w1.frozen? (⟨w.heap.size, 12, none⟩ : Addr) = false) ∧ ((∃ u, w1.cell? (⟨w.heap.size, 13, none⟩ : Addr) = some u) ∧ w1.frozen? (⟨w.heap.size, 13, none⟩ : Addr) = false) ∧ ((∃ u, w1.cell? (⟨w.heap.size, 14, none⟩ : Addr) = some u) ∧ w1.frozen? (⟨w.heap.size, 14, none⟩ : Addr) = false) ∧ ((∃ u, w1.cell? (⟨w.heap.size, 15, none⟩ : Addr) = some u) ∧ w1.frozen? (⟨w.heap.size, 15, none⟩ : Addr) = false) ∧ ((∃ u, w1.cell? (⟨w.heap.size, 16, none⟩ : Addr) = some u) ∧ w1.frozen? (⟨w.heap.size, 16, none⟩ : Addr) = false)) ∧ ∀ w2 : World, w2 = (((((((((((((((((w1.setCell (⟨w.heap.size, 0, none⟩ : Addr) (.int .i64 5)).setCell (⟨w.heap.size, 1, none⟩ : Addr) (.int .i64 8)).setCell (⟨w.heap.size, 2, none⟩ : Addr) (.int .i64 12)).setCell (⟨w.heap.size, 3, none⟩ : Addr) (.int .i64 19)).setCell (⟨w.heap.size, 4, none⟩ : Addr) (.int .i64 31)).setCell (⟨w.heap.size, 5, none⟩ : Addr) (.int .i64 47)).setCell (⟨w.heap.size, 6, none⟩ : Addr) (.int .i64 69)).setCell (⟨w.heap.size, 7, none⟩ : Addr) (.int .i64 97)).setCell (⟨w.heap.size, 8, none⟩ : Addr) (.int .i64 128)).setCell (⟨w.heap.size, 9, none⟩ : Addr) (.int .i64 159)).setCell (⟨w.heap.size, 10, none⟩ : Addr) (.int .i64 187)).setCell (⟨w.heap.size, 11, none⟩ : Addr) (.int .i64 209)).setCell (⟨w.heap.size, 12, none⟩ : Addr) (.int .i64 225)).setCell (⟨w.heap.size, 13, none⟩ : Addr) (.int .i64 237)).setCell (⟨w.heap.size, 14, none⟩ : Addr) (.int .i64 244)).setCell (⟨w.heap.size, 15, none⟩ : Addr) (.int .i64 248)).setCell (⟨w.heap.size, 16, none⟩ : Addr) (.int .i64 251)) →
  ∃ (r00 : Int), ∃ (r01 : Int), ∃ (r02 : Int), ∃ (r03 : Int), ∃ (r04 : Int), ∃ (r05 : Int), ∃ (r06 : Int), ∃ (r07 : Int), ∃ (r08 : Int), ∃ (r09 : Int), ∃ (r010 : Int), ∃ (r011 : Int), ∃ (r012 : Int), ∃ (r013 : Int), ∃ (r014 : Int), ∃ (r015 : Int), ∃ (r016 : Int), (w2.cell? (⟨w.heap.size, 0, none⟩ : Addr) = some (.int .i64 r00) ∧ w2.cell? (⟨w.heap.size, 1, none⟩ : Addr) = some (.int .i64 r01) ∧ w2.cell? (⟨w.heap.size, 2, none⟩ : Addr) = some (.int .i64 r02) ∧ w2.cell? (⟨w.heap.size, 3, none⟩ : Addr) = some (.int .i64 r03) ∧ w2.cell? (⟨w.heap.size, 4, none⟩ : Addr) = some (.int .i64 r04) ∧ w2.cell? (⟨w.heap.size, 5, none⟩ : Addr) = some (.int .i64 r05) ∧ w2.cell? (⟨w.heap.size, 6, none⟩ : Addr) = some (.int .i64 r06) ∧ w2.cell? (⟨w.heap.size, 7, none⟩ : Addr) = some (.int .i64 r07) ∧ w2.cell? (⟨w.heap.size, 8, none⟩ : Addr) = some (.int .i64 r08) ∧ w2.cell? (⟨w.heap.size, 9, none⟩ : Addr) = some (.int .i64 r09) ∧ w2.cell? (⟨w.heap.size, 10, none⟩ : Addr) = some (.int .i64 r010) ∧ w2.cell? (⟨w.heap.size, 11, none⟩ : Addr) = some (.int .i64 r011) ∧ w2.cell? (⟨w.heap.size, 12, none⟩ : Addr) = some (.int .i64 r012) ∧ w2.cell? (⟨w.heap.size, 13, none⟩ : Addr) = some (.int .i64 r013) ∧ w2.cell? (⟨w.heap.size, 14, none⟩ : Addr) = some (.int .i64 r014) ∧ w2.cell? (⟨w.heap.size, 15, none⟩ : Addr) = some (.int .i64 r015) ∧ w2.cell? (⟨w.heap.size, 16, none⟩ : Addr) = some (.int .i64 r016)) ∧
  R (.agg #[(.int .i64 r00), (.int .i64 r01), (.int .i64 r02), (.int .i64 r03), (.int .i64 r04), (.int .i64 r05), (.int .i64 r06), (.int .i64 r07), (.int .i64 r08), (.int .i64 r09), (.int .i64 r010), (.int .i64 r011), (.int .i64 r012), (.int .i64 r013), (.int .i64 r014), (.int .i64 r015), (.int .i64 r016)]) w2
theorem act_table.vc_eq (w : World) (R : Value → World → Prop) : fnV Tryz.prog Tryz.f145 .nil [] w R = act_table.vc  w R := by kernel_rfl
theorem act_table.calls {w : World} {R : Value → World → Prop} (h : act_table.vc  w R) : Calls Tryz.prog 145 #[] w (Ret R) :=
  calls_V fit Tryz.func145 .nil (by rw [show (#[] : Array Value).toList = [] from rfl, act_table.vc_eq]; exact h)
/-- function 73 -/
def coadjutorref14_Gate.vc (n : Int) (w : World) (R : Value → World → Prop) : Prop :=
  ∀ w1 : World, w1 = w.alloc (.cells #[(.int .i64 0), (.int .i64 0), (.int .i64 0), (.int .i64 0), (.int .i64 0), (.int .i64 0), (.int .i64 0), (.int .i64 0), (.int .i64 0), (.int .i64 0), (.int .i64 0), (.int .i64 0), (.int .i64 0), (.int .i64 0), (.int .i64 0), (.int .i64 0), (.int .i64 0)] 148 (0, 0)) →
  (((∃ u, w1.cell? (⟨w.heap.size, 0, none⟩ : Addr) = some u) ∧ w1.frozen? (⟨w.heap.size, 0, none⟩ : Addr) = false) ∧ ((∃ u, w1.cell? (⟨w.heap.size, 1, none⟩ : Addr) = some u) ∧ w1.frozen? (⟨w.heap.size, 1, none⟩ : Addr) = false) ∧ ((∃ u, w1.cell? (⟨w.heap.size, 2, none⟩ : Addr) = some u) ∧ w1.frozen? (⟨w.heap.size, 2, none⟩ : Addr) = false) ∧ ((∃ u, w1.cell? (⟨w.heap.size, 3, none⟩ : Addr) = some u) ∧ w1.frozen? (⟨w.heap.size, 3, none⟩ : Addr) = false) ∧ ((∃ u, w1.cell? (⟨w.heap.size, 4, none⟩ : Addr) = some u) ∧ w1.frozen? (⟨w.heap.size, 4, none⟩ : Addr) = false) ∧ ((∃ u, w1.cell? (⟨w.heap.size, 5, none⟩ : Addr) = some u) ∧ w1.frozen? (⟨w.heap.size, 5, none⟩ : Addr) = false) ∧ ((∃ u, w1.cell? (⟨w.heap.size, 6, none⟩ : Addr) = some u) ∧ w1.frozen? (⟨w.heap.size, 6, none⟩ : Addr) = false) ∧ ((∃ u, w1.cell? (⟨w.heap.size, 7, none⟩ : Addr) = some u) ∧ w1.frozen? (⟨w.heap.size, 7, none⟩ : Addr) = false) ∧ ((∃ u, w1.cell? (⟨w.heap.size, 8, none⟩ : Addr) = some u) ∧ w1.frozen? (⟨w.heap.size, 8, none⟩ : Addr) = false) ∧ ((∃ u, w1.cell? (⟨w.heap.size, 9, none⟩ : Addr) = some u) ∧ w1.frozen? (⟨w.heap.size, 9, none⟩ : Addr) = false) ∧ ((∃ u, w1.cell? (⟨w.heap.size, 10, none⟩ : Addr) = some u) ∧ w1.frozen? (⟨w.heap.size, 10, none⟩ : Addr) = false) ∧ ((∃ u, w1.cell? (⟨w.heap.size, 11, none⟩ : Addr) = some u) ∧ w1.frozen? (⟨w.heap.size, 11, none⟩ : Addr) = false) ∧ ((∃ u, w1.cell? (⟨w.heap.size, 12, none⟩ : Addr) = some u) ∧ w1.frozen? (⟨w.heap.size, 12, none⟩ : Addr) = false) ∧ ((∃ u, w1.cell? (⟨w.heap.size, 13, none⟩ : Addr) = some u) ∧ w1.frozen? (⟨w.heap.size, 13, none⟩ : Addr) = false) ∧ ((∃ u, w1.cell? (⟨w.heap.size, 14, none⟩ : Addr) = some u) ∧ w1.frozen? (⟨w.heap.size, 14, none⟩ : Addr) = false) ∧ ((∃ u, w1.cell? (⟨w.heap.size, 15, none⟩ : Addr) = some u) ∧ w1.frozen? (⟨w.heap.size, 15, none⟩ : Addr) = false) ∧ ((∃ u, w1.cell? (⟨w.heap.size, 16, none⟩ : Addr) = some u) ∧ w1.frozen? (⟨w.heap.size, 16, none⟩ : Addr) = false)) ∧ ∀ w2 : World, w2 = (((((((((((((((((w1.setCell (⟨w.heap.size, 0, none⟩ : Addr) (.int .i64 5)).setCell (⟨w.heap.size, 1, none⟩ : Addr) (.int .i64 8)).setCell (⟨w.heap.size, 2, none⟩ : Addr) (.int .i64 12)).setCell (⟨w.heap.size, 3, none⟩ : Addr) (.int .i64 19)).setCell (⟨w.heap.size, 4, none⟩ : Addr) (.int .i64 31)).setCell (⟨w.heap.size, 5, none⟩ : Addr) (.int .i64 47)).setCell (⟨w.heap.size, 6, none⟩ : Addr) (.int .i64 69)).setCell (⟨w.heap.size, 7, none⟩ : Addr) (.int .i64 97)).setCell (⟨w.heap.size, 8, none⟩ : Addr) (.int .i64 128)).setCell (⟨w.heap.size, 9, none⟩ : Addr) (.int .i64 159)).setCell (⟨w.heap.size, 10, none⟩ : Addr) (.int .i64 187)).setCell (⟨w.heap.size, 11, none⟩ : Addr) (.int .i64 209)).setCell (⟨w.heap.size, 12, none⟩ : Addr) (.int .i64 225)).setCell (⟨w.heap.size, 13, none⟩ : Addr) (.int .i64 237)).setCell (⟨w.heap.size, 14, none⟩ : Addr) (.int .i64 244)).setCell (⟨w.heap.size, 15, none⟩ : Addr) (.int .i64 248)).setCell (⟨w.heap.size, 16, none⟩ : Addr) (.int .i64 251)) →
  Calls Tryz.prog 68 #[(.int .i64 n), (.int .i64 (-100000)), (.int .i64 100000)] w2 (Ret fun v w3 => ∃ (x6 : Int), v = (.int .i64 x6) ∧
  Calls Tryz.prog 100 #[(.int .i64 x6), (.int .i64 32)] w3 (Ret fun v_1 w4 => ∃ (x7 : Int), v_1 = (.int .i64 x7) ∧
  Calls Tryz.prog 68 #[(.int .i64 (IntKind.i64.wrap (x7 + 8))), (.int .i64 0), (.int .i64 16)] w4 (Ret fun v_2 w5 => ∃ (x9 : Int), v_2 = (.int .i64 x9) ∧
  (0 ≤ x9 ∧ x9 < (17 : Int)) ∧
  ∃ (x11 : Int), w5.cell? ((⟨w.heap.size, 0, none⟩ : Addr).add (x9.toNat * 1)) = some (.int .i64 x11) ∧
  R (.int .i64 x11) w5)))
theorem coadjutorref14_Gate.vc_eq (n : Int) (w : World) (R : Value → World → Prop) : fnV Tryz.prog Tryz.f73 .nil [(.int .i64 n)] w R = coadjutorref14_Gate.vc n w R := by kernel_rfl
theorem coadjutorref14_Gate.calls (n : Int) {w : World} {R : Value → World → Prop} (h : coadjutorref14_Gate.vc n w R) : Calls Tryz.prog 73 #[(.int .i64 n)] w (Ret R) :=
  calls_V fit Tryz.func73 .nil (by rw [show (#[(.int .i64 n)] : Array Value).toList = [(.int .i64 n)] from rfl, coadjutorref14_Gate.vc_eq]; exact h)
/-- function 48 -/
def coadjutorref14_Pairs.vc (gatesA : Option Addr) (gatesN : Nat) (gatesC : Nat) (rowA : Option Addr) (rowN : Nat) (rowC : Nat) (w : World) (R : Value → World → Prop) : Prop :=
  ∀ w1 : World, w1 = w.alloc (.cells #[] 3 (0, 0)) →
  ∃ vI : Option Addr → Nat → Nat → Int → Nat → World → Prop, (∃ vk_2 : Nat, vI (some (⟨w.heap.size, 0, none⟩ : Addr)) 0 0 0 vk_2 w1) ∧
  ∀ (jk : Nat → Value) (outA : Option Addr) (outN : Nat) (outC : Nat) (i : Int), ∀ (vk : Nat) (w2 : World), vI outA outN outC i vk w2 →
  ((((gatesN : Nat) : Int) == ((rowN : Nat) : Int)) = true →
  (decide (i < ((rowN : Nat) : Int)) = true →
  ∃ vS : World → Prop, ∀ w3 : World, w3 = w2.drew → vS w3 ∧
  (0 ≤ i ∧ i < ((rowN : Nat) : Int)) ∧ someV rowA fun p =>
  ∃ (x25 : Int), (∀ w4, vS w4 → w4.cell? (p.add (i.toNat * 1)) = some (.int .i64 x25)) ∧
  (0 ≤ i ∧ i < ((gatesN : Nat) : Int)) ∧ someV gatesA fun p_1 =>
  ∃ (x29 : Int), (∀ w5, vS w5 → w5.cell? (p_1.add (i.toNat * 1)) = some (.int .i64 x29)) ∧
  Calls Tryz.prog 73 #[(.int .i64 x29)] w3 (Ret fun v w6 => ∃ (x30 : Int), v = (.int .i64 x30) ∧
  vS w6 ∧
  Calls Tryz.prog 72 #[(.int .i64 x25), (.int .i64 x30), (.int .i64 8)] w6 (Ret fun v_1 w7 => ∃ (x31 : Int), v_1 = (.int .i64 x31) ∧
  vS w7 ∧
  ∀ w8 : World, w8 = w7.alloc (.cells #[(.int .i64 x31)] 3 (0, 0)) →
  vS w8 ∧
  ∃ (x33A : Option Addr), ∃ (x33N : Nat), ∃ (x33C : Nat), ∃ w9 : World, (Builtin.append_ #[39, 39] 39 #[(.slice outA outN outC), (.slice (some (⟨w7.heap.size, 0, none⟩ : Addr)) 1 1)]).run Tryz.prog w8 = .ok (.slice x33A x33N x33C) w9 ∧
  vS w9 ∧
  ∃ vk_1 : Nat, vk_1 < vk ∧ vI x33A x33N x33C (IntKind.i64.wrap (i + 1)) vk_1 w9))) ∧
  (decide (i < ((rowN : Nat) : Int)) = false →
  R (.slice outA outN outC) w2)) ∧
  ((((gatesN : Nat) : Int) == ((rowN : Nat) : Int)) = false →
  R (.slice outA outN outC) w2)
theorem coadjutorref14_Pairs.vc_eq (gatesA : Option Addr) (gatesN : Nat) (gatesC : Nat) (rowA : Option Addr) (rowN : Nat) (rowC : Nat) (w : World) (R : Value → World → Prop) : fnV Tryz.prog Tryz.f48 (.lp [(5, some (.slice)), (6, some (.int .i64)), (8, none), (9, none), (10, none), (11, none), (12, none), (13, none), (14, none), (15, none), (16, none), (17, none), (18, none), (19, none), (20, none), (21, none), (22, none), (23, none), (24, none), (25, none), (26, none), (27, none), (28, none), (29, none), (30, none), (31, none), (32, none), (33, none)] (.at_ 3 5 (.c (.tk 0 (.tk 1 (.tk 2 (.tk 3 (.tk 4 (.tk 5 (.tk 6 (.tk 7 (.tk 8 (.alt 9 (.alt 10 (.alt 11 (.alt 12 (.tk 13 (.fin .nil)) .nil) .nil) .nil) .nil)))))))))) .nil) (.k .nil))) [(.slice gatesA gatesN gatesC), (.slice rowA rowN rowC)] w R = coadjutorref14_Pairs.vc gatesA gatesN gatesC rowA rowN rowC w R := by kernel_rfl
theorem coadjutorref14_Pairs.calls (gatesA : Option Addr) (gatesN : Nat) (gatesC : Nat) (rowA : Option Addr) (rowN : Nat) (rowC : Nat) {w : World} {R : Value → World → Prop} (h : coadjutorref14_Pairs.vc gatesA gatesN gatesC rowA rowN rowC w R) : Calls Tryz.prog 48 #[(.slice gatesA gatesN gatesC), (.slice rowA rowN rowC)] w (Ret R) :=
  calls_V fit Tryz.func48 (.lp [(5, some (.slice)), (6, some (.int .i64)), (8, none), (9, none), (10, none), (11, none), (12, none), (13, none), (14, none), (15, none), (16, none), (17, none), (18, none), (19, none), (20, none), (21, none), (22, none), (23, none), (24, none), (25, none), (26, none), (27, none), (28, none), (29, none), (30, none), (31, none), (32, none), (33, none)] (.at_ 3 5 (.c (.tk 0 (.tk 1 (.tk 2 (.tk 3 (.tk 4 (.tk 5 (.tk 6 (.tk 7 (.tk 8 (.alt 9 (.alt 10 (.alt 11 (.alt 12 (.tk 13 (.fin .nil)) .nil) .nil) .nil) .nil)))))))))) .nil) (.k .nil))) (by rw [show (#[(.slice gatesA gatesN gatesC), (.slice rowA rowN rowC)] : Array Value).toList = [(.slice gatesA gatesN gatesC), (.slice rowA rowN rowC)] from rfl, coadjutorref14_Pairs.vc_eq]; exact h)
end Go.Proofs.YtbadkcnemcnhfaaGreatDoor.Vc

set_option linter.unusedVariables false
set_option maxRecDepth 100000
namespace Go.Proofs.YtbadkcnemcnhfaaGreatDoor.Vc
open Go Go.Proofs Go.Proofs.YtbadkcnemcnhfaaGreatDoor.V
/-- function 140 -/
def norm_Root.vc (rowA : Option Addr) (rowN : Nat) (rowC : Nat) (w : World) (R : Value → World → Prop) : Prop :=
  ∃ vI : Option Addr → Nat → Nat → Int → Nat → World → Prop, (∃ vk_2 : Nat, vI none 0 0 0 vk_2 w) ∧
  ∀ (jk : Nat → Value) (squaresA : Option Addr) (squaresN : Nat) (squaresC : Nat) (x9 : Int), ∀ (vk : Nat) (w1 : World), vI squaresA squaresN squaresC x9 vk w1 →
  (decide (x9 < ((rowN : Nat) : Int)) = true →
  (0 ≤ x9 ∧ x9 < ((rowN : Nat) : Int)) ∧ someV rowA fun p =>
  ∃ (x12 : Int), w1.cell? (p.add (x9.toNat * 1)) = some (.int .i64 x12) ∧
  Calls Tryz.prog 92 #[(.int .i64 x12)] w1 (Ret fun v w2 => ∃ (x14 : Int), v = (.int .i64 x14) ∧
  ∀ w3 : World, w3 = w2.alloc (.cells #[(.int .i64 (IntKind.i64.wrap (x14 * x14)))] 3 (0, 0)) →
  ∃ (x20A : Option Addr), ∃ (x20N : Nat), ∃ (x20C : Nat), ∃ w4 : World, (Builtin.append_ #[39, 39] 39 #[(.slice squaresA squaresN squaresC), (.slice (some (⟨w2.heap.size, 0, none⟩ : Addr)) 1 1)]).run Tryz.prog w3 = .ok (.slice x20A x20N x20C) w4 ∧
  ∃ vk_1 : Nat, vk_1 < vk ∧ vI x20A x20N x20C (IntKind.i64.wrap (x9 + 1)) vk_1 w4)) ∧
  (decide (x9 < ((rowN : Nat) : Int)) = false →
  Calls Tryz.prog 148 #[(.slice squaresA squaresN squaresC)] w1 (Ret fun v_1 w5 => ∃ (x23 : Int), v_1 = (.int .i64 x23) ∧
  Calls Tryz.prog 147 #[(.int .i64 x23)] w5 (Ret fun v_2 w6 => ∃ (x24 : Int), v_2 = (.int .i64 x24) ∧
  R (.int .i64 (IntKind.i64.wrap (x24 + 1))) w6)))
theorem norm_Root.vc_eq (rowA : Option Addr) (rowN : Nat) (rowC : Nat) (w : World) (R : Value → World → Prop) : fnV Tryz.prog Tryz.f140 (.lp [(3, some (.slice)), (5, none), (6, none), (9, some (.int .i64)), (10, none), (11, none), (12, none), (13, none), (14, none), (15, none), (16, none), (17, none), (18, none), (19, none), (20, none), (21, none)] (.c .nil .nil)) [(.slice rowA rowN rowC)] w R = norm_Root.vc rowA rowN rowC w R := by kernel_rfl
theorem norm_Root.calls (rowA : Option Addr) (rowN : Nat) (rowC : Nat) {w : World} {R : Value → World → Prop} (h : norm_Root.vc rowA rowN rowC w R) : Calls Tryz.prog 140 #[(.slice rowA rowN rowC)] w (Ret R) :=
  calls_V fit Tryz.func140 (.lp [(3, some (.slice)), (5, none), (6, none), (9, some (.int .i64)), (10, none), (11, none), (12, none), (13, none), (14, none), (15, none), (16, none), (17, none), (18, none), (19, none), (20, none), (21, none)] (.c .nil .nil)) (by rw [show (#[(.slice rowA rowN rowC)] : Array Value).toList = [(.slice rowA rowN rowC)] from rfl, norm_Root.vc_eq]; exact h)
/-- function 130 -/
def norm_Of.vc (gainsA : Option Addr) (gainsN : Nat) (gainsC : Nat) (rowA : Option Addr) (rowN : Nat) (rowC : Nat) (w : World) (R : Value → World → Prop) : Prop :=
  ((((gainsN : Nat) : Int) != ((rowN : Nat) : Int)) = true →
  R (.slice none 0 0) w) ∧
  ((((gainsN : Nat) : Int) != ((rowN : Nat) : Int)) = false →
  Calls Tryz.prog 140 #[(.slice rowA rowN rowC)] w (Ret fun v w1 => ∃ (x16 : Int), v = (.int .i64 x16) ∧
  ∃ vI : Option Addr → Nat → Nat → Int → Nat → World → Prop, (∃ vk_2 : Nat, vI none 0 0 0 vk_2 w1) ∧
  ∀ (jk : Nat → Value) (outA : Option Addr) (outN : Nat) (outC : Nat) (x19 : Int), ∀ (vk : Nat) (w2 : World), vI outA outN outC x19 vk w2 →
  (decide (x19 < ((rowN : Nat) : Int)) = true →
  (0 ≤ x19 ∧ x19 < ((rowN : Nat) : Int)) ∧ someV rowA fun p =>
  ∃ (x23 : Int), w2.cell? (p.add (x19.toNat * 1)) = some (.int .i64 x23) ∧
  (0 ≤ x19 ∧ x19 < ((gainsN : Nat) : Int)) ∧ someV gainsA fun p_1 =>
  ∃ (x27 : Int), w2.cell? (p_1.add (x19.toNat * 1)) = some (.int .i64 x27) ∧
  Calls Tryz.prog 113 #[(.int .i64 x27), (.int .i64 (-128)), (.int .i64 127)] w2 (Ret fun v_1 w3 => ∃ (x28 : Int), v_1 = (.int .i64 x28) ∧
  Calls Tryz.prog 92 #[(.int .i64 x23)] w3 (Ret fun v_2 w4 => ∃ (x32 : Int), v_2 = (.int .i64 x32) ∧
  x16 ≠ 0 ∧
  Calls Tryz.prog 92 #[(.int .i64 (IntKind.i64.wrap (Int.tdiv (IntKind.i64.wrap (x32 * (IntKind.i64.wrap (64 + x28)))) x16)))] w4 (Ret fun v_3 w5 => ∃ (x37 : Int), v_3 = (.int .i64 x37) ∧
  ∀ w6 : World, w6 = w5.alloc (.cells #[(.int .i64 x37)] 3 (0, 0)) →
  ∃ (x39A : Option Addr), ∃ (x39N : Nat), ∃ (x39C : Nat), ∃ w7 : World, (Builtin.append_ #[39, 39] 39 #[(.slice outA outN outC), (.slice (some (⟨w5.heap.size, 0, none⟩ : Addr)) 1 1)]).run Tryz.prog w6 = .ok (.slice x39A x39N x39C) w7 ∧
  ∃ vk_1 : Nat, vk_1 < vk ∧ vI x39A x39N x39C (IntKind.i64.wrap (x19 + 1)) vk_1 w7)))) ∧
  (decide (x19 < ((rowN : Nat) : Int)) = false →
  R (.slice outA outN outC) w2)))
theorem norm_Of.vc_eq (gainsA : Option Addr) (gainsN : Nat) (gainsC : Nat) (rowA : Option Addr) (rowN : Nat) (rowC : Nat) (w : World) (R : Value → World → Prop) : fnV Tryz.prog Tryz.f130 (.c .nil (.lp [(6, some (.slice)), (7, none), (8, none), (9, none), (19, some (.int .i64)), (20, none), (21, none), (22, none), (23, none), (24, none), (25, none), (26, none), (27, none), (28, none), (29, none), (30, none), (31, none), (32, none), (33, none), (34, none), (35, none), (36, none), (37, none), (38, none), (39, none), (40, none)] (.c .nil .nil))) [(.slice gainsA gainsN gainsC), (.slice rowA rowN rowC)] w R = norm_Of.vc gainsA gainsN gainsC rowA rowN rowC w R := by kernel_rfl
theorem norm_Of.calls (gainsA : Option Addr) (gainsN : Nat) (gainsC : Nat) (rowA : Option Addr) (rowN : Nat) (rowC : Nat) {w : World} {R : Value → World → Prop} (h : norm_Of.vc gainsA gainsN gainsC rowA rowN rowC w R) : Calls Tryz.prog 130 #[(.slice gainsA gainsN gainsC), (.slice rowA rowN rowC)] w (Ret R) :=
  calls_V fit Tryz.func130 (.c .nil (.lp [(6, some (.slice)), (7, none), (8, none), (9, none), (19, some (.int .i64)), (20, none), (21, none), (22, none), (23, none), (24, none), (25, none), (26, none), (27, none), (28, none), (29, none), (30, none), (31, none), (32, none), (33, none), (34, none), (35, none), (36, none), (37, none), (38, none), (39, none), (40, none)] (.c .nil .nil))) (by rw [show (#[(.slice gainsA gainsN gainsC), (.slice rowA rowN rowC)] : Array Value).toList = [(.slice gainsA gainsN gainsC), (.slice rowA rowN rowC)] from rfl, norm_Of.vc_eq]; exact h)
/-- function 69 -/
def coadjutorref13_Root.vc (rowA : Option Addr) (rowN : Nat) (rowC : Nat) (w : World) (R : Value → World → Prop) : Prop :=
  ((((rowN : Nat) : Int) == (0 : Int)) = true →
  R (.int .i64 1) w) ∧
  ((((rowN : Nat) : Int) == (0 : Int)) = false →
  ∃ vI : Int → Int → Nat → World → Prop, (∃ vk_2 : Nat, vI 0 0 vk_2 w) ∧
  ∀ (jk : Nat → Value) (sum : Int) (i : Int), ∀ (vk : Nat) (w1 : World), vI sum i vk w1 →
  (decide (i < ((rowN : Nat) : Int)) = true →
  (0 ≤ i ∧ i < ((rowN : Nat) : Int)) ∧ someV rowA fun p =>
  ∃ (x18 : Int), w1.cell? (p.add (i.toNat * 1)) = some (.int .i64 x18) ∧
  Calls Tryz.prog 42 #[(.int .i64 x18)] w1 (Ret fun v w2 => ∃ (x19 : Int), v = (.int .i64 x19) ∧
  ∃ vk_1 : Nat, vk_1 < vk ∧ vI (IntKind.i64.wrap (sum + (IntKind.i64.wrap (x19 * x19)))) (IntKind.i64.wrap (i + 1)) vk_1 w2)) ∧
  (decide (i < ((rowN : Nat) : Int)) = false →
  ((rowN : Nat) : Int) ≠ 0 ∧
  Calls Tryz.prog 99 #[(.int .i64 (IntKind.i64.wrap (Int.tdiv sum ((rowN : Nat) : Int))))] w1 (Ret fun v_1 w3 => ∃ (x29 : Int), v_1 = (.int .i64 x29) ∧
  R (.int .i64 (IntKind.i64.wrap (x29 + 1))) w3)))
theorem coadjutorref13_Root.vc_eq (rowA : Option Addr) (rowN : Nat) (rowC : Nat) (w : World) (R : Value → World → Prop) : fnV Tryz.prog Tryz.f69 (.c .nil (.lp [(3, some (.int .i64)), (4, some (.int .i64)), (5, none), (9, none), (10, none), (11, none), (12, none), (13, none), (14, none), (15, none), (16, none), (17, none), (18, none), (19, none), (20, none), (21, none), (22, none), (23, none), (24, none)] (.c .nil .nil))) [(.slice rowA rowN rowC)] w R = coadjutorref13_Root.vc rowA rowN rowC w R := by kernel_rfl
theorem coadjutorref13_Root.calls (rowA : Option Addr) (rowN : Nat) (rowC : Nat) {w : World} {R : Value → World → Prop} (h : coadjutorref13_Root.vc rowA rowN rowC w R) : Calls Tryz.prog 69 #[(.slice rowA rowN rowC)] w (Ret R) :=
  calls_V fit Tryz.func69 (.c .nil (.lp [(3, some (.int .i64)), (4, some (.int .i64)), (5, none), (9, none), (10, none), (11, none), (12, none), (13, none), (14, none), (15, none), (16, none), (17, none), (18, none), (19, none), (20, none), (21, none), (22, none), (23, none), (24, none)] (.c .nil .nil))) (by rw [show (#[(.slice rowA rowN rowC)] : Array Value).toList = [(.slice rowA rowN rowC)] from rfl, coadjutorref13_Root.vc_eq]; exact h)
/-- function 43 -/
def coadjutorref13_Of.vc (gainsA : Option Addr) (gainsN : Nat) (gainsC : Nat) (rowA : Option Addr) (rowN : Nat) (rowC : Nat) (w : World) (R : Value → World → Prop) : Prop :=
  ∀ w1 : World, w1 = w.alloc (.cells #[] 3 (0, 0)) →
  ((((gainsN : Nat) : Int) != ((rowN : Nat) : Int)) = true →
  R (.slice (some (⟨w.heap.size, 0, none⟩ : Addr)) 0 0) w1) ∧
  ((((gainsN : Nat) : Int) != ((rowN : Nat) : Int)) = false →
  ∃ vI : Option Addr → Nat → Nat → Int → Nat → World → Prop, (∃ vk_2 : Nat, vI (some (⟨w.heap.size, 0, none⟩ : Addr)) 0 0 0 vk_2 w1) ∧
  ∀ (jk : Nat → Value) (outA : Option Addr) (outN : Nat) (outC : Nat) (i : Int), ∀ (vk : Nat) (w2 : World), vI outA outN outC i vk w2 →
  (decide (i < ((rowN : Nat) : Int)) = true →
  (0 ≤ i ∧ i < ((gainsN : Nat) : Int)) ∧ someV gainsA fun p =>
  ∃ (x24 : Int), w2.cell? (p.add (i.toNat * 1)) = some (.int .i64 x24) ∧
  Calls Tryz.prog 68 #[(.int .i64 x24), (.int .i64 (-128)), (.int .i64 127)] w2 (Ret fun v w3 => ∃ (x25 : Int), v = (.int .i64 x25) ∧
  (0 ≤ i ∧ i < ((rowN : Nat) : Int)) ∧ someV rowA fun p_1 =>
  ∃ (x31 : Int), w3.cell? (p_1.add (i.toNat * 1)) = some (.int .i64 x31) ∧
  Calls Tryz.prog 42 #[(.int .i64 x31)] w3 (Ret fun v_1 w4 => ∃ (x32 : Int), v_1 = (.int .i64 x32) ∧
  Calls Tryz.prog 69 #[(.slice rowA rowN rowC)] w4 (Ret fun v_2 w5 => ∃ (x36 : Int), v_2 = (.int .i64 x36) ∧
  x36 ≠ 0 ∧
  Calls Tryz.prog 42 #[(.int .i64 (IntKind.i64.wrap (Int.tdiv (IntKind.i64.wrap (x32 * (IntKind.i64.wrap (64 + x25)))) x36)))] w5 (Ret fun v_3 w6 => ∃ (x38 : Int), v_3 = (.int .i64 x38) ∧
  ∀ w7 : World, w7 = w6.alloc (.cells #[(.int .i64 x38)] 3 (0, 0)) →
  ∃ (x40A : Option Addr), ∃ (x40N : Nat), ∃ (x40C : Nat), ∃ w8 : World, (Builtin.append_ #[39, 39] 39 #[(.slice outA outN outC), (.slice (some (⟨w6.heap.size, 0, none⟩ : Addr)) 1 1)]).run Tryz.prog w7 = .ok (.slice x40A x40N x40C) w8 ∧
  ∃ vk_1 : Nat, vk_1 < vk ∧ vI x40A x40N x40C (IntKind.i64.wrap (i + 1)) vk_1 w8))))) ∧
  (decide (i < ((rowN : Nat) : Int)) = false →
  R (.slice outA outN outC) w2))
theorem coadjutorref13_Of.vc_eq (gainsA : Option Addr) (gainsN : Nat) (gainsC : Nat) (rowA : Option Addr) (rowN : Nat) (rowC : Nat) (w : World) (R : Value → World → Prop) : fnV Tryz.prog Tryz.f43 (.c .nil (.lp [(5, some (.slice)), (6, some (.int .i64)), (7, none), (15, none), (16, none), (17, none), (18, none), (19, none), (20, none), (21, none), (22, none), (23, none), (24, none), (25, none), (26, none), (27, none), (28, none), (29, none), (30, none), (31, none), (32, none), (33, none), (34, none), (35, none), (36, none), (37, none), (38, none), (39, none), (40, none)] (.c .nil .nil))) [(.slice gainsA gainsN gainsC), (.slice rowA rowN rowC)] w R = coadjutorref13_Of.vc gainsA gainsN gainsC rowA rowN rowC w R := by kernel_rfl
theorem coadjutorref13_Of.calls (gainsA : Option Addr) (gainsN : Nat) (gainsC : Nat) (rowA : Option Addr) (rowN : Nat) (rowC : Nat) {w : World} {R : Value → World → Prop} (h : coadjutorref13_Of.vc gainsA gainsN gainsC rowA rowN rowC w R) : Calls Tryz.prog 43 #[(.slice gainsA gainsN gainsC), (.slice rowA rowN rowC)] w (Ret R) :=
  calls_V fit Tryz.func43 (.c .nil (.lp [(5, some (.slice)), (6, some (.int .i64)), (7, none), (15, none), (16, none), (17, none), (18, none), (19, none), (20, none), (21, none), (22, none), (23, none), (24, none), (25, none), (26, none), (27, none), (28, none), (29, none), (30, none), (31, none), (32, none), (33, none), (34, none), (35, none), (36, none), (37, none), (38, none), (39, none), (40, none)] (.c .nil .nil))) (by rw [show (#[(.slice gainsA gainsN gainsC), (.slice rowA rowN rowC)] : Array Value).toList = [(.slice gainsA gainsN gainsC), (.slice rowA rowN rowC)] from rfl, coadjutorref13_Of.vc_eq]; exact h)
end Go.Proofs.YtbadkcnemcnhfaaGreatDoor.Vc

set_option linter.unusedVariables false
set_option maxRecDepth 100000
namespace Go.Proofs.YtbadkcnemcnhfaaGreatDoor.Vc
open Go Go.Proofs Go.Proofs.YtbadkcnemcnhfaaGreatDoor.V
/-- function 149 -/
def soft_isMix_c1.vc (n : Int) (w : World) (R : Value → World → Prop) : Prop :=
  (decide (n < (0 : Int)) = true →
  R (.bool true) w) ∧
  (decide (n < (0 : Int)) = false →
  R (.bool (decide (n > (65536 : Int)))) w)
theorem soft_isMix_c1.vc_eq (n : Int) (w : World) (R : Value → World → Prop) : fnV Tryz.prog Tryz.f149 (.at_ 1 2 .nil .nil) [(.int .i64 n)] w R = soft_isMix_c1.vc n w R := by kernel_rfl
theorem soft_isMix_c1.calls (n : Int) {w : World} {R : Value → World → Prop} (h : soft_isMix_c1.vc n w R) : Calls Tryz.prog 149 #[(.int .i64 n)] w (Ret R) :=
  calls_V fit Tryz.func149 (.at_ 1 2 .nil .nil) (by rw [show (#[(.int .i64 n)] : Array Value).toList = [(.int .i64 n)] from rfl, soft_isMix_c1.vc_eq]; exact h)
/-- function 150 -/
def soft_isMix_c2.vc (rowA : Option Addr) (rowN : Nat) (rowC : Nat) (c0B : Nat) (w : World) (R : Value → World → Prop) : Prop :=
  ∃ (x6A : Option Addr), ∃ (x6N : Nat), ∃ (x6C : Nat), w.cell? (⟨c0B, 0, none⟩ : Addr) = some (.slice x6A x6N x6C) ∧
  (0 ≤ (0 : Int) ∧ (0 : Int) < ((x6N : Nat) : Int)) ∧ someV x6A fun p =>
  ∃ (x8A : Option Addr), ∃ (x8N : Nat), ∃ (x8C : Nat), w.cell? p = some (.slice x8A x8N x8C) ∧
  R (.bool (((rowN : Nat) : Int) != ((x8N : Nat) : Int))) w
theorem soft_isMix_c2.vc_eq (rowA : Option Addr) (rowN : Nat) (rowC : Nat) (c0B : Nat) (w : World) (R : Value → World → Prop) : fnV Tryz.prog Tryz.f150 .nil [(.slice rowA rowN rowC), (.pointer (some (⟨c0B, 0, none⟩ : Addr)))] w R = soft_isMix_c2.vc rowA rowN rowC c0B w R := by kernel_rfl
theorem soft_isMix_c2.calls (rowA : Option Addr) (rowN : Nat) (rowC : Nat) (c0B : Nat) {w : World} {R : Value → World → Prop} (h : soft_isMix_c2.vc rowA rowN rowC c0B w R) : Calls Tryz.prog 150 #[(.slice rowA rowN rowC), (.pointer (some (⟨c0B, 0, none⟩ : Addr)))] w (Ret R) :=
  calls_V fit Tryz.func150 .nil (by rw [show (#[(.slice rowA rowN rowC), (.pointer (some (⟨c0B, 0, none⟩ : Addr)))] : Array Value).toList = [(.slice rowA rowN rowC), (.pointer (some (⟨c0B, 0, none⟩ : Addr)))] from rfl, soft_isMix_c2.vc_eq]; exact h)
/-- function 85 -/
def slices_ContainsFunc.vc_mw (sA : Option Addr) (sN : Nat) (sC : Nat) (w : World) (R : Value → World → Prop) : Prop :=
  Calls Tryz.prog 108 #[(.slice sA sN sC), (.func (.func 149) #[] #[])] w (Ret fun v w1 => ∃ (x7 : Int), v = (.int .i64 x7) ∧
  R (.bool (decide (x7 ≥ (0 : Int)))) w1)
theorem slices_ContainsFunc.vc_mw_eq (sA : Option Addr) (sN : Nat) (sC : Nat) (w : World) (R : Value → World → Prop) : fnV Tryz.prog Tryz.f85 .nil [(.slice sA sN sC), (.func (.func 149) #[] #[])] w R = slices_ContainsFunc.vc_mw sA sN sC w R := by kernel_rfl
theorem slices_ContainsFunc.calls_mw (sA : Option Addr) (sN : Nat) (sC : Nat) {w : World} {R : Value → World → Prop} (h : slices_ContainsFunc.vc_mw sA sN sC w R) : Calls Tryz.prog 85 #[(.slice sA sN sC), (.func (.func 149) #[] #[])] w (Ret R) :=
  calls_V fit Tryz.func85 .nil (by rw [show (#[(.slice sA sN sC), (.func (.func 149) #[] #[])] : Array Value).toList = [(.slice sA sN sC), (.func (.func 149) #[] #[])] from rfl, slices_ContainsFunc.vc_mw_eq]; exact h)
/-- function 108 -/
def slices_IndexFunc.vc_mw (sA : Option Addr) (sN : Nat) (sC : Nat) (w : World) (R : Value → World → Prop) : Prop :=
  ∃ vI : Int → Nat → World → Prop, (∃ vk_2 : Nat, vI 0 vk_2 w) ∧
  ∀ (jk : Nat → Value) (x8 : Int), ∀ (vk : Nat) (w1 : World), vI x8 vk w1 →
  (decide (x8 < ((sN : Nat) : Int)) = true →
  (0 ≤ x8 ∧ x8 < ((sN : Nat) : Int)) ∧ someV sA fun p =>
  ∃ (x15 : Int), w1.cell? (p.add (x8.toNat * 1)) = some (.int .i64 x15) ∧
  Calls Tryz.prog 149 #[(.int .i64 x15)] w1 (Ret fun v w2 => ∃ (x16 : Bool), v = (.bool x16) ∧
  (x16 = true →
  R (.int .i64 x8) w2) ∧
  (x16 = false →
  ∃ vk_1 : Nat, vk_1 < vk ∧ vI (IntKind.i64.wrap (x8 + 1)) vk_1 w2))) ∧
  (decide (x8 < ((sN : Nat) : Int)) = false →
  R (.int .i64 (-1)) w1)
theorem slices_IndexFunc.vc_mw_eq (sA : Option Addr) (sN : Nat) (sC : Nat) (w : World) (R : Value → World → Prop) : fnV Tryz.prog Tryz.f108 (.lp [(4, none), (5, none), (8, some (.int .i64)), (9, none), (10, none), (11, none), (12, none), (13, none), (14, none), (15, none), (16, none), (17, none), (18, none)] (.c (.c .nil .nil) .nil)) [(.slice sA sN sC), (.func (.func 149) #[] #[])] w R = slices_IndexFunc.vc_mw sA sN sC w R := by kernel_rfl
theorem slices_IndexFunc.calls_mw (sA : Option Addr) (sN : Nat) (sC : Nat) {w : World} {R : Value → World → Prop} (h : slices_IndexFunc.vc_mw sA sN sC w R) : Calls Tryz.prog 108 #[(.slice sA sN sC), (.func (.func 149) #[] #[])] w (Ret R) :=
  calls_V fit Tryz.func108 (.lp [(4, none), (5, none), (8, some (.int .i64)), (9, none), (10, none), (11, none), (12, none), (13, none), (14, none), (15, none), (16, none), (17, none), (18, none)] (.c (.c .nil .nil) .nil)) (by rw [show (#[(.slice sA sN sC), (.func (.func 149) #[] #[])] : Array Value).toList = [(.slice sA sN sC), (.func (.func 149) #[] #[])] from rfl, slices_IndexFunc.vc_mw_eq]; exact h)
/-- function 151 -/
def slices_ContainsFunc.vc_un (sA : Option Addr) (sN : Nat) (sC : Nat) (c0B : Nat) (w : World) (R : Value → World → Prop) : Prop :=
  Calls Tryz.prog 153 #[(.slice sA sN sC), (.func (.func 150) #[] #[(.pointer (some (⟨c0B, 0, none⟩ : Addr)))])] w (Ret fun v w1 => ∃ (x7 : Int), v = (.int .i64 x7) ∧
  R (.bool (decide (x7 ≥ (0 : Int)))) w1)
theorem slices_ContainsFunc.vc_un_eq (sA : Option Addr) (sN : Nat) (sC : Nat) (c0B : Nat) (w : World) (R : Value → World → Prop) : fnV Tryz.prog Tryz.f151 .nil [(.slice sA sN sC), (.func (.func 150) #[] #[(.pointer (some (⟨c0B, 0, none⟩ : Addr)))])] w R = slices_ContainsFunc.vc_un sA sN sC c0B w R := by kernel_rfl
theorem slices_ContainsFunc.calls_un (sA : Option Addr) (sN : Nat) (sC : Nat) (c0B : Nat) {w : World} {R : Value → World → Prop} (h : slices_ContainsFunc.vc_un sA sN sC c0B w R) : Calls Tryz.prog 151 #[(.slice sA sN sC), (.func (.func 150) #[] #[(.pointer (some (⟨c0B, 0, none⟩ : Addr)))])] w (Ret R) :=
  calls_V fit Tryz.func151 .nil (by rw [show (#[(.slice sA sN sC), (.func (.func 150) #[] #[(.pointer (some (⟨c0B, 0, none⟩ : Addr)))])] : Array Value).toList = [(.slice sA sN sC), (.func (.func 150) #[] #[(.pointer (some (⟨c0B, 0, none⟩ : Addr)))])] from rfl, slices_ContainsFunc.vc_un_eq]; exact h)
/-- function 153 -/
def slices_IndexFunc.vc_un (sA : Option Addr) (sN : Nat) (sC : Nat) (c0B : Nat) (w : World) (R : Value → World → Prop) : Prop :=
  ∃ vI : Int → Nat → World → Prop, (∃ vk_2 : Nat, vI 0 vk_2 w) ∧
  ∀ (jk : Nat → Value) (x8 : Int), ∀ (vk : Nat) (w1 : World), vI x8 vk w1 →
  (decide (x8 < ((sN : Nat) : Int)) = true →
  (0 ≤ x8 ∧ x8 < ((sN : Nat) : Int)) ∧ someV sA fun p =>
  ∃ (x15A : Option Addr), ∃ (x15N : Nat), ∃ (x15C : Nat), w1.cell? (p.add (x8.toNat * 1)) = some (.slice x15A x15N x15C) ∧
  Calls Tryz.prog 150 #[(.slice x15A x15N x15C), (.pointer (some (⟨c0B, 0, none⟩ : Addr)))] w1 (Ret fun v w2 => ∃ (x16 : Bool), v = (.bool x16) ∧
  (x16 = true →
  R (.int .i64 x8) w2) ∧
  (x16 = false →
  ∃ vk_1 : Nat, vk_1 < vk ∧ vI (IntKind.i64.wrap (x8 + 1)) vk_1 w2))) ∧
  (decide (x8 < ((sN : Nat) : Int)) = false →
  R (.int .i64 (-1)) w1)
theorem slices_IndexFunc.vc_un_eq (sA : Option Addr) (sN : Nat) (sC : Nat) (c0B : Nat) (w : World) (R : Value → World → Prop) : fnV Tryz.prog Tryz.f153 (.lp [(4, none), (5, none), (8, some (.int .i64)), (9, none), (10, none), (11, none), (12, none), (13, none), (14, none), (15, none), (16, none), (17, none), (18, none)] (.c (.c .nil .nil) .nil)) [(.slice sA sN sC), (.func (.func 150) #[] #[(.pointer (some (⟨c0B, 0, none⟩ : Addr)))])] w R = slices_IndexFunc.vc_un sA sN sC c0B w R := by kernel_rfl
theorem slices_IndexFunc.calls_un (sA : Option Addr) (sN : Nat) (sC : Nat) (c0B : Nat) {w : World} {R : Value → World → Prop} (h : slices_IndexFunc.vc_un sA sN sC c0B w R) : Calls Tryz.prog 153 #[(.slice sA sN sC), (.func (.func 150) #[] #[(.pointer (some (⟨c0B, 0, none⟩ : Addr)))])] w (Ret R) :=
  calls_V fit Tryz.func153 (.lp [(4, none), (5, none), (8, some (.int .i64)), (9, none), (10, none), (11, none), (12, none), (13, none), (14, none), (15, none), (16, none), (17, none), (18, none)] (.c (.c .nil .nil) .nil)) (by rw [show (#[(.slice sA sN sC), (.func (.func 150) #[] #[(.pointer (some (⟨c0B, 0, none⟩ : Addr)))])] : Array Value).toList = [(.slice sA sN sC), (.func (.func 150) #[] #[(.pointer (some (⟨c0B, 0, none⟩ : Addr)))])] from rfl, slices_IndexFunc.vc_un_eq]; exact h)
/-- function 152 -/
def soft_table.vc (w : World) (R : Value → World → Prop) : Prop :=
  ∀ w1 : World, w1 = w.alloc (.cells #[(.int .i64 0), (.int .i64 0), (.int .i64 0), (.int .i64 0), (.int .i64 0), (.int .i64 0), (.int .i64 0), (.int .i64 0)] 149 (0, 0)) →
  (((∃ u, w1.cell? (⟨w.heap.size, 0, none⟩ : Addr) = some u) ∧ w1.frozen? (⟨w.heap.size, 0, none⟩ : Addr) = false) ∧ ((∃ u, w1.cell? (⟨w.heap.size, 1, none⟩ : Addr) = some u) ∧ w1.frozen? (⟨w.heap.size, 1, none⟩ : Addr) = false) ∧ ((∃ u, w1.cell? (⟨w.heap.size, 2, none⟩ : Addr) = some u) ∧ w1.frozen? (⟨w.heap.size, 2, none⟩ : Addr) = false) ∧ ((∃ u, w1.cell? (⟨w.heap.size, 3, none⟩ : Addr) = some u) ∧ w1.frozen? (⟨w.heap.size, 3, none⟩ : Addr) = false) ∧ ((∃ u, w1.cell? (⟨w.heap.size, 4, none⟩ : Addr) = some u) ∧ w1.frozen? (⟨w.heap.size, 4, none⟩ : Addr) = false) ∧ ((∃ u, w1.cell? (⟨w.heap.size, 5, none⟩ : Addr) = some u) ∧ w1.frozen? (⟨w.heap.size, 5, none⟩ : Addr) = false) ∧ ((∃ u, w1.cell? (⟨w.heap.size, 6, none⟩ : Addr) = some u) ∧ w1.frozen? (⟨w.heap.size, 6, none⟩ : Addr) = false) ∧ ((∃ u, w1.cell? (⟨w.heap.size, 7, none⟩ : Addr) = some u) ∧ w1.frozen? (⟨w.heap.size, 7, none⟩ : Addr) = false)) ∧ ∀ w2 : World, w2 = ((((((((w1.setCell (⟨w.heap.size, 0, none⟩ : Addr) (.int .i64 65536)).setCell (⟨w.heap.size, 1, none⟩ : Addr) (.int .i64 60097)).setCell (⟨w.heap.size, 2, none⟩ : Addr) (.int .i64 55109)).setCell (⟨w.heap.size, 3, none⟩ : Addr) (.int .i64 50535)).setCell (⟨w.heap.size, 4, none⟩ : Addr) (.int .i64 46341)).setCell (⟨w.heap.size, 5, none⟩ : Addr) (.int .i64 42495)).setCell (⟨w.heap.size, 6, none⟩ : Addr) (.int .i64 38968)).setCell (⟨w.heap.size, 7, none⟩ : Addr) (.int .i64 35734)) →
  ∃ (r00 : Int), ∃ (r01 : Int), ∃ (r02 : Int), ∃ (r03 : Int), ∃ (r04 : Int), ∃ (r05 : Int), ∃ (r06 : Int), ∃ (r07 : Int), (w2.cell? (⟨w.heap.size, 0, none⟩ : Addr) = some (.int .i64 r00) ∧ w2.cell? (⟨w.heap.size, 1, none⟩ : Addr) = some (.int .i64 r01) ∧ w2.cell? (⟨w.heap.size, 2, none⟩ : Addr) = some (.int .i64 r02) ∧ w2.cell? (⟨w.heap.size, 3, none⟩ : Addr) = some (.int .i64 r03) ∧ w2.cell? (⟨w.heap.size, 4, none⟩ : Addr) = some (.int .i64 r04) ∧ w2.cell? (⟨w.heap.size, 5, none⟩ : Addr) = some (.int .i64 r05) ∧ w2.cell? (⟨w.heap.size, 6, none⟩ : Addr) = some (.int .i64 r06) ∧ w2.cell? (⟨w.heap.size, 7, none⟩ : Addr) = some (.int .i64 r07)) ∧
  R (.agg #[(.int .i64 r00), (.int .i64 r01), (.int .i64 r02), (.int .i64 r03), (.int .i64 r04), (.int .i64 r05), (.int .i64 r06), (.int .i64 r07)]) w2
theorem soft_table.vc_eq (w : World) (R : Value → World → Prop) : fnV Tryz.prog Tryz.f152 .nil [] w R = soft_table.vc  w R := by kernel_rfl
theorem soft_table.calls {w : World} {R : Value → World → Prop} (h : soft_table.vc  w R) : Calls Tryz.prog 152 #[] w (Ret R) :=
  calls_V fit Tryz.func152 .nil (by rw [show (#[] : Array Value).toList = [] from rfl, soft_table.vc_eq]; exact h)
/-- function 143 -/
def soft_clamped.vc (n : Int) (w : World) (R : Value → World → Prop) : Prop :=
  Calls Tryz.prog 113 #[(.int .i64 n), (.int .i64 (-1073741824)), (.int .i64 1073741824)] w (Ret fun v w1 => ∃ (x4 : Int), v = (.int .i64 x4) ∧
  R (.int .i64 x4) w1)
theorem soft_clamped.vc_eq (n : Int) (w : World) (R : Value → World → Prop) : fnV Tryz.prog Tryz.f143 .nil [(.int .i64 n)] w R = soft_clamped.vc n w R := by kernel_rfl
theorem soft_clamped.calls (n : Int) {w : World} {R : Value → World → Prop} (h : soft_clamped.vc n w R) : Calls Tryz.prog 143 #[(.int .i64 n)] w (Ret R) :=
  calls_V fit Tryz.func143 .nil (by rw [show (#[(.int .i64 n)] : Array Value).toList = [(.int .i64 n)] from rfl, soft_clamped.vc_eq]; exact h)
/-- function 144 -/
def soft_Exp.vc (below : Int) (w : World) (R : Value → World → Prop) : Prop :=
  Calls Tryz.prog 152 #[] w (Ret fun v w1 => ∃ (x60 : Int), ∃ (x61 : Int), ∃ (x62 : Int), ∃ (x63 : Int), ∃ (x64 : Int), ∃ (x65 : Int), ∃ (x66 : Int), ∃ (x67 : Int), v = (.agg #[(.int .i64 x60), (.int .i64 x61), (.int .i64 x62), (.int .i64 x63), (.int .i64 x64), (.int .i64 x65), (.int .i64 x66), (.int .i64 x67)]) ∧
  ∀ w2 : World, w2 = w1.alloc (.cells #[(.int .i64 0), (.int .i64 0), (.int .i64 0), (.int .i64 0), (.int .i64 0), (.int .i64 0), (.int .i64 0), (.int .i64 0)] 149 (0, 0)) →
  (((∃ u, w2.cell? (⟨w1.heap.size, 0, none⟩ : Addr) = some u) ∧ w2.frozen? (⟨w1.heap.size, 0, none⟩ : Addr) = false) ∧ ((∃ u, w2.cell? (⟨w1.heap.size, 1, none⟩ : Addr) = some u) ∧ w2.frozen? (⟨w1.heap.size, 1, none⟩ : Addr) = false) ∧ ((∃ u, w2.cell? (⟨w1.heap.size, 2, none⟩ : Addr) = some u) ∧ w2.frozen? (⟨w1.heap.size, 2, none⟩ : Addr) = false) ∧ ((∃ u, w2.cell? (⟨w1.heap.size, 3, none⟩ : Addr) = some u) ∧ w2.frozen? (⟨w1.heap.size, 3, none⟩ : Addr) = false) ∧ ((∃ u, w2.cell? (⟨w1.heap.size, 4, none⟩ : Addr) = some u) ∧ w2.frozen? (⟨w1.heap.size, 4, none⟩ : Addr) = false) ∧ ((∃ u, w2.cell? (⟨w1.heap.size, 5, none⟩ : Addr) = some u) ∧ w2.frozen? (⟨w1.heap.size, 5, none⟩ : Addr) = false) ∧ ((∃ u, w2.cell? (⟨w1.heap.size, 6, none⟩ : Addr) = some u) ∧ w2.frozen? (⟨w1.heap.size, 6, none⟩ : Addr) = false) ∧ ((∃ u, w2.cell? (⟨w1.heap.size, 7, none⟩ : Addr) = some u) ∧ w2.frozen? (⟨w1.heap.size, 7, none⟩ : Addr) = false)) ∧ ∀ w3 : World, w3 = ((((((((w2.setCell (⟨w1.heap.size, 0, none⟩ : Addr) (.int .i64 x60)).setCell (⟨w1.heap.size, 1, none⟩ : Addr) (.int .i64 x61)).setCell (⟨w1.heap.size, 2, none⟩ : Addr) (.int .i64 x62)).setCell (⟨w1.heap.size, 3, none⟩ : Addr) (.int .i64 x63)).setCell (⟨w1.heap.size, 4, none⟩ : Addr) (.int .i64 x64)).setCell (⟨w1.heap.size, 5, none⟩ : Addr) (.int .i64 x65)).setCell (⟨w1.heap.size, 6, none⟩ : Addr) (.int .i64 x66)).setCell (⟨w1.heap.size, 7, none⟩ : Addr) (.int .i64 x67)) →
  (8 : Int) ≠ 0 ∧
  (0 ≤ (Int.tmod (if (0 : Int) > below then (0 : Int) else below) 8) ∧ (Int.tmod (if (0 : Int) > below then (0 : Int) else below) 8) < (8 : Int)) ∧
  ∃ (x10 : Int), w3.cell? ((⟨w1.heap.size, 0, none⟩ : Addr).add ((Int.tmod (if (0 : Int) > below then (0 : Int) else below) 8).toNat * 1)) = some (.int .i64 x10) ∧
  (8 : Int) ≠ 0 ∧
  0 ≤ (if (17 : Int) < (IntKind.i64.wrap (Int.tdiv (if (0 : Int) > below then (0 : Int) else below) 8)) then (17 : Int) else (IntKind.i64.wrap (Int.tdiv (if (0 : Int) > below then (0 : Int) else below) 8))) ∧
  R (.int .i64 (Int.fdiv x10 (2 ^ (min (if (17 : Int) < (IntKind.i64.wrap (Int.tdiv (if (0 : Int) > below then (0 : Int) else below) 8)) then (17 : Int) else (IntKind.i64.wrap (Int.tdiv (if (0 : Int) > below then (0 : Int) else below) 8))).toNat IntKind.i64.bits)))) w3)
theorem soft_Exp.vc_eq (below : Int) (w : World) (R : Value → World → Prop) : fnV Tryz.prog Tryz.f144 .nil [(.int .i64 below)] w R = soft_Exp.vc below w R := by kernel_rfl
theorem soft_Exp.calls (below : Int) {w : World} {R : Value → World → Prop} (h : soft_Exp.vc below w R) : Calls Tryz.prog 144 #[(.int .i64 below)] w (Ret R) :=
  calls_V fit Tryz.func144 .nil (by rw [show (#[(.int .i64 below)] : Array Value).toList = [(.int .i64 below)] from rfl, soft_Exp.vc_eq]; exact h)
/-- function 133 -/
def soft_Weights.vc (scoresA : Option Addr) (scoresN : Nat) (scoresC : Nat) (w : World) (R : Value → World → Prop) : Prop :=
  ((((scoresN : Nat) : Int) == (0 : Int)) = true →
  R (.slice none 0 0) w) ∧
  ((((scoresN : Nat) : Int) == (0 : Int)) = false →
  Calls Tryz.prog 64 #[(.slice scoresA scoresN scoresC)] w (Ret fun v w1 => ∃ (x11 : Int), v = (.int .i64 x11) ∧
  Calls Tryz.prog 143 #[(.int .i64 x11)] w1 (Ret fun v_1 w2 => ∃ (x12 : Int), v_1 = (.int .i64 x12) ∧
  ∃ vI : Option Addr → Nat → Nat → Int → Nat → World → Prop, (∃ vk_2 : Nat, vI none 0 0 0 vk_2 w2) ∧
  ∀ (jk : Nat → Value) (outA : Option Addr) (outN : Nat) (outC : Nat) (x15 : Int), ∀ (vk : Nat) (w3 : World), vI outA outN outC x15 vk w3 →
  (decide (x15 < ((scoresN : Nat) : Int)) = true →
  (0 ≤ x15 ∧ x15 < ((scoresN : Nat) : Int)) ∧ someV scoresA fun p =>
  ∃ (x18 : Int), w3.cell? (p.add (x15.toNat * 1)) = some (.int .i64 x18) ∧
  Calls Tryz.prog 143 #[(.int .i64 x18)] w3 (Ret fun v_2 w4 => ∃ (x22 : Int), v_2 = (.int .i64 x22) ∧
  Calls Tryz.prog 144 #[(.int .i64 (IntKind.i64.wrap (x12 - x22)))] w4 (Ret fun v_3 w5 => ∃ (x24 : Int), v_3 = (.int .i64 x24) ∧
  ∀ w6 : World, w6 = w5.alloc (.cells #[(.int .i64 x24)] 3 (0, 0)) →
  ∃ (x26A : Option Addr), ∃ (x26N : Nat), ∃ (x26C : Nat), ∃ w7 : World, (Builtin.append_ #[39, 39] 39 #[(.slice outA outN outC), (.slice (some (⟨w5.heap.size, 0, none⟩ : Addr)) 1 1)]).run Tryz.prog w6 = .ok (.slice x26A x26N x26C) w7 ∧
  ∃ vk_1 : Nat, vk_1 < vk ∧ vI x26A x26N x26C (IntKind.i64.wrap (x15 + 1)) vk_1 w7))) ∧
  (decide (x15 < ((scoresN : Nat) : Int)) = false →
  R (.slice outA outN outC) w3))))
theorem soft_Weights.vc_eq (scoresA : Option Addr) (scoresN : Nat) (scoresC : Nat) (w : World) (R : Value → World → Prop) : fnV Tryz.prog Tryz.f133 (.c .nil (.lp [(4, some (.slice)), (6, none), (15, some (.int .i64)), (16, none), (17, none), (18, none), (19, none), (20, none), (21, none), (22, none), (23, none), (24, none), (25, none), (26, none), (27, none)] (.c .nil .nil))) [(.slice scoresA scoresN scoresC)] w R = soft_Weights.vc scoresA scoresN scoresC w R := by kernel_rfl
theorem soft_Weights.calls (scoresA : Option Addr) (scoresN : Nat) (scoresC : Nat) {w : World} {R : Value → World → Prop} (h : soft_Weights.vc scoresA scoresN scoresC w R) : Calls Tryz.prog 133 #[(.slice scoresA scoresN scoresC)] w (Ret R) :=
  calls_V fit Tryz.func133 (.c .nil (.lp [(4, some (.slice)), (6, none), (15, some (.int .i64)), (16, none), (17, none), (18, none), (19, none), (20, none), (21, none), (22, none), (23, none), (24, none), (25, none), (26, none), (27, none)] (.c .nil .nil))) (by rw [show (#[(.slice scoresA scoresN scoresC)] : Array Value).toList = [(.slice scoresA scoresN scoresC)] from rfl, soft_Weights.vc_eq]; exact h)
/-- function 141 -/
def soft_isMix.vc (weightsA : Option Addr) (weightsN : Nat) (weightsC : Nat) (rowsA : Option Addr) (rowsN : Nat) (rowsC : Nat) (w : World) (R : Value → World → Prop) : Prop :=
  ∀ w1 : World, w1 = w.alloc (.cells #[(.slice rowsA rowsN rowsC)] 22 (0, 0)) →
  ∃ (x7A : Option Addr), ∃ (x7N : Nat), ∃ (x7C : Nat), w1.cell? (⟨w.heap.size, 0, none⟩ : Addr) = some (.slice x7A x7N x7C) ∧
  ((((x7N : Nat) : Int) == (0 : Int)) = true →
  R (.bool false) w1) ∧
  ((((x7N : Nat) : Int) == (0 : Int)) = false →
  ∃ (x13A : Option Addr), ∃ (x13N : Nat), ∃ (x13C : Nat), w1.cell? (⟨w.heap.size, 0, none⟩ : Addr) = some (.slice x13A x13N x13C) ∧
  ((((weightsN : Nat) : Int) != ((x13N : Nat) : Int)) = true →
  R (.bool false) w1) ∧
  ((((weightsN : Nat) : Int) != ((x13N : Nat) : Int)) = false →
  Calls Tryz.prog 142 #[(.slice weightsA weightsN weightsC)] w1 (Ret fun v w2 => ∃ (x19 : Int), v = (.int .i64 x19) ∧
  ((x19 == (0 : Int)) = true →
  R (.bool false) w2) ∧
  ((x19 == (0 : Int)) = false →
  Calls Tryz.prog 85 #[(.slice weightsA weightsN weightsC), (.func (.func 149) #[] #[])] w2 (Ret fun v_1 w3 => ∃ (x25 : Bool), v_1 = (.bool x25) ∧
  ((!x25) = true →
  ∃ (x28A : Option Addr), ∃ (x28N : Nat), ∃ (x28C : Nat), w3.cell? (⟨w.heap.size, 0, none⟩ : Addr) = some (.slice x28A x28N x28C) ∧
  Calls Tryz.prog 151 #[(.slice x28A x28N x28C), (.func (.func 150) #[] #[(.pointer (some (⟨w.heap.size, 0, none⟩ : Addr)))])] w3 (Ret fun v_2 w4 => ∃ (x30 : Bool), v_2 = (.bool x30) ∧
  R (.bool (!x30)) w4)) ∧
  ((!x25) = false →
  R (.bool false) w3))))))
theorem soft_isMix.vc_eq (weightsA : Option Addr) (weightsN : Nat) (weightsC : Nat) (rowsA : Option Addr) (rowsN : Nat) (rowsC : Nat) (w : World) (R : Value → World → Prop) : fnV Tryz.prog Tryz.f141 (.at_ 1 3 (.k .nil) (.at_ 1 10 (.k .nil) (.c .nil (.at_ 5 4 .nil .nil)))) [(.slice weightsA weightsN weightsC), (.slice rowsA rowsN rowsC)] w R = soft_isMix.vc weightsA weightsN weightsC rowsA rowsN rowsC w R := by kernel_rfl
theorem soft_isMix.calls (weightsA : Option Addr) (weightsN : Nat) (weightsC : Nat) (rowsA : Option Addr) (rowsN : Nat) (rowsC : Nat) {w : World} {R : Value → World → Prop} (h : soft_isMix.vc weightsA weightsN weightsC rowsA rowsN rowsC w R) : Calls Tryz.prog 141 #[(.slice weightsA weightsN weightsC), (.slice rowsA rowsN rowsC)] w (Ret R) :=
  calls_V fit Tryz.func141 (.at_ 1 3 (.k .nil) (.at_ 1 10 (.k .nil) (.c .nil (.at_ 5 4 .nil .nil)))) (by rw [show (#[(.slice weightsA weightsN weightsC), (.slice rowsA rowsN rowsC)] : Array Value).toList = [(.slice weightsA weightsN weightsC), (.slice rowsA rowsN rowsC)] from rfl, soft_isMix.vc_eq]; exact h)
/-- function 132 -/
def soft_Mix.vc (weightsA : Option Addr) (weightsN : Nat) (weightsC : Nat) (rowsA : Option Addr) (rowsN : Nat) (rowsC : Nat) (w : World) (R : Value → World → Prop) : Prop :=
  Calls Tryz.prog 141 #[(.slice weightsA weightsN weightsC), (.slice rowsA rowsN rowsC)] w (Ret fun v w1 => ∃ (x13 : Bool), v = (.bool x13) ∧
  ((!x13) = true →
  R (.slice none 0 0) w1) ∧
  ((!x13) = false →
  Calls Tryz.prog 142 #[(.slice weightsA weightsN weightsC)] w1 (Ret fun v_1 w2 => ∃ (x16 : Int), v_1 = (.int .i64 x16) ∧
  (0 ≤ (0 : Int) ∧ (0 : Int) < ((rowsN : Nat) : Int)) ∧ someV rowsA fun p =>
  ∃ (x19A : Option Addr), ∃ (x19N : Nat), ∃ (x19C : Nat), w2.cell? p = some (.slice x19A x19N x19C) ∧
  ∃ vI : Option Addr → Nat → Nat → Int → Nat → World → Prop, (∃ vk_2 : Nat, vI none 0 0 0 vk_2 w2) ∧
  ∀ (jk : Nat → Value) (outA : Option Addr) (outN : Nat) (outC : Nat) (x21 : Int), ∀ (vk : Nat) (w3 : World), vI outA outN outC x21 vk w3 →
  (decide (x21 < ((x19N : Nat) : Int)) = true →
  ∃ vI_1 : Int → Int → Nat → World → Prop, (∃ vk_5 : Nat, vI_1 0 0 vk_5 w3) ∧
  ∀ (jk : Nat → Value) (x : Int) (x26 : Int), ∀ (vk_3 : Nat) (w4 : World), vI_1 x x26 vk_3 w4 →
  (decide (x26 < ((rowsN : Nat) : Int)) = true →
  (0 ≤ x26 ∧ x26 < ((rowsN : Nat) : Int)) ∧ someV rowsA fun p_1 =>
  ∃ (x30A : Option Addr), ∃ (x30N : Nat), ∃ (x30C : Nat), w4.cell? (p_1.add (x26.toNat * 1)) = some (.slice x30A x30N x30C) ∧
  ∃ vS : World → Prop, ∀ w5 : World, w5 = w4.drew → vS w5 ∧
  (0 ≤ x26 ∧ x26 < ((weightsN : Nat) : Int)) ∧ someV weightsA fun p_2 =>
  ∃ (x35 : Int), (∀ w6, vS w6 → w6.cell? (p_2.add (x26.toNat * 1)) = some (.int .i64 x35)) ∧
  (0 ≤ x21 ∧ x21 < ((x30N : Nat) : Int)) ∧ someV x30A fun p_3 =>
  ∃ (x39 : Int), (∀ w7, vS w7 → w7.cell? (p_3.add (x21.toNat * 1)) = some (.int .i64 x39)) ∧
  Calls Tryz.prog 143 #[(.int .i64 x39)] w5 (Ret fun v_2 w8 => ∃ (x40 : Int), v_2 = (.int .i64 x40) ∧
  vS w8 ∧
  ∃ vk_4 : Nat, vk_4 < vk_3 ∧ vI_1 (IntKind.i64.wrap (x + (IntKind.i64.wrap (x35 * x40)))) (IntKind.i64.wrap (x26 + 1)) vk_4 w8)) ∧
  (decide (x26 < ((rowsN : Nat) : Int)) = false →
  x16 ≠ 0 ∧
  Calls Tryz.prog 92 #[(.int .i64 (IntKind.i64.wrap (Int.tdiv x x16)))] w4 (Ret fun v_3 w9 => ∃ (x48 : Int), v_3 = (.int .i64 x48) ∧
  ∀ w10 : World, w10 = w9.alloc (.cells #[(.int .i64 x48)] 3 (0, 0)) →
  ∃ (x50A : Option Addr), ∃ (x50N : Nat), ∃ (x50C : Nat), ∃ w11 : World, (Builtin.append_ #[39, 39] 39 #[(.slice outA outN outC), (.slice (some (⟨w9.heap.size, 0, none⟩ : Addr)) 1 1)]).run Tryz.prog w10 = .ok (.slice x50A x50N x50C) w11 ∧
  ∃ vk_1 : Nat, vk_1 < vk ∧ vI x50A x50N x50C (IntKind.i64.wrap (x21 + 1)) vk_1 w11))) ∧
  (decide (x21 < ((x19N : Nat) : Int)) = false →
  R (.slice outA outN outC) w3))))
theorem soft_Mix.vc_eq (weightsA : Option Addr) (weightsN : Nat) (weightsC : Nat) (rowsA : Option Addr) (rowsN : Nat) (rowsC : Nat) (w : World) (R : Value → World → Prop) : fnV Tryz.prog Tryz.f132 (.c .nil (.lp [(6, some (.slice)), (7, none), (8, none), (9, none), (10, none), (21, some (.int .i64)), (22, none), (23, none), (24, none), (25, none), (26, none), (27, none), (28, none), (29, none), (30, none), (31, none), (32, none), (33, none), (34, none), (35, none), (36, none), (37, none), (38, none), (39, none), (40, none), (41, none), (42, none), (43, none), (44, none), (45, none), (46, none), (47, none), (48, none), (49, none), (50, none), (51, none)] (.c (.lp [(8, some (.int .i64)), (9, none), (10, none), (26, some (.int .i64)), (27, none), (28, none), (29, none), (30, none), (31, none), (32, none), (33, none), (34, none), (35, none), (36, none), (37, none), (38, none), (39, none), (40, none), (41, none), (42, none), (43, none)] (.c (.tk 0 (.tk 1 (.tk 2 (.tk 3 (.tk 4 (.tk 5 (.tk 6 (.tk 7 (.tk 8 (.alt 9 (.tk 10 (.tk 11 (.tk 12 (.fin .nil)))) .nil)))))))))) .nil)) .nil))) [(.slice weightsA weightsN weightsC), (.slice rowsA rowsN rowsC)] w R = soft_Mix.vc weightsA weightsN weightsC rowsA rowsN rowsC w R := by kernel_rfl
theorem soft_Mix.calls (weightsA : Option Addr) (weightsN : Nat) (weightsC : Nat) (rowsA : Option Addr) (rowsN : Nat) (rowsC : Nat) {w : World} {R : Value → World → Prop} (h : soft_Mix.vc weightsA weightsN weightsC rowsA rowsN rowsC w R) : Calls Tryz.prog 132 #[(.slice weightsA weightsN weightsC), (.slice rowsA rowsN rowsC)] w (Ret R) :=
  calls_V fit Tryz.func132 (.c .nil (.lp [(6, some (.slice)), (7, none), (8, none), (9, none), (10, none), (21, some (.int .i64)), (22, none), (23, none), (24, none), (25, none), (26, none), (27, none), (28, none), (29, none), (30, none), (31, none), (32, none), (33, none), (34, none), (35, none), (36, none), (37, none), (38, none), (39, none), (40, none), (41, none), (42, none), (43, none), (44, none), (45, none), (46, none), (47, none), (48, none), (49, none), (50, none), (51, none)] (.c (.lp [(8, some (.int .i64)), (9, none), (10, none), (26, some (.int .i64)), (27, none), (28, none), (29, none), (30, none), (31, none), (32, none), (33, none), (34, none), (35, none), (36, none), (37, none), (38, none), (39, none), (40, none), (41, none), (42, none), (43, none)] (.c (.tk 0 (.tk 1 (.tk 2 (.tk 3 (.tk 4 (.tk 5 (.tk 6 (.tk 7 (.tk 8 (.alt 9 (.tk 10 (.tk 11 (.tk 12 (.fin .nil)))) .nil)))))))))) .nil)) .nil))) (by rw [show (#[(.slice weightsA weightsN weightsC), (.slice rowsA rowsN rowsC)] : Array Value).toList = [(.slice weightsA weightsN weightsC), (.slice rowsA rowsN rowsC)] from rfl, soft_Mix.vc_eq]; exact h)
/-- function 39 -/
def soft_Best.vc (scoresA : Option Addr) (scoresN : Nat) (scoresC : Nat) (w : World) (R : Value → World → Prop) : Prop :=
  ((((scoresN : Nat) : Int) == (0 : Int)) = true →
  R (.int .i64 (-1)) w) ∧
  ((((scoresN : Nat) : Int) == (0 : Int)) = false →
  Calls Tryz.prog 64 #[(.slice scoresA scoresN scoresC)] w (Ret fun v w1 => ∃ (x8 : Int), v = (.int .i64 x8) ∧
  Calls Tryz.prog 63 #[(.slice scoresA scoresN scoresC), (.int .i64 x8)] w1 (Ret fun v_1 w2 => ∃ (x9 : Int), v_1 = (.int .i64 x9) ∧
  R (.int .i64 x9) w2)))
theorem soft_Best.vc_eq (scoresA : Option Addr) (scoresN : Nat) (scoresC : Nat) (w : World) (R : Value → World → Prop) : fnV Tryz.prog Tryz.f39 (.c .nil .nil) [(.slice scoresA scoresN scoresC)] w R = soft_Best.vc scoresA scoresN scoresC w R := by kernel_rfl
theorem soft_Best.calls (scoresA : Option Addr) (scoresN : Nat) (scoresC : Nat) {w : World} {R : Value → World → Prop} (h : soft_Best.vc scoresA scoresN scoresC w R) : Calls Tryz.prog 39 #[(.slice scoresA scoresN scoresC)] w (Ret R) :=
  calls_V fit Tryz.func39 (.c .nil .nil) (by rw [show (#[(.slice scoresA scoresN scoresC)] : Array Value).toList = [(.slice scoresA scoresN scoresC)] from rfl, soft_Best.vc_eq]; exact h)
/-- function 76 -/
def coadjutorref12_Exp.vc (d : Int) (w : World) (R : Value → World → Prop) : Prop :=
  ∀ w1 : World, w1 = w.alloc (.cells #[(.int .i64 0), (.int .i64 0), (.int .i64 0), (.int .i64 0), (.int .i64 0), (.int .i64 0), (.int .i64 0), (.int .i64 0)] 149 (0, 0)) →
  (((∃ u, w1.cell? (⟨w.heap.size, 0, none⟩ : Addr) = some u) ∧ w1.frozen? (⟨w.heap.size, 0, none⟩ : Addr) = false) ∧ ((∃ u, w1.cell? (⟨w.heap.size, 1, none⟩ : Addr) = some u) ∧ w1.frozen? (⟨w.heap.size, 1, none⟩ : Addr) = false) ∧ ((∃ u, w1.cell? (⟨w.heap.size, 2, none⟩ : Addr) = some u) ∧ w1.frozen? (⟨w.heap.size, 2, none⟩ : Addr) = false) ∧ ((∃ u, w1.cell? (⟨w.heap.size, 3, none⟩ : Addr) = some u) ∧ w1.frozen? (⟨w.heap.size, 3, none⟩ : Addr) = false) ∧ ((∃ u, w1.cell? (⟨w.heap.size, 4, none⟩ : Addr) = some u) ∧ w1.frozen? (⟨w.heap.size, 4, none⟩ : Addr) = false) ∧ ((∃ u, w1.cell? (⟨w.heap.size, 5, none⟩ : Addr) = some u) ∧ w1.frozen? (⟨w.heap.size, 5, none⟩ : Addr) = false) ∧ ((∃ u, w1.cell? (⟨w.heap.size, 6, none⟩ : Addr) = some u) ∧ w1.frozen? (⟨w.heap.size, 6, none⟩ : Addr) = false) ∧ ((∃ u, w1.cell? (⟨w.heap.size, 7, none⟩ : Addr) = some u) ∧ w1.frozen? (⟨w.heap.size, 7, none⟩ : Addr) = false)) ∧ ∀ w2 : World, w2 = ((((((((w1.setCell (⟨w.heap.size, 0, none⟩ : Addr) (.int .i64 65536)).setCell (⟨w.heap.size, 1, none⟩ : Addr) (.int .i64 60097)).setCell (⟨w.heap.size, 2, none⟩ : Addr) (.int .i64 55109)).setCell (⟨w.heap.size, 3, none⟩ : Addr) (.int .i64 50535)).setCell (⟨w.heap.size, 4, none⟩ : Addr) (.int .i64 46341)).setCell (⟨w.heap.size, 5, none⟩ : Addr) (.int .i64 42495)).setCell (⟨w.heap.size, 6, none⟩ : Addr) (.int .i64 38968)).setCell (⟨w.heap.size, 7, none⟩ : Addr) (.int .i64 35734)) →
  (8 : Int) ≠ 0 ∧
  (0 ≤ (Int.tmod (if (0 : Int) > d then (0 : Int) else d) 8) ∧ (Int.tmod (if (0 : Int) > d then (0 : Int) else d) 8) < (8 : Int)) ∧
  ∃ (x12 : Int), w2.cell? ((⟨w.heap.size, 0, none⟩ : Addr).add ((Int.tmod (if (0 : Int) > d then (0 : Int) else d) 8).toNat * 1)) = some (.int .i64 x12) ∧
  ∃ vI : Int → Int → Nat → World → Prop, (∃ vk_2 : Nat, vI x12 0 vk_2 w2) ∧
  ∀ (jk : Nat → Value) (x : Int) (i : Int), ∀ (vk : Nat) (w3 : World), vI x i vk w3 →
  (8 : Int) ≠ 0 ∧
  (decide (i < (IntKind.i64.wrap (Int.tdiv (if (0 : Int) > d then (0 : Int) else d) 8))) = true →
  (decide (x > (0 : Int)) = true →
  (2 : Int) ≠ 0 ∧
  ∃ vk_1 : Nat, vk_1 < vk ∧ vI (IntKind.i64.wrap (Int.tdiv x 2)) (IntKind.i64.wrap (i + 1)) vk_1 w3) ∧
  (decide (x > (0 : Int)) = false →
  R (.int .i64 x) w3)) ∧
  (decide (i < (IntKind.i64.wrap (Int.tdiv (if (0 : Int) > d then (0 : Int) else d) 8))) = false →
  R (.int .i64 x) w3)
theorem coadjutorref12_Exp.vc_eq (d : Int) (w : World) (R : Value → World → Prop) : fnV Tryz.prog Tryz.f76 (.lp [(4, some (.int .i64)), (5, some (.int .i64)), (13, none), (14, none), (15, none), (16, none), (17, none), (18, none), (19, none), (20, none), (21, none), (22, none), (23, none), (24, none)] (.at_ 5 4 (.c .nil .nil) (.k .nil))) [(.int .i64 d)] w R = coadjutorref12_Exp.vc d w R := by kernel_rfl
theorem coadjutorref12_Exp.calls (d : Int) {w : World} {R : Value → World → Prop} (h : coadjutorref12_Exp.vc d w R) : Calls Tryz.prog 76 #[(.int .i64 d)] w (Ret R) :=
  calls_V fit Tryz.func76 (.lp [(4, some (.int .i64)), (5, some (.int .i64)), (13, none), (14, none), (15, none), (16, none), (17, none), (18, none), (19, none), (20, none), (21, none), (22, none), (23, none), (24, none)] (.at_ 5 4 (.c .nil .nil) (.k .nil))) (by rw [show (#[(.int .i64 d)] : Array Value).toList = [(.int .i64 d)] from rfl, coadjutorref12_Exp.vc_eq]; exact h)
/-- function 75 -/
def coadjutorref12_Clamp.vc (x : Int) (w : World) (R : Value → World → Prop) : Prop :=
  Calls Tryz.prog 68 #[(.int .i64 x), (.int .i64 (-1073741824)), (.int .i64 1073741824)] w (Ret fun v w1 => ∃ (x4 : Int), v = (.int .i64 x4) ∧
  R (.int .i64 x4) w1)
theorem coadjutorref12_Clamp.vc_eq (x : Int) (w : World) (R : Value → World → Prop) : fnV Tryz.prog Tryz.f75 .nil [(.int .i64 x)] w R = coadjutorref12_Clamp.vc x w R := by kernel_rfl
theorem coadjutorref12_Clamp.calls (x : Int) {w : World} {R : Value → World → Prop} (h : coadjutorref12_Clamp.vc x w R) : Calls Tryz.prog 75 #[(.int .i64 x)] w (Ret R) :=
  calls_V fit Tryz.func75 .nil (by rw [show (#[(.int .i64 x)] : Array Value).toList = [(.int .i64 x)] from rfl, coadjutorref12_Clamp.vc_eq]; exact h)
/-- function 52 -/
def coadjutorref12_Weights.vc (lA : Option Addr) (lN : Nat) (lC : Nat) (w : World) (R : Value → World → Prop) : Prop :=
  ∀ w1 : World, w1 = w.alloc (.cells #[] 3 (0, 0)) →
  ∃ vI : Option Addr → Nat → Nat → Int → Nat → World → Prop, (∃ vk_2 : Nat, vI (some (⟨w.heap.size, 0, none⟩ : Addr)) 0 0 0 vk_2 w1) ∧
  ∀ (jk : Nat → Value) (outA : Option Addr) (outN : Nat) (outC : Nat) (i : Int), ∀ (vk : Nat) (w2 : World), vI outA outN outC i vk w2 →
  (decide (i < ((lN : Nat) : Int)) = true →
  (0 ≤ i ∧ i < ((lN : Nat) : Int)) ∧ someV lA fun p =>
  ∃ (x17 : Int), w2.cell? (p.add (i.toNat * 1)) = some (.int .i64 x17) ∧
  Calls Tryz.prog 75 #[(.int .i64 x17)] w2 (Ret fun v w3 => ∃ (x18 : Int), v = (.int .i64 x18) ∧
  ∃ vI_1 : Int → Int → Nat → World → Prop, (∃ vk_5 : Nat, vI_1 x18 0 vk_5 w3) ∧
  ∀ (jk : Nat → Value) (high : Int) (vk_6 : Int), ∀ (vk_3 : Nat) (w4 : World), vI_1 high vk_6 vk_3 w4 →
  (decide (vk_6 < ((lN : Nat) : Int)) = true →
  (0 ≤ vk_6 ∧ vk_6 < ((lN : Nat) : Int)) ∧ someV lA fun p_1 =>
  ∃ (x29 : Int), w4.cell? (p_1.add (vk_6.toNat * 1)) = some (.int .i64 x29) ∧
  Calls Tryz.prog 75 #[(.int .i64 x29)] w4 (Ret fun v_1 w5 => ∃ (x30 : Int), v_1 = (.int .i64 x30) ∧
  ∃ vk_4 : Nat, vk_4 < vk_3 ∧ vI_1 (if x30 > high then x30 else high) (IntKind.i64.wrap (vk_6 + 1)) vk_4 w5)) ∧
  (decide (vk_6 < ((lN : Nat) : Int)) = false →
  (0 ≤ i ∧ i < ((lN : Nat) : Int)) ∧ someV lA fun p_2 =>
  ∃ (x37 : Int), w4.cell? (p_2.add (i.toNat * 1)) = some (.int .i64 x37) ∧
  Calls Tryz.prog 75 #[(.int .i64 x37)] w4 (Ret fun v_2 w6 => ∃ (x38 : Int), v_2 = (.int .i64 x38) ∧
  Calls Tryz.prog 76 #[(.int .i64 (IntKind.i64.wrap (high - x38)))] w6 (Ret fun v_3 w7 => ∃ (x40 : Int), v_3 = (.int .i64 x40) ∧
  ∀ w8 : World, w8 = w7.alloc (.cells #[(.int .i64 x40)] 3 (0, 0)) →
  ∃ (x42A : Option Addr), ∃ (x42N : Nat), ∃ (x42C : Nat), ∃ w9 : World, (Builtin.append_ #[39, 39] 39 #[(.slice outA outN outC), (.slice (some (⟨w7.heap.size, 0, none⟩ : Addr)) 1 1)]).run Tryz.prog w8 = .ok (.slice x42A x42N x42C) w9 ∧
  ∃ vk_1 : Nat, vk_1 < vk ∧ vI x42A x42N x42C (IntKind.i64.wrap (i + 1)) vk_1 w9))))) ∧
  (decide (i < ((lN : Nat) : Int)) = false →
  R (.slice outA outN outC) w2)
theorem coadjutorref12_Weights.vc_eq (lA : Option Addr) (lN : Nat) (lC : Nat) (w : World) (R : Value → World → Prop) : fnV Tryz.prog Tryz.f52 (.lp [(3, some (.slice)), (4, some (.int .i64)), (5, none), (6, none), (8, none), (9, none), (10, none), (11, none), (12, none), (13, none), (14, none), (15, none), (16, none), (17, none), (18, none), (19, none), (20, none), (21, none), (22, none), (23, none), (24, none), (25, none), (26, none), (27, none), (28, none), (29, none), (30, none), (31, none), (32, none), (33, none), (34, none), (35, none), (36, none), (37, none), (38, none), (39, none), (40, none), (41, none), (42, none)] (.c (.lp [(5, some (.int .i64)), (6, some (.int .i64)), (19, none), (20, none), (21, none), (22, none), (23, none), (24, none), (25, none), (26, none), (27, none), (28, none), (29, none), (30, none), (31, none)] (.c .nil .nil)) .nil)) [(.slice lA lN lC)] w R = coadjutorref12_Weights.vc lA lN lC w R := by kernel_rfl
theorem coadjutorref12_Weights.calls (lA : Option Addr) (lN : Nat) (lC : Nat) {w : World} {R : Value → World → Prop} (h : coadjutorref12_Weights.vc lA lN lC w R) : Calls Tryz.prog 52 #[(.slice lA lN lC)] w (Ret R) :=
  calls_V fit Tryz.func52 (.lp [(3, some (.slice)), (4, some (.int .i64)), (5, none), (6, none), (8, none), (9, none), (10, none), (11, none), (12, none), (13, none), (14, none), (15, none), (16, none), (17, none), (18, none), (19, none), (20, none), (21, none), (22, none), (23, none), (24, none), (25, none), (26, none), (27, none), (28, none), (29, none), (30, none), (31, none), (32, none), (33, none), (34, none), (35, none), (36, none), (37, none), (38, none), (39, none), (40, none), (41, none), (42, none)] (.c (.lp [(5, some (.int .i64)), (6, some (.int .i64)), (19, none), (20, none), (21, none), (22, none), (23, none), (24, none), (25, none), (26, none), (27, none), (28, none), (29, none), (30, none), (31, none)] (.c .nil .nil)) .nil)) (by rw [show (#[(.slice lA lN lC)] : Array Value).toList = [(.slice lA lN lC)] from rfl, coadjutorref12_Weights.vc_eq]; exact h)
/-- function 70 -/
def coadjutorref12_Mix.vc (weightsA : Option Addr) (weightsN : Nat) (weightsC : Nat) (rowsA : Option Addr) (rowsN : Nat) (rowsC : Nat) (w : World) (R : Value → World → Prop) : Prop :=
  ∀ w1 : World, w1 = w.alloc (.cells #[] 3 (0, 0)) →
  ((((rowsN : Nat) : Int) == (0 : Int)) = true →
  R (.slice (some (⟨w.heap.size, 0, none⟩ : Addr)) 0 0) w1) ∧
  ((((rowsN : Nat) : Int) == (0 : Int)) = false →
  ((((weightsN : Nat) : Int) != ((rowsN : Nat) : Int)) = true →
  R (.slice (some (⟨w.heap.size, 0, none⟩ : Addr)) 0 0) w1) ∧
  ((((weightsN : Nat) : Int) != ((rowsN : Nat) : Int)) = false →
  ∃ vI : Int → Int → Nat → World → Prop, (∃ vk_2 : Nat, vI 0 0 vk_2 w1) ∧
  ∀ (jk : Nat → Value) (sum : Int) (i : Int), ∀ (vk : Nat) (w2 : World), vI sum i vk w2 →
  (decide (i < ((rowsN : Nat) : Int)) = true →
  ∃ vS : World → Prop, ∀ w3 : World, w3 = w2.drew → vS w3 ∧
  (0 ≤ i ∧ i < ((rowsN : Nat) : Int)) ∧ someV rowsA fun p =>
  ∃ (x32A : Option Addr), ∃ (x32N : Nat), ∃ (x32C : Nat), (∀ w4, vS w4 → w4.cell? (p.add (i.toNat * 1)) = some (.slice x32A x32N x32C)) ∧
  (0 ≤ (0 : Int) ∧ (0 : Int) < ((rowsN : Nat) : Int)) ∧ someV rowsA fun p_1 =>
  ∃ (x36A : Option Addr), ∃ (x36N : Nat), ∃ (x36C : Nat), (∀ w5, vS w5 → w5.cell? p_1 = some (.slice x36A x36N x36C)) ∧
  ((((x32N : Nat) : Int) != ((x36N : Nat) : Int)) = true →
  R (.slice (some (⟨w.heap.size, 0, none⟩ : Addr)) 0 0) w3) ∧
  ((((x32N : Nat) : Int) != ((x36N : Nat) : Int)) = false →
  (0 ≤ i ∧ i < ((weightsN : Nat) : Int)) ∧ someV weightsA fun p_2 =>
  ∃ (x43 : Int), (∀ w6, vS w6 → w6.cell? (p_2.add (i.toNat * 1)) = some (.int .i64 x43)) ∧
  (decide (x43 < (0 : Int)) = true →
  R (.slice (some (⟨w.heap.size, 0, none⟩ : Addr)) 0 0) w3) ∧
  (decide (x43 < (0 : Int)) = false →
  (0 ≤ i ∧ i < ((weightsN : Nat) : Int)) ∧ someV weightsA fun p_3 =>
  ∃ (x50 : Int), (∀ w7, vS w7 → w7.cell? (p_3.add (i.toNat * 1)) = some (.int .i64 x50)) ∧
  (decide (x50 > (65536 : Int)) = true →
  R (.slice (some (⟨w.heap.size, 0, none⟩ : Addr)) 0 0) w3) ∧
  (decide (x50 > (65536 : Int)) = false →
  (0 ≤ i ∧ i < ((weightsN : Nat) : Int)) ∧ someV weightsA fun p_4 =>
  ∃ (x58 : Int), w3.cell? (p_4.add (i.toNat * 1)) = some (.int .i64 x58) ∧
  ∃ vk_1 : Nat, vk_1 < vk ∧ vI (IntKind.i64.wrap (sum + x58)) (IntKind.i64.wrap (i + 1)) vk_1 w3)))) ∧
  (decide (i < ((rowsN : Nat) : Int)) = false →
  ∃ vI_1 : Option Addr → Nat → Nat → Int → Nat → World → Prop, (∃ vk_5 : Nat, vI_1 (some (⟨w.heap.size, 0, none⟩ : Addr)) 0 0 0 vk_5 w2) ∧
  ∀ (jk : Nat → Value) (outA : Option Addr) (outN : Nat) (outC : Nat) (vk_6 : Int), ∀ (vk_3 : Nat) (w8 : World), vI_1 outA outN outC vk_6 vk_3 w8 →
  (decide (sum > (0 : Int)) = true →
  (0 ≤ (0 : Int) ∧ (0 : Int) < ((rowsN : Nat) : Int)) ∧ someV rowsA fun p_5 =>
  ∃ (x66A : Option Addr), ∃ (x66N : Nat), ∃ (x66C : Nat), w8.cell? p_5 = some (.slice x66A x66N x66C) ∧
  (decide (vk_6 < ((x66N : Nat) : Int)) = true →
  ∃ vI_2 : Int → Int → Nat → World → Prop, (∃ vk_9 : Nat, vI_2 0 0 vk_9 w8) ∧
  ∀ (jk : Nat → Value) (x : Int) (i_1 : Int), ∀ (vk_7 : Nat) (w9 : World), vI_2 x i_1 vk_7 w9 →
  (decide (i_1 < ((rowsN : Nat) : Int)) = true →
  ∃ vS_1 : World → Prop, ∀ w10 : World, w10 = w9.drew → vS_1 w10 ∧
  (0 ≤ i_1 ∧ i_1 < ((weightsN : Nat) : Int)) ∧ someV weightsA fun p_6 =>
  ∃ (x82 : Int), (∀ w11, vS_1 w11 → w11.cell? (p_6.add (i_1.toNat * 1)) = some (.int .i64 x82)) ∧
  (0 ≤ i_1 ∧ i_1 < ((rowsN : Nat) : Int)) ∧ someV rowsA fun p_7 =>
  ∃ (x86A : Option Addr), ∃ (x86N : Nat), ∃ (x86C : Nat), (∀ w12, vS_1 w12 → w12.cell? (p_7.add (i_1.toNat * 1)) = some (.slice x86A x86N x86C)) ∧
  (0 ≤ vk_6 ∧ vk_6 < ((x86N : Nat) : Int)) ∧ someV x86A fun p_8 =>
  ∃ (x89 : Int), (∀ w13, vS_1 w13 → w13.cell? (p_8.add (vk_6.toNat * 1)) = some (.int .i64 x89)) ∧
  Calls Tryz.prog 75 #[(.int .i64 x89)] w10 (Ret fun v w14 => ∃ (x90 : Int), v = (.int .i64 x90) ∧
  vS_1 w14 ∧
  ∃ vk_8 : Nat, vk_8 < vk_7 ∧ vI_2 (IntKind.i64.wrap (x + (IntKind.i64.wrap (x82 * x90)))) (IntKind.i64.wrap (i_1 + 1)) vk_8 w14)) ∧
  (decide (i_1 < ((rowsN : Nat) : Int)) = false →
  sum ≠ 0 ∧
  Calls Tryz.prog 42 #[(.int .i64 (IntKind.i64.wrap (Int.tdiv x sum)))] w9 (Ret fun v_1 w15 => ∃ (x97 : Int), v_1 = (.int .i64 x97) ∧
  ∀ w16 : World, w16 = w15.alloc (.cells #[(.int .i64 x97)] 3 (0, 0)) →
  ∃ (x99A : Option Addr), ∃ (x99N : Nat), ∃ (x99C : Nat), ∃ w17 : World, (Builtin.append_ #[39, 39] 39 #[(.slice outA outN outC), (.slice (some (⟨w15.heap.size, 0, none⟩ : Addr)) 1 1)]).run Tryz.prog w16 = .ok (.slice x99A x99N x99C) w17 ∧
  ∃ vk_4 : Nat, vk_4 < vk_3 ∧ vI_1 x99A x99N x99C (IntKind.i64.wrap (vk_6 + 1)) vk_4 w17))) ∧
  (decide (vk_6 < ((x66N : Nat) : Int)) = false →
  R (.slice outA outN outC) w8)) ∧
  (decide (sum > (0 : Int)) = false →
  R (.slice outA outN outC) w8))))
theorem coadjutorref12_Mix.vc_eq (weightsA : Option Addr) (weightsN : Nat) (weightsC : Nat) (rowsA : Option Addr) (rowsN : Nat) (rowsC : Nat) (w : World) (R : Value → World → Prop) : fnV Tryz.prog Tryz.f70 (.at_ 2 3 (.k .nil) (.c .nil (.lp [(4, none), (6, some (.int .i64)), (7, some (.int .i64)), (23, none), (24, none), (25, none), (26, none), (27, none), (28, none), (29, none), (30, none), (31, none), (32, none), (33, none), (34, none), (35, none), (36, none), (37, none), (38, none), (39, none), (40, none), (41, none), (42, none), (43, none), (44, none), (45, none), (46, none), (47, none), (48, none), (49, none), (50, none), (51, none), (52, none), (53, none), (54, none), (55, none), (56, none), (57, none), (58, none), (59, none)] (.c (.tk 0 (.tk 1 (.tk 2 (.tk 3 (.tk 4 (.tk 5 (.tk 6 (.tk 7 (.tk 8 (.tk 9 (.tks 10 (.tk 11 (.tk 12 (.tk 13 (.tk 14 (.tk 15 (.tk 16 (.tk 17 (.tk 18 (.tk 19 (.tk 20 (.tk 21 (.tk 22 (.tk 23 (.fin (.k .nil))))))))))))))) (.tk 11 (.tk 12 (.tk 13 (.tk 14 (.tk 15 (.tk 16 (.tks 17 (.tk 18 (.tk 19 (.tk 20 (.tk 21 (.tk 22 (.tk 23 (.fin (.k .nil)))))))) (.tk 18 (.tk 19 (.tk 20 (.tk 21 (.tk 22 (.tk 23 (.fin (.c .nil .nil)))))))))))))))))))))))))) (.lp [(5, some (.slice)), (8, some (.int .i64)), (9, none), (10, none), (60, none), (61, none), (62, none), (63, none), (64, none), (65, none), (66, none), (67, none), (68, none), (69, none), (70, none), (71, none), (72, none), (73, none), (74, none), (75, none), (76, none), (77, none), (78, none), (79, none), (80, none), (81, none), (82, none), (83, none), (84, none), (85, none), (86, none), (87, none), (88, none), (89, none), (90, none), (91, none), (92, none), (93, none), (94, none), (95, none), (96, none), (97, none), (98, none), (99, none)] (.at_ 12 2 (.c (.lp [(9, some (.int .i64)), (10, some (.int .i64)), (72, none), (73, none), (74, none), (75, none), (76, none), (77, none), (78, none), (79, none), (80, none), (81, none), (82, none), (83, none), (84, none), (85, none), (86, none), (87, none), (88, none), (89, none), (90, none), (91, none), (92, none)] (.c (.tk 0 (.tk 1 (.tk 2 (.tk 3 (.tk 4 (.tk 5 (.tk 6 (.tk 7 (.tk 8 (.tk 9 (.tk 10 (.tk 11 (.alt 12 (.tk 13 (.tk 14 (.tk 15 (.fin .nil)))) .nil))))))))))))) .nil)) .nil) (.k .nil))))))) [(.slice weightsA weightsN weightsC), (.slice rowsA rowsN rowsC)] w R = coadjutorref12_Mix.vc weightsA weightsN weightsC rowsA rowsN rowsC w R := by kernel_rfl
theorem coadjutorref12_Mix.calls (weightsA : Option Addr) (weightsN : Nat) (weightsC : Nat) (rowsA : Option Addr) (rowsN : Nat) (rowsC : Nat) {w : World} {R : Value → World → Prop} (h : coadjutorref12_Mix.vc weightsA weightsN weightsC rowsA rowsN rowsC w R) : Calls Tryz.prog 70 #[(.slice weightsA weightsN weightsC), (.slice rowsA rowsN rowsC)] w (Ret R) :=
  calls_V fit Tryz.func70 (.at_ 2 3 (.k .nil) (.c .nil (.lp [(4, none), (6, some (.int .i64)), (7, some (.int .i64)), (23, none), (24, none), (25, none), (26, none), (27, none), (28, none), (29, none), (30, none), (31, none), (32, none), (33, none), (34, none), (35, none), (36, none), (37, none), (38, none), (39, none), (40, none), (41, none), (42, none), (43, none), (44, none), (45, none), (46, none), (47, none), (48, none), (49, none), (50, none), (51, none), (52, none), (53, none), (54, none), (55, none), (56, none), (57, none), (58, none), (59, none)] (.c (.tk 0 (.tk 1 (.tk 2 (.tk 3 (.tk 4 (.tk 5 (.tk 6 (.tk 7 (.tk 8 (.tk 9 (.tks 10 (.tk 11 (.tk 12 (.tk 13 (.tk 14 (.tk 15 (.tk 16 (.tk 17 (.tk 18 (.tk 19 (.tk 20 (.tk 21 (.tk 22 (.tk 23 (.fin (.k .nil))))))))))))))) (.tk 11 (.tk 12 (.tk 13 (.tk 14 (.tk 15 (.tk 16 (.tks 17 (.tk 18 (.tk 19 (.tk 20 (.tk 21 (.tk 22 (.tk 23 (.fin (.k .nil)))))))) (.tk 18 (.tk 19 (.tk 20 (.tk 21 (.tk 22 (.tk 23 (.fin (.c .nil .nil)))))))))))))))))))))))))) (.lp [(5, some (.slice)), (8, some (.int .i64)), (9, none), (10, none), (60, none), (61, none), (62, none), (63, none), (64, none), (65, none), (66, none), (67, none), (68, none), (69, none), (70, none), (71, none), (72, none), (73, none), (74, none), (75, none), (76, none), (77, none), (78, none), (79, none), (80, none), (81, none), (82, none), (83, none), (84, none), (85, none), (86, none), (87, none), (88, none), (89, none), (90, none), (91, none), (92, none), (93, none), (94, none), (95, none), (96, none), (97, none), (98, none), (99, none)] (.at_ 12 2 (.c (.lp [(9, some (.int .i64)), (10, some (.int .i64)), (72, none), (73, none), (74, none), (75, none), (76, none), (77, none), (78, none), (79, none), (80, none), (81, none), (82, none), (83, none), (84, none), (85, none), (86, none), (87, none), (88, none), (89, none), (90, none), (91, none), (92, none)] (.c (.tk 0 (.tk 1 (.tk 2 (.tk 3 (.tk 4 (.tk 5 (.tk 6 (.tk 7 (.tk 8 (.tk 9 (.tk 10 (.tk 11 (.alt 12 (.tk 13 (.tk 14 (.tk 15 (.fin .nil)))) .nil))))))))))))) .nil)) .nil) (.k .nil))))))) (by rw [show (#[(.slice weightsA weightsN weightsC), (.slice rowsA rowsN rowsC)] : Array Value).toList = [(.slice weightsA weightsN weightsC), (.slice rowsA rowsN rowsC)] from rfl, coadjutorref12_Mix.vc_eq]; exact h)
/-- function 51 -/
def coadjutorref12_Choose.vc (draw : Int) (weightsA : Option Addr) (weightsN : Nat) (weightsC : Nat) (w : World) (R : Value → World → Prop) : Prop :=
  ∃ vI : Int → Int → Nat → World → Prop, (∃ vk_2 : Nat, vI 0 0 vk_2 w) ∧
  ∀ (jk : Nat → Value) (sum : Int) (i : Int), ∀ (vk : Nat) (w1 : World), vI sum i vk w1 →
  (decide (i < ((weightsN : Nat) : Int)) = true →
  (0 ≤ i ∧ i < ((weightsN : Nat) : Int)) ∧ someV weightsA fun p =>
  ∃ (x18 : Int), w1.cell? (p.add (i.toNat * 1)) = some (.int .i64 x18) ∧
  (decide (x18 < (0 : Int)) = true →
  R (.int .i64 (-1)) w1) ∧
  (decide (x18 < (0 : Int)) = false →
  (0 ≤ i ∧ i < ((weightsN : Nat) : Int)) ∧ someV weightsA fun p_1 =>
  ∃ (x24 : Int), w1.cell? (p_1.add (i.toNat * 1)) = some (.int .i64 x24) ∧
  (decide (x24 > (1048576 : Int)) = true →
  R (.int .i64 (-1)) w1) ∧
  (decide (x24 > (1048576 : Int)) = false →
  (decide (((weightsN : Nat) : Int) > (64 : Int)) = true →
  R (.int .i64 (-1)) w1) ∧
  (decide (((weightsN : Nat) : Int) > (64 : Int)) = false →
  (0 ≤ i ∧ i < ((weightsN : Nat) : Int)) ∧ someV weightsA fun p_2 =>
  ∃ (x36 : Int), w1.cell? (p_2.add (i.toNat * 1)) = some (.int .i64 x36) ∧
  ∃ vk_1 : Nat, vk_1 < vk ∧ vI (IntKind.i64.wrap (sum + x36)) (IntKind.i64.wrap (i + 1)) vk_1 w1)))) ∧
  (decide (i < ((weightsN : Nat) : Int)) = false →
  ((sum == (0 : Int)) = true →
  R (.int .i64 (-1)) w1) ∧
  ((sum == (0 : Int)) = false →
  sum ≠ 0 ∧
  ∃ J : Int → World → Prop, ((decide ((Int.tmod draw sum) < (0 : Int)) = true →
  J (IntKind.i64.wrap ((Int.tmod draw sum) + sum)) w1) ∧
  (decide ((Int.tmod draw sum) < (0 : Int)) = false →
  J (Int.tmod draw sum) w1)) ∧
  ∀ (jk : Nat → Value) (d : Int), ∀ w2 : World, J d w2 →
  ∃ vI_1 : Int → Int → Nat → World → Prop, (∃ vk_5 : Nat, vI_1 d 0 vk_5 w2) ∧
  ∀ (jk : Nat → Value) (d_1 : Int) (i_1 : Int), ∀ (vk_3 : Nat) (w3 : World), vI_1 d_1 i_1 vk_3 w3 →
  (decide (i_1 < ((weightsN : Nat) : Int)) = true →
  (0 ≤ i_1 ∧ i_1 < ((weightsN : Nat) : Int)) ∧ someV weightsA fun p_3 =>
  ∃ (x58 : Int), w3.cell? (p_3.add (i_1.toNat * 1)) = some (.int .i64 x58) ∧
  (decide (d_1 < x58) = true →
  R (.int .i64 i_1) w3) ∧
  (decide (d_1 < x58) = false →
  (0 ≤ i_1 ∧ i_1 < ((weightsN : Nat) : Int)) ∧ someV weightsA fun p_4 =>
  ∃ (x65 : Int), w3.cell? (p_4.add (i_1.toNat * 1)) = some (.int .i64 x65) ∧
  ∃ vk_4 : Nat, vk_4 < vk_3 ∧ vI_1 (IntKind.i64.wrap (d_1 - x65)) (IntKind.i64.wrap (i_1 + 1)) vk_4 w3)) ∧
  (decide (i_1 < ((weightsN : Nat) : Int)) = false →
  R (.int .i64 (-1)) w3)))
theorem coadjutorref12_Choose.vc_eq (draw : Int) (weightsA : Option Addr) (weightsN : Nat) (weightsC : Nat) (w : World) (R : Value → World → Prop) : fnV Tryz.prog Tryz.f51 (.lp [(4, none), (5, some (.int .i64)), (6, some (.int .i64)), (9, none), (10, none), (11, none), (12, none), (13, none), (14, none), (15, none), (16, none), (17, none), (18, none), (19, none), (20, none), (21, none), (22, none), (23, none), (24, none), (25, none), (26, none), (27, none), (28, none), (29, none), (30, none), (31, none), (32, none), (33, none), (34, none), (35, none), (36, none), (37, none)] (.c (.at_ 5 5 (.k .nil) (.at_ 5 12 (.k .nil) (.c .nil .nil))) (.c .nil (.cut 1 [(7, some (.int .i64)), (43, none), (44, none), (45, none), (46, none), (47, none)] (.c .nil .nil) (.lp [(4, none), (7, some (.int .i64)), (8, some (.int .i64)), (48, none), (49, none), (50, none), (51, none), (52, none), (53, none), (54, none), (55, none), (56, none), (57, none), (58, none), (59, none), (60, none), (61, none), (62, none), (63, none), (64, none), (65, none), (66, none)] (.c (.c .nil .nil) .nil)))))) [(.int .i64 draw), (.slice weightsA weightsN weightsC)] w R = coadjutorref12_Choose.vc draw weightsA weightsN weightsC w R := by kernel_rfl
theorem coadjutorref12_Choose.calls (draw : Int) (weightsA : Option Addr) (weightsN : Nat) (weightsC : Nat) {w : World} {R : Value → World → Prop} (h : coadjutorref12_Choose.vc draw weightsA weightsN weightsC w R) : Calls Tryz.prog 51 #[(.int .i64 draw), (.slice weightsA weightsN weightsC)] w (Ret R) :=
  calls_V fit Tryz.func51 (.lp [(4, none), (5, some (.int .i64)), (6, some (.int .i64)), (9, none), (10, none), (11, none), (12, none), (13, none), (14, none), (15, none), (16, none), (17, none), (18, none), (19, none), (20, none), (21, none), (22, none), (23, none), (24, none), (25, none), (26, none), (27, none), (28, none), (29, none), (30, none), (31, none), (32, none), (33, none), (34, none), (35, none), (36, none), (37, none)] (.c (.at_ 5 5 (.k .nil) (.at_ 5 12 (.k .nil) (.c .nil .nil))) (.c .nil (.cut 1 [(7, some (.int .i64)), (43, none), (44, none), (45, none), (46, none), (47, none)] (.c .nil .nil) (.lp [(4, none), (7, some (.int .i64)), (8, some (.int .i64)), (48, none), (49, none), (50, none), (51, none), (52, none), (53, none), (54, none), (55, none), (56, none), (57, none), (58, none), (59, none), (60, none), (61, none), (62, none), (63, none), (64, none), (65, none), (66, none)] (.c (.c .nil .nil) .nil)))))) (by rw [show (#[(.int .i64 draw), (.slice weightsA weightsN weightsC)] : Array Value).toList = [(.int .i64 draw), (.slice weightsA weightsN weightsC)] from rfl, coadjutorref12_Choose.vc_eq]; exact h)
/-- function 26 -/
def coadjutorref12_Best.vc (lA : Option Addr) (lN : Nat) (lC : Nat) (w : World) (R : Value → World → Prop) : Prop :=
  ∃ vI : Int → Int → Nat → World → Prop, (∃ vk_2 : Nat, vI (-1) 0 vk_2 w) ∧
  ∀ (jk : Nat → Value) (vat : Int) (i : Int), ∀ (vk : Nat) (w1 : World), vI vat i vk w1 →
  (decide (i < ((lN : Nat) : Int)) = true →
  ∃ vS : World → Prop, ∀ w2 : World, w2 = w1.drew → vS w2 ∧
  (decide (vat < (0 : Int)) = true →
  ∃ vk_1 : Nat, vk_1 < vk ∧ vI i (IntKind.i64.wrap (i + 1)) vk_1 w2) ∧
  (decide (vat < (0 : Int)) = false →
  (0 ≤ i ∧ i < ((lN : Nat) : Int)) ∧ someV lA fun p =>
  ∃ (x17 : Int), (∀ w3, vS w3 → w3.cell? (p.add (i.toNat * 1)) = some (.int .i64 x17)) ∧
  (0 ≤ vat ∧ vat < ((lN : Nat) : Int)) ∧ someV lA fun p_1 =>
  ∃ (x21 : Int), (∀ w4, vS w4 → w4.cell? (p_1.add (vat.toNat * 1)) = some (.int .i64 x21)) ∧
  (decide (x17 > x21) = true →
  ∃ vk_1 : Nat, vk_1 < vk ∧ vI i (IntKind.i64.wrap (i + 1)) vk_1 w2) ∧
  (decide (x17 > x21) = false →
  ∃ vk_1 : Nat, vk_1 < vk ∧ vI vat (IntKind.i64.wrap (i + 1)) vk_1 w2))) ∧
  (decide (i < ((lN : Nat) : Int)) = false →
  R (.int .i64 vat) w1)
theorem coadjutorref12_Best.vc_eq (lA : Option Addr) (lN : Nat) (lC : Nat) (w : World) (R : Value → World → Prop) : fnV Tryz.prog Tryz.f26 (.lp [(3, some (.int .i64)), (4, some (.int .i64)), (5, none), (6, none), (7, none), (8, none), (9, none), (10, none), (11, none), (12, none), (13, none), (14, none), (15, none), (16, none), (17, none), (18, none), (19, none), (20, none), (21, none), (22, none), (23, none), (24, none)] (.c (.tk 0 (.tk 1 (.tks 2 (.tk 3 (.tk 4 (.tk 5 (.tk 6 (.tk 7 (.tk 8 (.tk 9 (.tk 10 (.tk 11 (.tk 12 (.fin (.k .nil)))))))))))) (.tk 3 (.tk 4 (.tk 5 (.tk 6 (.tk 7 (.tk 8 (.tk 9 (.tk 10 (.tk 11 (.tk 12 (.fin (.c .nil .nil))))))))))))))) .nil)) [(.slice lA lN lC)] w R = coadjutorref12_Best.vc lA lN lC w R := by kernel_rfl
theorem coadjutorref12_Best.calls (lA : Option Addr) (lN : Nat) (lC : Nat) {w : World} {R : Value → World → Prop} (h : coadjutorref12_Best.vc lA lN lC w R) : Calls Tryz.prog 26 #[(.slice lA lN lC)] w (Ret R) :=
  calls_V fit Tryz.func26 (.lp [(3, some (.int .i64)), (4, some (.int .i64)), (5, none), (6, none), (7, none), (8, none), (9, none), (10, none), (11, none), (12, none), (13, none), (14, none), (15, none), (16, none), (17, none), (18, none), (19, none), (20, none), (21, none), (22, none), (23, none), (24, none)] (.c (.tk 0 (.tk 1 (.tks 2 (.tk 3 (.tk 4 (.tk 5 (.tk 6 (.tk 7 (.tk 8 (.tk 9 (.tk 10 (.tk 11 (.tk 12 (.fin (.k .nil)))))))))))) (.tk 3 (.tk 4 (.tk 5 (.tk 6 (.tk 7 (.tk 8 (.tk 9 (.tk 10 (.tk 11 (.tk 12 (.fin (.c .nil .nil))))))))))))))) .nil)) (by rw [show (#[(.slice lA lN lC)] : Array Value).toList = [(.slice lA lN lC)] from rfl, coadjutorref12_Best.vc_eq]; exact h)
/-- function 64 -/
def slices_Max.vc (xA : Option Addr) (xN : Nat) (xC : Nat) (w : World) (R : Value → World → Prop) : Prop :=
  (decide (((xN : Nat) : Int) < (1 : Int)) = true →
  False) ∧
  (decide (((xN : Nat) : Int) < (1 : Int)) = false →
  (0 ≤ (0 : Int) ∧ (0 : Int) < ((xN : Nat) : Int)) ∧ someV xA fun p =>
  ∃ (x11 : Int), w.cell? p = some (.int .i64 x11) ∧
  ∃ vI : Int → Int → Nat → World → Prop, (∃ vk_2 : Nat, vI x11 1 vk_2 w) ∧
  ∀ (jk : Nat → Value) (m : Int) (i : Int), ∀ (vk : Nat) (w1 : World), vI m i vk w1 →
  (decide (i < ((xN : Nat) : Int)) = true →
  (0 ≤ i ∧ i < ((xN : Nat) : Int)) ∧ someV xA fun p_1 =>
  ∃ (x22 : Int), w1.cell? (p_1.add (i.toNat * 1)) = some (.int .i64 x22) ∧
  ∃ vk_1 : Nat, vk_1 < vk ∧ vI (if x22 > m then x22 else m) (IntKind.i64.wrap (i + 1)) vk_1 w1) ∧
  (decide (i < ((xN : Nat) : Int)) = false →
  R (.int .i64 m) w1))
theorem slices_Max.vc_eq (xA : Option Addr) (xN : Nat) (xC : Nat) (w : World) (R : Value → World → Prop) : fnV Tryz.prog Tryz.f64 (.c .nil (.lp [(3, some (.int .i64)), (4, some (.int .i64)), (12, none), (13, none), (14, none), (15, none), (16, none), (17, none), (18, none), (19, none), (20, none), (21, none), (22, none), (23, none)] (.c .nil .nil))) [(.slice xA xN xC)] w R = slices_Max.vc xA xN xC w R := by kernel_rfl
theorem slices_Max.calls (xA : Option Addr) (xN : Nat) (xC : Nat) {w : World} {R : Value → World → Prop} (h : slices_Max.vc xA xN xC w R) : Calls Tryz.prog 64 #[(.slice xA xN xC)] w (Ret R) :=
  calls_V fit Tryz.func64 (.c .nil (.lp [(3, some (.int .i64)), (4, some (.int .i64)), (12, none), (13, none), (14, none), (15, none), (16, none), (17, none), (18, none), (19, none), (20, none), (21, none), (22, none), (23, none)] (.c .nil .nil))) (by rw [show (#[(.slice xA xN xC)] : Array Value).toList = [(.slice xA xN xC)] from rfl, slices_Max.vc_eq]; exact h)
/-- function 63 -/
def slices_Index.vc (sA : Option Addr) (sN : Nat) (sC : Nat) (v : Int) (w : World) (R : Value → World → Prop) : Prop :=
  ∃ vI : Int → Nat → World → Prop, (∃ vk_2 : Nat, vI 0 vk_2 w) ∧
  ∀ (jk : Nat → Value) (x8 : Int), ∀ (vk : Nat) (w1 : World), vI x8 vk w1 →
  (decide (x8 < ((sN : Nat) : Int)) = true →
  (0 ≤ x8 ∧ x8 < ((sN : Nat) : Int)) ∧ someV sA fun p =>
  ∃ (x15 : Int), w1.cell? (p.add (x8.toNat * 1)) = some (.int .i64 x15) ∧
  ((v == x15) = true →
  R (.int .i64 x8) w1) ∧
  ((v == x15) = false →
  ∃ vk_1 : Nat, vk_1 < vk ∧ vI (IntKind.i64.wrap (x8 + 1)) vk_1 w1)) ∧
  (decide (x8 < ((sN : Nat) : Int)) = false →
  R (.int .i64 (-1)) w1)
theorem slices_Index.vc_eq (sA : Option Addr) (sN : Nat) (sC : Nat) (v : Int) (w : World) (R : Value → World → Prop) : fnV Tryz.prog Tryz.f63 (.lp [(4, none), (5, none), (8, some (.int .i64)), (9, none), (10, none), (11, none), (12, none), (13, none), (14, none), (15, none), (16, none), (17, none), (18, none)] (.c (.c .nil .nil) .nil)) [(.slice sA sN sC), (.int .i64 v)] w R = slices_Index.vc sA sN sC v w R := by kernel_rfl
theorem slices_Index.calls (sA : Option Addr) (sN : Nat) (sC : Nat) (v : Int) {w : World} {R : Value → World → Prop} (h : slices_Index.vc sA sN sC v w R) : Calls Tryz.prog 63 #[(.slice sA sN sC), (.int .i64 v)] w (Ret R) :=
  calls_V fit Tryz.func63 (.lp [(4, none), (5, none), (8, some (.int .i64)), (9, none), (10, none), (11, none), (12, none), (13, none), (14, none), (15, none), (16, none), (17, none), (18, none)] (.c (.c .nil .nil) .nil)) (by rw [show (#[(.slice sA sN sC), (.int .i64 v)] : Array Value).toList = [(.slice sA sN sC), (.int .i64 v)] from rfl, slices_Index.vc_eq]; exact h)
end Go.Proofs.YtbadkcnemcnhfaaGreatDoor.Vc

set_option linter.unusedVariables false
set_option maxRecDepth 100000
namespace Go.Proofs.YtbadkcnemcnhfaaGreatDoor.Vc
open Go Go.Proofs Go.Proofs.YtbadkcnemcnhfaaGreatDoor.V
/-- function 34 -/
def conf_within.vc (n : Int) (vfrom : Int) (to : Int) (w : World) (R : Value → World → Prop) : Prop :=
  (decide (n ≥ vfrom) = true →
  R (.bool (decide (n ≤ to))) w) ∧
  (decide (n ≥ vfrom) = false →
  R (.bool false) w)
theorem conf_within.vc_eq (n : Int) (vfrom : Int) (to : Int) (w : World) (R : Value → World → Prop) : fnV Tryz.prog Tryz.f34 (.at_ 1 3 .nil .nil) [(.int .i64 n), (.int .i64 vfrom), (.int .i64 to)] w R = conf_within.vc n vfrom to w R := by kernel_rfl
theorem conf_within.calls (n : Int) (vfrom : Int) (to : Int) {w : World} {R : Value → World → Prop} (h : conf_within.vc n vfrom to w R) : Calls Tryz.prog 34 #[(.int .i64 n), (.int .i64 vfrom), (.int .i64 to)] w (Ret R) :=
  calls_V fit Tryz.func34 (.at_ 1 3 .nil .nil) (by rw [show (#[(.int .i64 n), (.int .i64 vfrom), (.int .i64 to)] : Array Value).toList = [(.int .i64 n), (.int .i64 vfrom), (.int .i64 to)] from rfl, conf_within.vc_eq]; exact h)
/-- function 77 -/
def conf_Shape_side.vc (s0 : Int) (s1 : Int) (s2 : Int) (s3 : Int) (s4 : Int) (s5 : Int) (part : Int) (w : World) (R : Value → World → Prop) : Prop :=
  ∀ w1 : World, w1 = w.alloc (.cells #[(.int .i64 s0), (.int .i64 s1), (.int .i64 s2), (.int .i64 s3), (.int .i64 s4), (.int .i64 s5)] 55 (0, 0)) →
  ((part == (0 : Int)) = true →
  ∃ vS : World → Prop, ∀ w2 : World, w2 = w1.drew → vS w2 ∧
  ∃ (x11 : Int), (∀ w3, vS w3 → w3.cell? (⟨w.heap.size, 0, none⟩ : Addr) = some (.int .i64 x11)) ∧
  ∃ (x14 : Int), (∀ w4, vS w4 → w4.cell? (⟨w.heap.size, 1, none⟩ : Addr) = some (.int .i64 x14)) ∧
  R (.tuple #[(.int .i64 x11), (.int .i64 x14)]) w2) ∧
  ((part == (0 : Int)) = false →
  ((part == (1 : Int)) = true →
  ∃ vS_1 : World → Prop, ∀ w5 : World, w5 = w1.drew → vS_1 w5 ∧
  ∃ (x19 : Int), (∀ w6, vS_1 w6 → w6.cell? (⟨w.heap.size, 5, none⟩ : Addr) = some (.int .i64 x19)) ∧
  ∃ (x22 : Int), (∀ w7, vS_1 w7 → w7.cell? (⟨w.heap.size, 1, none⟩ : Addr) = some (.int .i64 x22)) ∧
  R (.tuple #[(.int .i64 x19), (.int .i64 x22)]) w5) ∧
  ((part == (1 : Int)) = false →
  ((part == (2 : Int)) = true →
  (part == (2 : Int)) = true ∧
  ∃ vS_2 : World → Prop, ∀ w8 : World, w8 = w1.drew → vS_2 w8 ∧
  ∃ (x29 : Int), (∀ w9, vS_2 w9 → w9.cell? (⟨w.heap.size, 1, none⟩ : Addr) = some (.int .i64 x29)) ∧
  R (.tuple #[(.int .i64 1), (.int .i64 x29)]) w8) ∧
  ((part == (2 : Int)) = false →
  ((part == (7 : Int)) = true →
  (part == (7 : Int)) = true ∧
  ∃ vS_3 : World → Prop, ∀ w10 : World, w10 = w1.drew → vS_3 w10 ∧
  ∃ (x29_1 : Int), (∀ w11, vS_3 w11 → w11.cell? (⟨w.heap.size, 1, none⟩ : Addr) = some (.int .i64 x29_1)) ∧
  R (.tuple #[(.int .i64 1), (.int .i64 x29_1)]) w10) ∧
  ((part == (7 : Int)) = false →
  ((part == (11 : Int)) = true →
  ∃ vS_4 : World → Prop, ∀ w12 : World, w12 = w1.drew → vS_4 w12 ∧
  ∃ (x29_2 : Int), (∀ w13, vS_4 w13 → w13.cell? (⟨w.heap.size, 1, none⟩ : Addr) = some (.int .i64 x29_2)) ∧
  R (.tuple #[(.int .i64 1), (.int .i64 x29_2)]) w12) ∧
  ((part == (11 : Int)) = false →
  ((part == (3 : Int)) = true →
  (part == (3 : Int)) = true ∧
  ∃ vS_5 : World → Prop, ∀ w14 : World, w14 = w1.drew → vS_5 w14 ∧
  ∃ (x37 : Int), (∀ w15, vS_5 w15 → w15.cell? (⟨w.heap.size, 1, none⟩ : Addr) = some (.int .i64 x37)) ∧
  ∃ (x40 : Int), (∀ w16, vS_5 w16 → w16.cell? (⟨w.heap.size, 1, none⟩ : Addr) = some (.int .i64 x40)) ∧
  R (.tuple #[(.int .i64 x37), (.int .i64 x40)]) w14) ∧
  ((part == (3 : Int)) = false →
  ((part == (4 : Int)) = true →
  (part == (4 : Int)) = true ∧
  ∃ vS_6 : World → Prop, ∀ w17 : World, w17 = w1.drew → vS_6 w17 ∧
  ∃ (x37_1 : Int), (∀ w18, vS_6 w18 → w18.cell? (⟨w.heap.size, 1, none⟩ : Addr) = some (.int .i64 x37_1)) ∧
  ∃ (x40_1 : Int), (∀ w19, vS_6 w19 → w19.cell? (⟨w.heap.size, 1, none⟩ : Addr) = some (.int .i64 x40_1)) ∧
  R (.tuple #[(.int .i64 x37_1), (.int .i64 x40_1)]) w17) ∧
  ((part == (4 : Int)) = false →
  ((part == (5 : Int)) = true →
  (part == (5 : Int)) = true ∧
  ∃ vS_7 : World → Prop, ∀ w20 : World, w20 = w1.drew → vS_7 w20 ∧
  ∃ (x37_2 : Int), (∀ w21, vS_7 w21 → w21.cell? (⟨w.heap.size, 1, none⟩ : Addr) = some (.int .i64 x37_2)) ∧
  ∃ (x40_2 : Int), (∀ w22, vS_7 w22 → w22.cell? (⟨w.heap.size, 1, none⟩ : Addr) = some (.int .i64 x40_2)) ∧
  R (.tuple #[(.int .i64 x37_2), (.int .i64 x40_2)]) w20) ∧
  ((part == (5 : Int)) = false →
  ((part == (6 : Int)) = true →
  ∃ vS_8 : World → Prop, ∀ w23 : World, w23 = w1.drew → vS_8 w23 ∧
  ∃ (x37_3 : Int), (∀ w24, vS_8 w24 → w24.cell? (⟨w.heap.size, 1, none⟩ : Addr) = some (.int .i64 x37_3)) ∧
  ∃ (x40_3 : Int), (∀ w25, vS_8 w25 → w25.cell? (⟨w.heap.size, 1, none⟩ : Addr) = some (.int .i64 x40_3)) ∧
  R (.tuple #[(.int .i64 x37_3), (.int .i64 x40_3)]) w23) ∧
  ((part == (6 : Int)) = false →
  ((part == (8 : Int)) = true →
  (part == (8 : Int)) = true ∧
  ∃ vS_9 : World → Prop, ∀ w26 : World, w26 = w1.drew → vS_9 w26 ∧
  ∃ (x46 : Int), (∀ w27, vS_9 w27 → w27.cell? (⟨w.heap.size, 4, none⟩ : Addr) = some (.int .i64 x46)) ∧
  ∃ (x49 : Int), (∀ w28, vS_9 w28 → w28.cell? (⟨w.heap.size, 1, none⟩ : Addr) = some (.int .i64 x49)) ∧
  R (.tuple #[(.int .i64 x46), (.int .i64 x49)]) w26) ∧
  ((part == (8 : Int)) = false →
  ((part == (9 : Int)) = true →
  ∃ vS_10 : World → Prop, ∀ w29 : World, w29 = w1.drew → vS_10 w29 ∧
  ∃ (x46_1 : Int), (∀ w30, vS_10 w30 → w30.cell? (⟨w.heap.size, 4, none⟩ : Addr) = some (.int .i64 x46_1)) ∧
  ∃ (x49_1 : Int), (∀ w31, vS_10 w31 → w31.cell? (⟨w.heap.size, 1, none⟩ : Addr) = some (.int .i64 x49_1)) ∧
  R (.tuple #[(.int .i64 x46_1), (.int .i64 x49_1)]) w29) ∧
  ((part == (9 : Int)) = false →
  ((part == (10 : Int)) = true →
  ∃ vS_11 : World → Prop, ∀ w32 : World, w32 = w1.drew → vS_11 w32 ∧
  ∃ (x54 : Int), (∀ w33, vS_11 w33 → w33.cell? (⟨w.heap.size, 1, none⟩ : Addr) = some (.int .i64 x54)) ∧
  ∃ (x57 : Int), (∀ w34, vS_11 w34 → w34.cell? (⟨w.heap.size, 4, none⟩ : Addr) = some (.int .i64 x57)) ∧
  R (.tuple #[(.int .i64 x54), (.int .i64 x57)]) w32) ∧
  ((part == (10 : Int)) = false →
  R (.tuple #[(.int .i64 0), (.int .i64 0)]) w1))))))))))))
theorem conf_Shape_side.vc_eq (s0 : Int) (s1 : Int) (s2 : Int) (s3 : Int) (s4 : Int) (s5 : Int) (part : Int) (w : World) (R : Value → World → Prop) : fnV Tryz.prog Tryz.f77 (.c (.tk 0 (.tk 1 (.tk 2 (.tk 3 (.tk 4 (.tk 5 (.tk 6 (.tk 7 (.fin .nil))))))))) (.c (.tk 0 (.tk 1 (.tk 2 (.tk 3 (.tk 4 (.tk 5 (.tk 6 (.tk 7 (.fin .nil))))))))) (.c (.y (.tk 0 (.tk 1 (.tk 2 (.tk 3 (.tk 4 (.fin .nil))))))) (.c (.y (.tk 0 (.tk 1 (.tk 2 (.tk 3 (.tk 4 (.fin .nil))))))) (.c (.tk 0 (.tk 1 (.tk 2 (.tk 3 (.tk 4 (.fin .nil)))))) (.c (.y (.tk 0 (.tk 1 (.tk 2 (.tk 3 (.tk 4 (.tk 5 (.tk 6 (.tk 7 (.fin .nil)))))))))) (.c (.y (.tk 0 (.tk 1 (.tk 2 (.tk 3 (.tk 4 (.tk 5 (.tk 6 (.tk 7 (.fin .nil)))))))))) (.c (.y (.tk 0 (.tk 1 (.tk 2 (.tk 3 (.tk 4 (.tk 5 (.tk 6 (.tk 7 (.fin .nil)))))))))) (.c (.tk 0 (.tk 1 (.tk 2 (.tk 3 (.tk 4 (.tk 5 (.tk 6 (.tk 7 (.fin .nil))))))))) (.c (.y (.tk 0 (.tk 1 (.tk 2 (.tk 3 (.tk 4 (.tk 5 (.tk 6 (.tk 7 (.fin .nil)))))))))) (.c (.tk 0 (.tk 1 (.tk 2 (.tk 3 (.tk 4 (.tk 5 (.tk 6 (.tk 7 (.fin .nil))))))))) (.c (.tk 0 (.tk 1 (.tk 2 (.tk 3 (.tk 4 (.tk 5 (.tk 6 (.tk 7 (.fin .nil))))))))) .nil)))))))))))) [(.agg #[(.int .i64 s0), (.int .i64 s1), (.int .i64 s2), (.int .i64 s3), (.int .i64 s4), (.int .i64 s5)]), (.int .i64 part)] w R = conf_Shape_side.vc s0 s1 s2 s3 s4 s5 part w R := by kernel_rfl
theorem conf_Shape_side.calls (s0 : Int) (s1 : Int) (s2 : Int) (s3 : Int) (s4 : Int) (s5 : Int) (part : Int) {w : World} {R : Value → World → Prop} (h : conf_Shape_side.vc s0 s1 s2 s3 s4 s5 part w R) : Calls Tryz.prog 77 #[(.agg #[(.int .i64 s0), (.int .i64 s1), (.int .i64 s2), (.int .i64 s3), (.int .i64 s4), (.int .i64 s5)]), (.int .i64 part)] w (Ret R) :=
  calls_V fit Tryz.func77 (.c (.tk 0 (.tk 1 (.tk 2 (.tk 3 (.tk 4 (.tk 5 (.tk 6 (.tk 7 (.fin .nil))))))))) (.c (.tk 0 (.tk 1 (.tk 2 (.tk 3 (.tk 4 (.tk 5 (.tk 6 (.tk 7 (.fin .nil))))))))) (.c (.y (.tk 0 (.tk 1 (.tk 2 (.tk 3 (.tk 4 (.fin .nil))))))) (.c (.y (.tk 0 (.tk 1 (.tk 2 (.tk 3 (.tk 4 (.fin .nil))))))) (.c (.tk 0 (.tk 1 (.tk 2 (.tk 3 (.tk 4 (.fin .nil)))))) (.c (.y (.tk 0 (.tk 1 (.tk 2 (.tk 3 (.tk 4 (.tk 5 (.tk 6 (.tk 7 (.fin .nil)))))))))) (.c (.y (.tk 0 (.tk 1 (.tk 2 (.tk 3 (.tk 4 (.tk 5 (.tk 6 (.tk 7 (.fin .nil)))))))))) (.c (.y (.tk 0 (.tk 1 (.tk 2 (.tk 3 (.tk 4 (.tk 5 (.tk 6 (.tk 7 (.fin .nil)))))))))) (.c (.tk 0 (.tk 1 (.tk 2 (.tk 3 (.tk 4 (.tk 5 (.tk 6 (.tk 7 (.fin .nil))))))))) (.c (.y (.tk 0 (.tk 1 (.tk 2 (.tk 3 (.tk 4 (.tk 5 (.tk 6 (.tk 7 (.fin .nil)))))))))) (.c (.tk 0 (.tk 1 (.tk 2 (.tk 3 (.tk 4 (.tk 5 (.tk 6 (.tk 7 (.fin .nil))))))))) (.c (.tk 0 (.tk 1 (.tk 2 (.tk 3 (.tk 4 (.tk 5 (.tk 6 (.tk 7 (.fin .nil))))))))) .nil)))))))))))) (by rw [show (#[(.agg #[(.int .i64 s0), (.int .i64 s1), (.int .i64 s2), (.int .i64 s3), (.int .i64 s4), (.int .i64 s5)]), (.int .i64 part)] : Array Value).toList = [(.agg #[(.int .i64 s0), (.int .i64 s1), (.int .i64 s2), (.int .i64 s3), (.int .i64 s4), (.int .i64 s5)]), (.int .i64 part)] from rfl, conf_Shape_side.vc_eq]; exact h)
/-- function 58 -/
def conf_Shape_span.vc (s0 : Int) (s1 : Int) (s2 : Int) (s3 : Int) (s4 : Int) (s5 : Int) (vfrom : Int) (to : Int) (w : World) (R : Value → World → Prop) : Prop :=
  ∀ w1 : World, w1 = w.alloc (.cells #[(.int .i64 s0), (.int .i64 s1), (.int .i64 s2), (.int .i64 s3), (.int .i64 s4), (.int .i64 s5)] 55 (0, 0)) →
  ∃ vI : Int → Int → Nat → World → Prop, (∃ vk_2 : Nat, vI 0 vfrom vk_2 w1) ∧
  ∀ (jk : Nat → Value) (n : Int) (part : Int), ∀ (vk : Nat) (w2 : World), vI n part vk w2 →
  (decide (part ≤ to) = true →
  ∃ (x180 : Int), ∃ (x181 : Int), ∃ (x182 : Int), ∃ (x183 : Int), ∃ (x184 : Int), ∃ (x185 : Int), (w2.cell? (⟨w.heap.size, 0, none⟩ : Addr) = some (.int .i64 x180) ∧ w2.cell? (⟨w.heap.size, 1, none⟩ : Addr) = some (.int .i64 x181) ∧ w2.cell? (⟨w.heap.size, 2, none⟩ : Addr) = some (.int .i64 x182) ∧ w2.cell? (⟨w.heap.size, 3, none⟩ : Addr) = some (.int .i64 x183) ∧ w2.cell? (⟨w.heap.size, 4, none⟩ : Addr) = some (.int .i64 x184) ∧ w2.cell? (⟨w.heap.size, 5, none⟩ : Addr) = some (.int .i64 x185)) ∧
  Calls Tryz.prog 77 #[(.agg #[(.int .i64 x180), (.int .i64 x181), (.int .i64 x182), (.int .i64 x183), (.int .i64 x184), (.int .i64 x185)]), (.int .i64 part)] w2 (Ret fun v w3 => ∃ (x20_0 : Int), ∃ (x20_1 : Int), v = (.tuple #[(.int .i64 x20_0), (.int .i64 x20_1)]) ∧
  ∃ vk_1 : Nat, vk_1 < vk ∧ vI (IntKind.i64.wrap (n + (IntKind.i64.wrap (x20_0 * x20_1)))) (IntKind.i64.wrap (part + 1)) vk_1 w3)) ∧
  (decide (part ≤ to) = false →
  R (.int .i64 n) w2)
theorem conf_Shape_span.vc_eq (s0 : Int) (s1 : Int) (s2 : Int) (s3 : Int) (s4 : Int) (s5 : Int) (vfrom : Int) (to : Int) (w : World) (R : Value → World → Prop) : fnV Tryz.prog Tryz.f58 (.lp [(7, some (.int .i64)), (8, some (.int .i64)), (9, none), (10, none), (12, none), (13, none), (14, none), (15, none), (16, none), (17, none), (18, none), (19, none), (20, none), (21, none), (22, none), (23, none), (24, none), (25, none), (26, none), (27, none)] (.c .nil .nil)) [(.agg #[(.int .i64 s0), (.int .i64 s1), (.int .i64 s2), (.int .i64 s3), (.int .i64 s4), (.int .i64 s5)]), (.int .i64 vfrom), (.int .i64 to)] w R = conf_Shape_span.vc s0 s1 s2 s3 s4 s5 vfrom to w R := by kernel_rfl
theorem conf_Shape_span.calls (s0 : Int) (s1 : Int) (s2 : Int) (s3 : Int) (s4 : Int) (s5 : Int) (vfrom : Int) (to : Int) {w : World} {R : Value → World → Prop} (h : conf_Shape_span.vc s0 s1 s2 s3 s4 s5 vfrom to w R) : Calls Tryz.prog 58 #[(.agg #[(.int .i64 s0), (.int .i64 s1), (.int .i64 s2), (.int .i64 s3), (.int .i64 s4), (.int .i64 s5)]), (.int .i64 vfrom), (.int .i64 to)] w (Ret R) :=
  calls_V fit Tryz.func58 (.lp [(7, some (.int .i64)), (8, some (.int .i64)), (9, none), (10, none), (12, none), (13, none), (14, none), (15, none), (16, none), (17, none), (18, none), (19, none), (20, none), (21, none), (22, none), (23, none), (24, none), (25, none), (26, none), (27, none)] (.c .nil .nil)) (by rw [show (#[(.agg #[(.int .i64 s0), (.int .i64 s1), (.int .i64 s2), (.int .i64 s3), (.int .i64 s4), (.int .i64 s5)]), (.int .i64 vfrom), (.int .i64 to)] : Array Value).toList = [(.agg #[(.int .i64 s0), (.int .i64 s1), (.int .i64 s2), (.int .i64 s3), (.int .i64 s4), (.int .i64 s5)]), (.int .i64 vfrom), (.int .i64 to)] from rfl, conf_Shape_span.vc_eq]; exact h)
/-- function 35 -/
def conf_Shape_all.vc (s0 : Int) (s1 : Int) (s2 : Int) (s3 : Int) (s4 : Int) (s5 : Int) (w : World) (R : Value → World → Prop) : Prop :=
  ∀ w1 : World, w1 = w.alloc (.cells #[(.int .i64 s0), (.int .i64 s1), (.int .i64 s2), (.int .i64 s3), (.int .i64 s4), (.int .i64 s5)] 55 (0, 0)) →
  ∃ vS : World → Prop, ∀ w2 : World, w2 = w1.drew → vS w2 ∧
  ∃ (x30 : Int), ∃ (x31 : Int), ∃ (x32 : Int), ∃ (x33 : Int), ∃ (x34 : Int), ∃ (x35 : Int), ((∀ w3, vS w3 → w3.cell? (⟨w.heap.size, 0, none⟩ : Addr) = some (.int .i64 x30)) ∧ (∀ w3, vS w3 → w3.cell? (⟨w.heap.size, 1, none⟩ : Addr) = some (.int .i64 x31)) ∧ (∀ w3, vS w3 → w3.cell? (⟨w.heap.size, 2, none⟩ : Addr) = some (.int .i64 x32)) ∧ (∀ w3, vS w3 → w3.cell? (⟨w.heap.size, 3, none⟩ : Addr) = some (.int .i64 x33)) ∧ (∀ w3, vS w3 → w3.cell? (⟨w.heap.size, 4, none⟩ : Addr) = some (.int .i64 x34)) ∧ (∀ w3, vS w3 → w3.cell? (⟨w.heap.size, 5, none⟩ : Addr) = some (.int .i64 x35))) ∧
  ∃ (x7 : Int), (∀ w4, vS w4 → w4.cell? (⟨w.heap.size, 3, none⟩ : Addr) = some (.int .i64 x7)) ∧
  ∃ (x80 : Int), ∃ (x81 : Int), ∃ (x82 : Int), ∃ (x83 : Int), ∃ (x84 : Int), ∃ (x85 : Int), ((∀ w5, vS w5 → w5.cell? (⟨w.heap.size, 0, none⟩ : Addr) = some (.int .i64 x80)) ∧ (∀ w5, vS w5 → w5.cell? (⟨w.heap.size, 1, none⟩ : Addr) = some (.int .i64 x81)) ∧ (∀ w5, vS w5 → w5.cell? (⟨w.heap.size, 2, none⟩ : Addr) = some (.int .i64 x82)) ∧ (∀ w5, vS w5 → w5.cell? (⟨w.heap.size, 3, none⟩ : Addr) = some (.int .i64 x83)) ∧ (∀ w5, vS w5 → w5.cell? (⟨w.heap.size, 4, none⟩ : Addr) = some (.int .i64 x84)) ∧ (∀ w5, vS w5 → w5.cell? (⟨w.heap.size, 5, none⟩ : Addr) = some (.int .i64 x85))) ∧
  ∃ (x120 : Int), ∃ (x121 : Int), ∃ (x122 : Int), ∃ (x123 : Int), ∃ (x124 : Int), ∃ (x125 : Int), ((∀ w6, vS w6 → w6.cell? (⟨w.heap.size, 0, none⟩ : Addr) = some (.int .i64 x120)) ∧ (∀ w6, vS w6 → w6.cell? (⟨w.heap.size, 1, none⟩ : Addr) = some (.int .i64 x121)) ∧ (∀ w6, vS w6 → w6.cell? (⟨w.heap.size, 2, none⟩ : Addr) = some (.int .i64 x122)) ∧ (∀ w6, vS w6 → w6.cell? (⟨w.heap.size, 3, none⟩ : Addr) = some (.int .i64 x123)) ∧ (∀ w6, vS w6 → w6.cell? (⟨w.heap.size, 4, none⟩ : Addr) = some (.int .i64 x124)) ∧ (∀ w6, vS w6 → w6.cell? (⟨w.heap.size, 5, none⟩ : Addr) = some (.int .i64 x125))) ∧
  Calls Tryz.prog 58 #[(.agg #[(.int .i64 x30), (.int .i64 x31), (.int .i64 x32), (.int .i64 x33), (.int .i64 x34), (.int .i64 x35)]), (.int .i64 0), (.int .i64 1)] w2 (Ret fun v w7 => ∃ (x4 : Int), v = (.int .i64 x4) ∧
  vS w7 ∧
  Calls Tryz.prog 58 #[(.agg #[(.int .i64 x80), (.int .i64 x81), (.int .i64 x82), (.int .i64 x83), (.int .i64 x84), (.int .i64 x85)]), (.int .i64 2), (.int .i64 10)] w7 (Ret fun v_1 w8 => ∃ (x9 : Int), v_1 = (.int .i64 x9) ∧
  vS w8 ∧
  Calls Tryz.prog 58 #[(.agg #[(.int .i64 x120), (.int .i64 x121), (.int .i64 x122), (.int .i64 x123), (.int .i64 x124), (.int .i64 x125)]), (.int .i64 11), (.int .i64 11)] w8 (Ret fun v_2 w9 => ∃ (x13 : Int), v_2 = (.int .i64 x13) ∧
  vS w9 ∧
  R (.int .i64 (IntKind.i64.wrap ((IntKind.i64.wrap (x4 + (IntKind.i64.wrap (x7 * x9)))) + x13))) w9)))
theorem conf_Shape_all.vc_eq (s0 : Int) (s1 : Int) (s2 : Int) (s3 : Int) (s4 : Int) (s5 : Int) (w : World) (R : Value → World → Prop) : fnV Tryz.prog Tryz.f35 (.tk 0 (.tk 2 (.tk 3 (.tk 4 (.tk 5 (.tk 9 (.alt 1 (.alt 6 (.tk 7 (.tk 8 (.alt 10 (.tk 11 (.tk 12 (.fin .nil))) .nil))) .nil) .nil))))))) [(.agg #[(.int .i64 s0), (.int .i64 s1), (.int .i64 s2), (.int .i64 s3), (.int .i64 s4), (.int .i64 s5)])] w R = conf_Shape_all.vc s0 s1 s2 s3 s4 s5 w R := by kernel_rfl
theorem conf_Shape_all.calls (s0 : Int) (s1 : Int) (s2 : Int) (s3 : Int) (s4 : Int) (s5 : Int) {w : World} {R : Value → World → Prop} (h : conf_Shape_all.vc s0 s1 s2 s3 s4 s5 w R) : Calls Tryz.prog 35 #[(.agg #[(.int .i64 s0), (.int .i64 s1), (.int .i64 s2), (.int .i64 s3), (.int .i64 s4), (.int .i64 s5)])] w (Ret R) :=
  calls_V fit Tryz.func35 (.tk 0 (.tk 2 (.tk 3 (.tk 4 (.tk 5 (.tk 9 (.alt 1 (.alt 6 (.tk 7 (.tk 8 (.alt 10 (.tk 11 (.tk 12 (.fin .nil))) .nil))) .nil) .nil))))))) (by rw [show (#[(.agg #[(.int .i64 s0), (.int .i64 s1), (.int .i64 s2), (.int .i64 s3), (.int .i64 s4), (.int .i64 s5)])] : Array Value).toList = [(.agg #[(.int .i64 s0), (.int .i64 s1), (.int .i64 s2), (.int .i64 s3), (.int .i64 s4), (.int .i64 s5)])] from rfl, conf_Shape_all.vc_eq]; exact h)
/-- function 17 -/
def conf_Good.vc (c0 : Int) (c1 : Int) (c2 : Int) (c3 : Int) (c4 : Int) (c5 : Int) (w : World) (R : Value → World → Prop) : Prop :=
  ∀ w1 : World, w1 = w.alloc (.cells #[(.int .i64 c0), (.int .i64 c1), (.int .i64 c2), (.int .i64 c3), (.int .i64 c4), (.int .i64 c5)] 31 (0, 0)) →
  ∃ (x4 : Int), w1.cell? (⟨w.heap.size, 0, none⟩ : Addr) = some (.int .i64 x4) ∧
  Calls Tryz.prog 34 #[(.int .i64 x4), (.int .i64 2), (.int .i64 32)] w1 (Ret fun v w2 => ∃ (x5 : Bool), v = (.bool x5) ∧
  ((!x5) = true →
  R (.bool false) w2) ∧
  ((!x5) = false →
  ∃ (x9 : Int), w2.cell? (⟨w.heap.size, 1, none⟩ : Addr) = some (.int .i64 x9) ∧
  Calls Tryz.prog 34 #[(.int .i64 x9), (.int .i64 1), (.int .i64 16)] w2 (Ret fun v_1 w3 => ∃ (x10 : Bool), v_1 = (.bool x10) ∧
  ((!x10) = true →
  R (.bool false) w3) ∧
  ((!x10) = false →
  ∃ (x15 : Int), w3.cell? (⟨w.heap.size, 2, none⟩ : Addr) = some (.int .i64 x15) ∧
  Calls Tryz.prog 34 #[(.int .i64 x15), (.int .i64 1), (.int .i64 4)] w3 (Ret fun v_2 w4 => ∃ (x16 : Bool), v_2 = (.bool x16) ∧
  ((!x16) = true →
  R (.bool false) w4) ∧
  ((!x16) = false →
  ∃ (x20 : Int), w4.cell? (⟨w.heap.size, 3, none⟩ : Addr) = some (.int .i64 x20) ∧
  Calls Tryz.prog 34 #[(.int .i64 x20), (.int .i64 1), (.int .i64 3)] w4 (Ret fun v_3 w5 => ∃ (x21 : Bool), v_3 = (.bool x21) ∧
  ((!x21) = true →
  R (.bool false) w5) ∧
  ((!x21) = false →
  ∃ (x25 : Int), w5.cell? (⟨w.heap.size, 4, none⟩ : Addr) = some (.int .i64 x25) ∧
  Calls Tryz.prog 34 #[(.int .i64 x25), (.int .i64 1), (.int .i64 32)] w5 (Ret fun v_4 w6 => ∃ (x26 : Bool), v_4 = (.bool x26) ∧
  ((!x26) = true →
  R (.bool false) w6) ∧
  ((!x26) = false →
  ∃ (x31 : Int), w6.cell? (⟨w.heap.size, 5, none⟩ : Addr) = some (.int .i64 x31) ∧
  Calls Tryz.prog 34 #[(.int .i64 x31), (.int .i64 1), (.int .i64 32)] w6 (Ret fun v_5 w7 => ∃ (x32 : Bool), v_5 = (.bool x32) ∧
  ((!x32) = true →
  R (.bool false) w7) ∧
  ((!x32) = false →
  ∃ (x36 : Int), w7.cell? (⟨w.heap.size, 1, none⟩ : Addr) = some (.int .i64 x36) ∧
  ∃ (x38 : Int), w7.cell? (⟨w.heap.size, 2, none⟩ : Addr) = some (.int .i64 x38) ∧
  x38 ≠ 0 ∧
  (((Int.tmod x36 x38) == (0 : Int)) = true →
  ∃ (x420 : Int), ∃ (x421 : Int), ∃ (x422 : Int), ∃ (x423 : Int), ∃ (x424 : Int), ∃ (x425 : Int), (w7.cell? (⟨w.heap.size, 0, none⟩ : Addr) = some (.int .i64 x420) ∧ w7.cell? (⟨w.heap.size, 1, none⟩ : Addr) = some (.int .i64 x421) ∧ w7.cell? (⟨w.heap.size, 2, none⟩ : Addr) = some (.int .i64 x422) ∧ w7.cell? (⟨w.heap.size, 3, none⟩ : Addr) = some (.int .i64 x423) ∧ w7.cell? (⟨w.heap.size, 4, none⟩ : Addr) = some (.int .i64 x424) ∧ w7.cell? (⟨w.heap.size, 5, none⟩ : Addr) = some (.int .i64 x425)) ∧
  Calls Tryz.prog 35 #[(.agg #[(.int .i64 x420), (.int .i64 x421), (.int .i64 x422), (.int .i64 x423), (.int .i64 x424), (.int .i64 x425)])] w7 (Ret fun v_6 w8 => ∃ (x44 : Int), v_6 = (.int .i64 x44) ∧
  R (.bool (decide (x44 ≤ (8192 : Int)))) w8)) ∧
  (((Int.tmod x36 x38) == (0 : Int)) = false →
  R (.bool false) w7)))))))))))))
theorem conf_Good.vc_eq (c0 : Int) (c1 : Int) (c2 : Int) (c3 : Int) (c4 : Int) (c5 : Int) (w : World) (R : Value → World → Prop) : fnV Tryz.prog Tryz.f17 (.at_ 1 4 (.k .nil) (.at_ 1 10 (.k .nil) (.c .nil (.at_ 3 4 (.k .nil) (.at_ 3 10 (.k .nil) (.c .nil (.at_ 5 6 .nil .nil))))))) [(.agg #[(.int .i64 c0), (.int .i64 c1), (.int .i64 c2), (.int .i64 c3), (.int .i64 c4), (.int .i64 c5)])] w R = conf_Good.vc c0 c1 c2 c3 c4 c5 w R := by kernel_rfl
theorem conf_Good.calls (c0 : Int) (c1 : Int) (c2 : Int) (c3 : Int) (c4 : Int) (c5 : Int) {w : World} {R : Value → World → Prop} (h : conf_Good.vc c0 c1 c2 c3 c4 c5 w R) : Calls Tryz.prog 17 #[(.agg #[(.int .i64 c0), (.int .i64 c1), (.int .i64 c2), (.int .i64 c3), (.int .i64 c4), (.int .i64 c5)])] w (Ret R) :=
  calls_V fit Tryz.func17 (.at_ 1 4 (.k .nil) (.at_ 1 10 (.k .nil) (.c .nil (.at_ 3 4 (.k .nil) (.at_ 3 10 (.k .nil) (.c .nil (.at_ 5 6 .nil .nil))))))) (by rw [show (#[(.agg #[(.int .i64 c0), (.int .i64 c1), (.int .i64 c2), (.int .i64 c3), (.int .i64 c4), (.int .i64 c5)])] : Array Value).toList = [(.agg #[(.int .i64 c0), (.int .i64 c1), (.int .i64 c2), (.int .i64 c3), (.int .i64 c4), (.int .i64 c5)])] from rfl, conf_Good.vc_eq]; exact h)
/-- function 18 -/
def conf_Shape_Size.vc (s0 : Int) (s1 : Int) (s2 : Int) (s3 : Int) (s4 : Int) (s5 : Int) (w : World) (R : Value → World → Prop) : Prop :=
  ∀ w1 : World, w1 = w.alloc (.cells #[(.int .i64 s0), (.int .i64 s1), (.int .i64 s2), (.int .i64 s3), (.int .i64 s4), (.int .i64 s5)] 55 (0, 0)) →
  ∃ (x40 : Int), ∃ (x41 : Int), ∃ (x42 : Int), ∃ (x43 : Int), ∃ (x44 : Int), ∃ (x45 : Int), (w1.cell? (⟨w.heap.size, 0, none⟩ : Addr) = some (.int .i64 x40) ∧ w1.cell? (⟨w.heap.size, 1, none⟩ : Addr) = some (.int .i64 x41) ∧ w1.cell? (⟨w.heap.size, 2, none⟩ : Addr) = some (.int .i64 x42) ∧ w1.cell? (⟨w.heap.size, 3, none⟩ : Addr) = some (.int .i64 x43) ∧ w1.cell? (⟨w.heap.size, 4, none⟩ : Addr) = some (.int .i64 x44) ∧ w1.cell? (⟨w.heap.size, 5, none⟩ : Addr) = some (.int .i64 x45)) ∧
  Calls Tryz.prog 17 #[(.agg #[(.int .i64 x40), (.int .i64 x41), (.int .i64 x42), (.int .i64 x43), (.int .i64 x44), (.int .i64 x45)])] w1 (Ret fun v w2 => ∃ (x5 : Bool), v = (.bool x5) ∧
  ((!x5) = true →
  R (.int .i64 0) w2) ∧
  ((!x5) = false →
  ∃ (x70 : Int), ∃ (x71 : Int), ∃ (x72 : Int), ∃ (x73 : Int), ∃ (x74 : Int), ∃ (x75 : Int), (w2.cell? (⟨w.heap.size, 0, none⟩ : Addr) = some (.int .i64 x70) ∧ w2.cell? (⟨w.heap.size, 1, none⟩ : Addr) = some (.int .i64 x71) ∧ w2.cell? (⟨w.heap.size, 2, none⟩ : Addr) = some (.int .i64 x72) ∧ w2.cell? (⟨w.heap.size, 3, none⟩ : Addr) = some (.int .i64 x73) ∧ w2.cell? (⟨w.heap.size, 4, none⟩ : Addr) = some (.int .i64 x74) ∧ w2.cell? (⟨w.heap.size, 5, none⟩ : Addr) = some (.int .i64 x75)) ∧
  Calls Tryz.prog 35 #[(.agg #[(.int .i64 x70), (.int .i64 x71), (.int .i64 x72), (.int .i64 x73), (.int .i64 x74), (.int .i64 x75)])] w2 (Ret fun v_1 w3 => ∃ (x8 : Int), v_1 = (.int .i64 x8) ∧
  R (.int .i64 x8) w3)))
theorem conf_Shape_Size.vc_eq (s0 : Int) (s1 : Int) (s2 : Int) (s3 : Int) (s4 : Int) (s5 : Int) (w : World) (R : Value → World → Prop) : fnV Tryz.prog Tryz.f18 (.c .nil .nil) [(.agg #[(.int .i64 s0), (.int .i64 s1), (.int .i64 s2), (.int .i64 s3), (.int .i64 s4), (.int .i64 s5)])] w R = conf_Shape_Size.vc s0 s1 s2 s3 s4 s5 w R := by kernel_rfl
theorem conf_Shape_Size.calls (s0 : Int) (s1 : Int) (s2 : Int) (s3 : Int) (s4 : Int) (s5 : Int) {w : World} {R : Value → World → Prop} (h : conf_Shape_Size.vc s0 s1 s2 s3 s4 s5 w R) : Calls Tryz.prog 18 #[(.agg #[(.int .i64 s0), (.int .i64 s1), (.int .i64 s2), (.int .i64 s3), (.int .i64 s4), (.int .i64 s5)])] w (Ret R) :=
  calls_V fit Tryz.func18 (.c .nil .nil) (by rw [show (#[(.agg #[(.int .i64 s0), (.int .i64 s1), (.int .i64 s2), (.int .i64 s3), (.int .i64 s4), (.int .i64 s5)])] : Array Value).toList = [(.agg #[(.int .i64 s0), (.int .i64 s1), (.int .i64 s2), (.int .i64 s3), (.int .i64 s4), (.int .i64 s5)])] from rfl, conf_Shape_Size.vc_eq]; exact h)
/-- function 6 -/
def brain_Of.vc (c0 : Int) (c1 : Int) (c2 : Int) (c3 : Int) (c4 : Int) (c5 : Int) (weights : ByteArray) (w : World) (R : Value → World → Prop) : Prop :=
  ∀ w1 : World, w1 = w.alloc (.cells #[(.int .i64 c0), (.int .i64 c1), (.int .i64 c2), (.int .i64 c3), (.int .i64 c4), (.int .i64 c5)] 31 (0, 0)) →
  ∃ (x70 : Int), ∃ (x71 : Int), ∃ (x72 : Int), ∃ (x73 : Int), ∃ (x74 : Int), ∃ (x75 : Int), (w1.cell? (⟨w.heap.size, 0, none⟩ : Addr) = some (.int .i64 x70) ∧ w1.cell? (⟨w.heap.size, 1, none⟩ : Addr) = some (.int .i64 x71) ∧ w1.cell? (⟨w.heap.size, 2, none⟩ : Addr) = some (.int .i64 x72) ∧ w1.cell? (⟨w.heap.size, 3, none⟩ : Addr) = some (.int .i64 x73) ∧ w1.cell? (⟨w.heap.size, 4, none⟩ : Addr) = some (.int .i64 x74) ∧ w1.cell? (⟨w.heap.size, 5, none⟩ : Addr) = some (.int .i64 x75)) ∧
  ∀ w2 : World, w2 = w1.alloc (.cells #[(.int .i64 0), (.int .i64 0), (.int .i64 0), (.int .i64 0), (.int .i64 0), (.int .i64 0)] 55 (0, 0)) →
  (((∃ u, w2.cell? (⟨w1.heap.size, 0, none⟩ : Addr) = some u) ∧ w2.frozen? (⟨w1.heap.size, 0, none⟩ : Addr) = false) ∧ ((∃ u, w2.cell? (⟨w1.heap.size, 1, none⟩ : Addr) = some u) ∧ w2.frozen? (⟨w1.heap.size, 1, none⟩ : Addr) = false) ∧ ((∃ u, w2.cell? (⟨w1.heap.size, 2, none⟩ : Addr) = some u) ∧ w2.frozen? (⟨w1.heap.size, 2, none⟩ : Addr) = false) ∧ ((∃ u, w2.cell? (⟨w1.heap.size, 3, none⟩ : Addr) = some u) ∧ w2.frozen? (⟨w1.heap.size, 3, none⟩ : Addr) = false) ∧ ((∃ u, w2.cell? (⟨w1.heap.size, 4, none⟩ : Addr) = some u) ∧ w2.frozen? (⟨w1.heap.size, 4, none⟩ : Addr) = false) ∧ ((∃ u, w2.cell? (⟨w1.heap.size, 5, none⟩ : Addr) = some u) ∧ w2.frozen? (⟨w1.heap.size, 5, none⟩ : Addr) = false)) ∧ ∀ w3 : World, w3 = ((((((w2.setCell (⟨w1.heap.size, 0, none⟩ : Addr) (.int .i64 x70)).setCell (⟨w1.heap.size, 1, none⟩ : Addr) (.int .i64 x71)).setCell (⟨w1.heap.size, 2, none⟩ : Addr) (.int .i64 x72)).setCell (⟨w1.heap.size, 3, none⟩ : Addr) (.int .i64 x73)).setCell (⟨w1.heap.size, 4, none⟩ : Addr) (.int .i64 x74)).setCell (⟨w1.heap.size, 5, none⟩ : Addr) (.int .i64 x75)) →
  ∃ (x100 : Int), ∃ (x101 : Int), ∃ (x102 : Int), ∃ (x103 : Int), ∃ (x104 : Int), ∃ (x105 : Int), (w3.cell? (⟨w.heap.size, 0, none⟩ : Addr) = some (.int .i64 x100) ∧ w3.cell? (⟨w.heap.size, 1, none⟩ : Addr) = some (.int .i64 x101) ∧ w3.cell? (⟨w.heap.size, 2, none⟩ : Addr) = some (.int .i64 x102) ∧ w3.cell? (⟨w.heap.size, 3, none⟩ : Addr) = some (.int .i64 x103) ∧ w3.cell? (⟨w.heap.size, 4, none⟩ : Addr) = some (.int .i64 x104) ∧ w3.cell? (⟨w.heap.size, 5, none⟩ : Addr) = some (.int .i64 x105)) ∧
  Calls Tryz.prog 17 #[(.agg #[(.int .i64 x100), (.int .i64 x101), (.int .i64 x102), (.int .i64 x103), (.int .i64 x104), (.int .i64 x105)])] w3 (Ret fun v w4 => ∃ (x11 : Bool), v = (.bool x11) ∧
  ((!x11) = true →
  R (.tuple #[(.pointer none), (.int .i64 1)]) w4) ∧
  ((!x11) = false →
  ∃ (x160 : Int), ∃ (x161 : Int), ∃ (x162 : Int), ∃ (x163 : Int), ∃ (x164 : Int), ∃ (x165 : Int), (w4.cell? (⟨w1.heap.size, 0, none⟩ : Addr) = some (.int .i64 x160) ∧ w4.cell? (⟨w1.heap.size, 1, none⟩ : Addr) = some (.int .i64 x161) ∧ w4.cell? (⟨w1.heap.size, 2, none⟩ : Addr) = some (.int .i64 x162) ∧ w4.cell? (⟨w1.heap.size, 3, none⟩ : Addr) = some (.int .i64 x163) ∧ w4.cell? (⟨w1.heap.size, 4, none⟩ : Addr) = some (.int .i64 x164) ∧ w4.cell? (⟨w1.heap.size, 5, none⟩ : Addr) = some (.int .i64 x165)) ∧
  Calls Tryz.prog 18 #[(.agg #[(.int .i64 x160), (.int .i64 x161), (.int .i64 x162), (.int .i64 x163), (.int .i64 x164), (.int .i64 x165)])] w4 (Ret fun v_1 w5 => ∃ (x17 : Int), v_1 = (.int .i64 x17) ∧
  ((((weights.size : Nat) : Int) != x17) = true →
  R (.tuple #[(.pointer none), (.int .i64 5)]) w5) ∧
  ((((weights.size : Nat) : Int) != x17) = false →
  ∃ (x190 : Int), ∃ (x191 : Int), ∃ (x192 : Int), ∃ (x193 : Int), ∃ (x194 : Int), ∃ (x195 : Int), (w5.cell? (⟨w1.heap.size, 0, none⟩ : Addr) = some (.int .i64 x190) ∧ w5.cell? (⟨w1.heap.size, 1, none⟩ : Addr) = some (.int .i64 x191) ∧ w5.cell? (⟨w1.heap.size, 2, none⟩ : Addr) = some (.int .i64 x192) ∧ w5.cell? (⟨w1.heap.size, 3, none⟩ : Addr) = some (.int .i64 x193) ∧ w5.cell? (⟨w1.heap.size, 4, none⟩ : Addr) = some (.int .i64 x194) ∧ w5.cell? (⟨w1.heap.size, 5, none⟩ : Addr) = some (.int .i64 x195)) ∧
  ∀ w6 : World, w6 = w5.alloc (.cells #[(.int .i64 x190), (.int .i64 x191), (.int .i64 x192), (.int .i64 x193), (.int .i64 x194), (.int .i64 x195), (.string weights)] 59 (0, 0)) →
  R (.tuple #[(.pointer (some (⟨w5.heap.size, 0, none⟩ : Addr))), (.int .i64 0)]) w6))))
theorem brain_Of.vc_eq (c0 : Int) (c1 : Int) (c2 : Int) (c3 : Int) (c4 : Int) (c5 : Int) (weights : ByteArray) (w : World) (R : Value → World → Prop) : fnV Tryz.prog Tryz.f6 (.c .nil (.c .nil .nil)) [(.agg #[(.int .i64 c0), (.int .i64 c1), (.int .i64 c2), (.int .i64 c3), (.int .i64 c4), (.int .i64 c5)]), (.string weights)] w R = brain_Of.vc c0 c1 c2 c3 c4 c5 weights w R := by kernel_rfl
theorem brain_Of.calls (c0 : Int) (c1 : Int) (c2 : Int) (c3 : Int) (c4 : Int) (c5 : Int) (weights : ByteArray) {w : World} {R : Value → World → Prop} (h : brain_Of.vc c0 c1 c2 c3 c4 c5 weights w R) : Calls Tryz.prog 6 #[(.agg #[(.int .i64 c0), (.int .i64 c1), (.int .i64 c2), (.int .i64 c3), (.int .i64 c4), (.int .i64 c5)]), (.string weights)] w (Ret R) :=
  calls_V fit Tryz.func6 (.c .nil (.c .nil .nil)) (by rw [show (#[(.agg #[(.int .i64 c0), (.int .i64 c1), (.int .i64 c2), (.int .i64 c3), (.int .i64 c4), (.int .i64 c5)]), (.string weights)] : Array Value).toList = [(.agg #[(.int .i64 c0), (.int .i64 c1), (.int .i64 c2), (.int .i64 c3), (.int .i64 c4), (.int .i64 c5)]), (.string weights)] from rfl, brain_Of.vc_eq]; exact h)
/-- function 56 -/
def brain_Brain_Weights.vc (bB : Nat) (w : World) (R : Value → World → Prop) : Prop :=
  ∃ (x8 : ByteArray), w.cell? (⟨bB, 6, none⟩ : Addr) = some (.string x8) ∧
  R (.string x8) w
theorem brain_Brain_Weights.vc_eq (bB : Nat) (w : World) (R : Value → World → Prop) : fnV Tryz.prog Tryz.f56 (.k .nil) [(.pointer (some (⟨bB, 0, none⟩ : Addr)))] w R = brain_Brain_Weights.vc bB w R := by kernel_rfl
theorem brain_Brain_Weights.calls (bB : Nat) {w : World} {R : Value → World → Prop} (h : brain_Brain_Weights.vc bB w R) : Calls Tryz.prog 56 #[(.pointer (some (⟨bB, 0, none⟩ : Addr)))] w (Ret R) :=
  calls_V fit Tryz.func56 (.k .nil) (by rw [show (#[(.pointer (some (⟨bB, 0, none⟩ : Addr)))] : Array Value).toList = [(.pointer (some (⟨bB, 0, none⟩ : Addr)))] from rfl, brain_Brain_Weights.vc_eq]; exact h)
/-- function 53 -/
def conf_Shape_Range.vc (s0 : Int) (s1 : Int) (s2 : Int) (s3 : Int) (s4 : Int) (s5 : Int) (part : Int) (block : Int) (w : World) (R : Value → World → Prop) : Prop :=
  ∀ w1 : World, w1 = w.alloc (.cells #[(.int .i64 s0), (.int .i64 s1), (.int .i64 s2), (.int .i64 s3), (.int .i64 s4), (.int .i64 s5)] 55 (0, 0)) →
  ∃ (x13 : Int), w1.cell? (⟨w.heap.size, 3, none⟩ : Addr) = some (.int .i64 x13) ∧
  (decide (part < (2 : Int)) = true →
  ∃ (x210 : Int), ∃ (x211 : Int), ∃ (x212 : Int), ∃ (x213 : Int), ∃ (x214 : Int), ∃ (x215 : Int), (w1.cell? (⟨w.heap.size, 0, none⟩ : Addr) = some (.int .i64 x210) ∧ w1.cell? (⟨w.heap.size, 1, none⟩ : Addr) = some (.int .i64 x211) ∧ w1.cell? (⟨w.heap.size, 2, none⟩ : Addr) = some (.int .i64 x212) ∧ w1.cell? (⟨w.heap.size, 3, none⟩ : Addr) = some (.int .i64 x213) ∧ w1.cell? (⟨w.heap.size, 4, none⟩ : Addr) = some (.int .i64 x214) ∧ w1.cell? (⟨w.heap.size, 5, none⟩ : Addr) = some (.int .i64 x215)) ∧
  Calls Tryz.prog 17 #[(.agg #[(.int .i64 x210), (.int .i64 x211), (.int .i64 x212), (.int .i64 x213), (.int .i64 x214), (.int .i64 x215)])] w1 (Ret fun v w2 => ∃ (x22 : Bool), v = (.bool x22) ∧
  ((!x22) = true →
  R (.tuple #[(.int .i64 0), (.int .i64 0), (.bool false)]) w2) ∧
  ((!x22) = false →
  (decide (part < (0 : Int)) = true →
  R (.tuple #[(.int .i64 0), (.int .i64 0), (.bool false)]) w2) ∧
  (decide (part < (0 : Int)) = false →
  (decide (part > (11 : Int)) = true →
  R (.tuple #[(.int .i64 0), (.int .i64 0), (.bool false)]) w2) ∧
  (decide (part > (11 : Int)) = false →
  (decide (block < (0 : Int)) = true →
  R (.tuple #[(.int .i64 0), (.int .i64 0), (.bool false)]) w2) ∧
  (decide (block < (0 : Int)) = false →
  (decide (block ≥ (1 : Int)) = true →
  R (.tuple #[(.int .i64 0), (.int .i64 0), (.bool false)]) w2) ∧
  (decide (block ≥ (1 : Int)) = false →
  ∃ (x410 : Int), ∃ (x411 : Int), ∃ (x412 : Int), ∃ (x413 : Int), ∃ (x414 : Int), ∃ (x415 : Int), (w2.cell? (⟨w.heap.size, 0, none⟩ : Addr) = some (.int .i64 x410) ∧ w2.cell? (⟨w.heap.size, 1, none⟩ : Addr) = some (.int .i64 x411) ∧ w2.cell? (⟨w.heap.size, 2, none⟩ : Addr) = some (.int .i64 x412) ∧ w2.cell? (⟨w.heap.size, 3, none⟩ : Addr) = some (.int .i64 x413) ∧ w2.cell? (⟨w.heap.size, 4, none⟩ : Addr) = some (.int .i64 x414) ∧ w2.cell? (⟨w.heap.size, 5, none⟩ : Addr) = some (.int .i64 x415)) ∧
  Calls Tryz.prog 58 #[(.agg #[(.int .i64 x410), (.int .i64 x411), (.int .i64 x412), (.int .i64 x413), (.int .i64 x414), (.int .i64 x415)]), (.int .i64 part), (.int .i64 part)] w2 (Ret fun v_1 w3 => ∃ (x44 : Int), v_1 = (.int .i64 x44) ∧
  decide (part < (2 : Int)) = true ∧
  ∃ (x480 : Int), ∃ (x481 : Int), ∃ (x482 : Int), ∃ (x483 : Int), ∃ (x484 : Int), ∃ (x485 : Int), (w3.cell? (⟨w.heap.size, 0, none⟩ : Addr) = some (.int .i64 x480) ∧ w3.cell? (⟨w.heap.size, 1, none⟩ : Addr) = some (.int .i64 x481) ∧ w3.cell? (⟨w.heap.size, 2, none⟩ : Addr) = some (.int .i64 x482) ∧ w3.cell? (⟨w.heap.size, 3, none⟩ : Addr) = some (.int .i64 x483) ∧ w3.cell? (⟨w.heap.size, 4, none⟩ : Addr) = some (.int .i64 x484) ∧ w3.cell? (⟨w.heap.size, 5, none⟩ : Addr) = some (.int .i64 x485)) ∧
  Calls Tryz.prog 58 #[(.agg #[(.int .i64 x480), (.int .i64 x481), (.int .i64 x482), (.int .i64 x483), (.int .i64 x484), (.int .i64 x485)]), (.int .i64 0), (.int .i64 (IntKind.i64.wrap (part - 1)))] w3 (Ret fun v_2 w4 => ∃ (x51 : Int), v_2 = (.int .i64 x51) ∧
  R (.tuple #[(.int .i64 x51), (.int .i64 x44), (.bool true)]) w4))))))))) ∧
  (decide (part < (2 : Int)) = false →
  ((part == (11 : Int)) = true →
  ∃ (x210_1 : Int), ∃ (x211_1 : Int), ∃ (x212_1 : Int), ∃ (x213_1 : Int), ∃ (x214_1 : Int), ∃ (x215_1 : Int), (w1.cell? (⟨w.heap.size, 0, none⟩ : Addr) = some (.int .i64 x210_1) ∧ w1.cell? (⟨w.heap.size, 1, none⟩ : Addr) = some (.int .i64 x211_1) ∧ w1.cell? (⟨w.heap.size, 2, none⟩ : Addr) = some (.int .i64 x212_1) ∧ w1.cell? (⟨w.heap.size, 3, none⟩ : Addr) = some (.int .i64 x213_1) ∧ w1.cell? (⟨w.heap.size, 4, none⟩ : Addr) = some (.int .i64 x214_1) ∧ w1.cell? (⟨w.heap.size, 5, none⟩ : Addr) = some (.int .i64 x215_1)) ∧
  Calls Tryz.prog 17 #[(.agg #[(.int .i64 x210_1), (.int .i64 x211_1), (.int .i64 x212_1), (.int .i64 x213_1), (.int .i64 x214_1), (.int .i64 x215_1)])] w1 (Ret fun v_3 w5 => ∃ (x22_1 : Bool), v_3 = (.bool x22_1) ∧
  ((!x22_1) = true →
  R (.tuple #[(.int .i64 0), (.int .i64 0), (.bool false)]) w5) ∧
  ((!x22_1) = false →
  (decide (part < (0 : Int)) = true →
  R (.tuple #[(.int .i64 0), (.int .i64 0), (.bool false)]) w5) ∧
  (decide (part < (0 : Int)) = false →
  (decide (part > (11 : Int)) = true →
  R (.tuple #[(.int .i64 0), (.int .i64 0), (.bool false)]) w5) ∧
  (decide (part > (11 : Int)) = false →
  (decide (block < (0 : Int)) = true →
  R (.tuple #[(.int .i64 0), (.int .i64 0), (.bool false)]) w5) ∧
  (decide (block < (0 : Int)) = false →
  (decide (block ≥ (1 : Int)) = true →
  R (.tuple #[(.int .i64 0), (.int .i64 0), (.bool false)]) w5) ∧
  (decide (block ≥ (1 : Int)) = false →
  ∃ (x410_1 : Int), ∃ (x411_1 : Int), ∃ (x412_1 : Int), ∃ (x413_1 : Int), ∃ (x414_1 : Int), ∃ (x415_1 : Int), (w5.cell? (⟨w.heap.size, 0, none⟩ : Addr) = some (.int .i64 x410_1) ∧ w5.cell? (⟨w.heap.size, 1, none⟩ : Addr) = some (.int .i64 x411_1) ∧ w5.cell? (⟨w.heap.size, 2, none⟩ : Addr) = some (.int .i64 x412_1) ∧ w5.cell? (⟨w.heap.size, 3, none⟩ : Addr) = some (.int .i64 x413_1) ∧ w5.cell? (⟨w.heap.size, 4, none⟩ : Addr) = some (.int .i64 x414_1) ∧ w5.cell? (⟨w.heap.size, 5, none⟩ : Addr) = some (.int .i64 x415_1)) ∧
  Calls Tryz.prog 58 #[(.agg #[(.int .i64 x410_1), (.int .i64 x411_1), (.int .i64 x412_1), (.int .i64 x413_1), (.int .i64 x414_1), (.int .i64 x415_1)]), (.int .i64 part), (.int .i64 part)] w5 (Ret fun v_4 w6 => ∃ (x44_1 : Int), v_4 = (.int .i64 x44_1) ∧
  decide (part < (2 : Int)) = false ∧
  (part == (11 : Int)) = true ∧
  ∃ (x560 : Int), ∃ (x561 : Int), ∃ (x562 : Int), ∃ (x563 : Int), ∃ (x564 : Int), ∃ (x565 : Int), (w6.cell? (⟨w.heap.size, 0, none⟩ : Addr) = some (.int .i64 x560) ∧ w6.cell? (⟨w.heap.size, 1, none⟩ : Addr) = some (.int .i64 x561) ∧ w6.cell? (⟨w.heap.size, 2, none⟩ : Addr) = some (.int .i64 x562) ∧ w6.cell? (⟨w.heap.size, 3, none⟩ : Addr) = some (.int .i64 x563) ∧ w6.cell? (⟨w.heap.size, 4, none⟩ : Addr) = some (.int .i64 x564) ∧ w6.cell? (⟨w.heap.size, 5, none⟩ : Addr) = some (.int .i64 x565)) ∧
  Calls Tryz.prog 35 #[(.agg #[(.int .i64 x560), (.int .i64 x561), (.int .i64 x562), (.int .i64 x563), (.int .i64 x564), (.int .i64 x565)])] w6 (Ret fun v_5 w7 => ∃ (x57 : Int), v_5 = (.int .i64 x57) ∧
  R (.tuple #[(.int .i64 (IntKind.i64.wrap (x57 - x44_1))), (.int .i64 x44_1), (.bool true)]) w7))))))))) ∧
  ((part == (11 : Int)) = false →
  ∃ (x210_2 : Int), ∃ (x211_2 : Int), ∃ (x212_2 : Int), ∃ (x213_2 : Int), ∃ (x214_2 : Int), ∃ (x215_2 : Int), (w1.cell? (⟨w.heap.size, 0, none⟩ : Addr) = some (.int .i64 x210_2) ∧ w1.cell? (⟨w.heap.size, 1, none⟩ : Addr) = some (.int .i64 x211_2) ∧ w1.cell? (⟨w.heap.size, 2, none⟩ : Addr) = some (.int .i64 x212_2) ∧ w1.cell? (⟨w.heap.size, 3, none⟩ : Addr) = some (.int .i64 x213_2) ∧ w1.cell? (⟨w.heap.size, 4, none⟩ : Addr) = some (.int .i64 x214_2) ∧ w1.cell? (⟨w.heap.size, 5, none⟩ : Addr) = some (.int .i64 x215_2)) ∧
  Calls Tryz.prog 17 #[(.agg #[(.int .i64 x210_2), (.int .i64 x211_2), (.int .i64 x212_2), (.int .i64 x213_2), (.int .i64 x214_2), (.int .i64 x215_2)])] w1 (Ret fun v_6 w8 => ∃ (x22_2 : Bool), v_6 = (.bool x22_2) ∧
  ((!x22_2) = true →
  R (.tuple #[(.int .i64 0), (.int .i64 0), (.bool false)]) w8) ∧
  ((!x22_2) = false →
  (decide (part < (0 : Int)) = true →
  R (.tuple #[(.int .i64 0), (.int .i64 0), (.bool false)]) w8) ∧
  (decide (part < (0 : Int)) = false →
  (decide (part > (11 : Int)) = true →
  R (.tuple #[(.int .i64 0), (.int .i64 0), (.bool false)]) w8) ∧
  (decide (part > (11 : Int)) = false →
  (decide (block < (0 : Int)) = true →
  R (.tuple #[(.int .i64 0), (.int .i64 0), (.bool false)]) w8) ∧
  (decide (block < (0 : Int)) = false →
  (decide (block ≥ x13) = true →
  R (.tuple #[(.int .i64 0), (.int .i64 0), (.bool false)]) w8) ∧
  (decide (block ≥ x13) = false →
  ∃ (x410_2 : Int), ∃ (x411_2 : Int), ∃ (x412_2 : Int), ∃ (x413_2 : Int), ∃ (x414_2 : Int), ∃ (x415_2 : Int), (w8.cell? (⟨w.heap.size, 0, none⟩ : Addr) = some (.int .i64 x410_2) ∧ w8.cell? (⟨w.heap.size, 1, none⟩ : Addr) = some (.int .i64 x411_2) ∧ w8.cell? (⟨w.heap.size, 2, none⟩ : Addr) = some (.int .i64 x412_2) ∧ w8.cell? (⟨w.heap.size, 3, none⟩ : Addr) = some (.int .i64 x413_2) ∧ w8.cell? (⟨w.heap.size, 4, none⟩ : Addr) = some (.int .i64 x414_2) ∧ w8.cell? (⟨w.heap.size, 5, none⟩ : Addr) = some (.int .i64 x415_2)) ∧
  Calls Tryz.prog 58 #[(.agg #[(.int .i64 x410_2), (.int .i64 x411_2), (.int .i64 x412_2), (.int .i64 x413_2), (.int .i64 x414_2), (.int .i64 x415_2)]), (.int .i64 part), (.int .i64 part)] w8 (Ret fun v_7 w9 => ∃ (x44_2 : Int), v_7 = (.int .i64 x44_2) ∧
  decide (part < (2 : Int)) = false ∧
  (part == (11 : Int)) = false ∧
  ∃ vS : World → Prop, ∀ w10 : World, w10 = w9.drew → vS w10 ∧
  ∃ (x610 : Int), ∃ (x611 : Int), ∃ (x612 : Int), ∃ (x613 : Int), ∃ (x614 : Int), ∃ (x615 : Int), ((∀ w11, vS w11 → w11.cell? (⟨w.heap.size, 0, none⟩ : Addr) = some (.int .i64 x610)) ∧ (∀ w11, vS w11 → w11.cell? (⟨w.heap.size, 1, none⟩ : Addr) = some (.int .i64 x611)) ∧ (∀ w11, vS w11 → w11.cell? (⟨w.heap.size, 2, none⟩ : Addr) = some (.int .i64 x612)) ∧ (∀ w11, vS w11 → w11.cell? (⟨w.heap.size, 3, none⟩ : Addr) = some (.int .i64 x613)) ∧ (∀ w11, vS w11 → w11.cell? (⟨w.heap.size, 4, none⟩ : Addr) = some (.int .i64 x614)) ∧ (∀ w11, vS w11 → w11.cell? (⟨w.heap.size, 5, none⟩ : Addr) = some (.int .i64 x615))) ∧
  ∃ (x640 : Int), ∃ (x641 : Int), ∃ (x642 : Int), ∃ (x643 : Int), ∃ (x644 : Int), ∃ (x645 : Int), ((∀ w12, vS w12 → w12.cell? (⟨w.heap.size, 0, none⟩ : Addr) = some (.int .i64 x640)) ∧ (∀ w12, vS w12 → w12.cell? (⟨w.heap.size, 1, none⟩ : Addr) = some (.int .i64 x641)) ∧ (∀ w12, vS w12 → w12.cell? (⟨w.heap.size, 2, none⟩ : Addr) = some (.int .i64 x642)) ∧ (∀ w12, vS w12 → w12.cell? (⟨w.heap.size, 3, none⟩ : Addr) = some (.int .i64 x643)) ∧ (∀ w12, vS w12 → w12.cell? (⟨w.heap.size, 4, none⟩ : Addr) = some (.int .i64 x644)) ∧ (∀ w12, vS w12 → w12.cell? (⟨w.heap.size, 5, none⟩ : Addr) = some (.int .i64 x645))) ∧
  ∃ (x680 : Int), ∃ (x681 : Int), ∃ (x682 : Int), ∃ (x683 : Int), ∃ (x684 : Int), ∃ (x685 : Int), ((∀ w13, vS w13 → w13.cell? (⟨w.heap.size, 0, none⟩ : Addr) = some (.int .i64 x680)) ∧ (∀ w13, vS w13 → w13.cell? (⟨w.heap.size, 1, none⟩ : Addr) = some (.int .i64 x681)) ∧ (∀ w13, vS w13 → w13.cell? (⟨w.heap.size, 2, none⟩ : Addr) = some (.int .i64 x682)) ∧ (∀ w13, vS w13 → w13.cell? (⟨w.heap.size, 3, none⟩ : Addr) = some (.int .i64 x683)) ∧ (∀ w13, vS w13 → w13.cell? (⟨w.heap.size, 4, none⟩ : Addr) = some (.int .i64 x684)) ∧ (∀ w13, vS w13 → w13.cell? (⟨w.heap.size, 5, none⟩ : Addr) = some (.int .i64 x685))) ∧
  Calls Tryz.prog 58 #[(.agg #[(.int .i64 x610), (.int .i64 x611), (.int .i64 x612), (.int .i64 x613), (.int .i64 x614), (.int .i64 x615)]), (.int .i64 0), (.int .i64 1)] w10 (Ret fun v_8 w14 => ∃ (x62 : Int), v_8 = (.int .i64 x62) ∧
  vS w14 ∧
  Calls Tryz.prog 58 #[(.agg #[(.int .i64 x640), (.int .i64 x641), (.int .i64 x642), (.int .i64 x643), (.int .i64 x644), (.int .i64 x645)]), (.int .i64 2), (.int .i64 10)] w14 (Ret fun v_9 w15 => ∃ (x65 : Int), v_9 = (.int .i64 x65) ∧
  vS w15 ∧
  Calls Tryz.prog 58 #[(.agg #[(.int .i64 x680), (.int .i64 x681), (.int .i64 x682), (.int .i64 x683), (.int .i64 x684), (.int .i64 x685)]), (.int .i64 2), (.int .i64 (IntKind.i64.wrap (part - 1)))] w15 (Ret fun v_10 w16 => ∃ (x71 : Int), v_10 = (.int .i64 x71) ∧
  vS w16 ∧
  R (.tuple #[(.int .i64 (IntKind.i64.wrap ((IntKind.i64.wrap (x62 + (IntKind.i64.wrap (block * x65)))) + x71))), (.int .i64 x44_2), (.bool true)]) w16))))))))))))
theorem conf_Shape_Range.vc_eq (s0 : Int) (s1 : Int) (s2 : Int) (s3 : Int) (s4 : Int) (s5 : Int) (part : Int) (block : Int) (w : World) (R : Value → World → Prop) : fnV Tryz.prog Tryz.f53 (.at_ 2 2 (.k (.at_ 4 4 (.k .nil) (.at_ 4 8 (.k .nil) (.at_ 4 12 (.k .nil) (.at_ 4 16 (.k .nil) (.c .nil (.y .nil))))))) (.c (.at_ 4 4 (.k .nil) (.at_ 4 8 (.k .nil) (.at_ 4 12 (.k .nil) (.at_ 4 16 (.k .nil) (.c .nil (.n (.y .nil))))))) (.at_ 4 4 (.k .nil) (.at_ 4 8 (.k .nil) (.at_ 4 12 (.k .nil) (.at_ 4 16 (.k .nil) (.c .nil (.n (.n (.tk 0 (.tk 2 (.tk 3 (.tk 7 (.tk 8 (.tk 9 (.tk 12 (.alt 1 (.alt 4 (.tk 5 (.tk 6 (.alt 10 (.tk 11 (.tk 13 (.tk 14 (.tk 15 (.fin .nil))))) .nil))) .nil) .nil))))))))))))))))) [(.agg #[(.int .i64 s0), (.int .i64 s1), (.int .i64 s2), (.int .i64 s3), (.int .i64 s4), (.int .i64 s5)]), (.int .i64 part), (.int .i64 block)] w R = conf_Shape_Range.vc s0 s1 s2 s3 s4 s5 part block w R := by kernel_rfl
theorem conf_Shape_Range.calls (s0 : Int) (s1 : Int) (s2 : Int) (s3 : Int) (s4 : Int) (s5 : Int) (part : Int) (block : Int) {w : World} {R : Value → World → Prop} (h : conf_Shape_Range.vc s0 s1 s2 s3 s4 s5 part block w R) : Calls Tryz.prog 53 #[(.agg #[(.int .i64 s0), (.int .i64 s1), (.int .i64 s2), (.int .i64 s3), (.int .i64 s4), (.int .i64 s5)]), (.int .i64 part), (.int .i64 block)] w (Ret R) :=
  calls_V fit Tryz.func53 (.at_ 2 2 (.k (.at_ 4 4 (.k .nil) (.at_ 4 8 (.k .nil) (.at_ 4 12 (.k .nil) (.at_ 4 16 (.k .nil) (.c .nil (.y .nil))))))) (.c (.at_ 4 4 (.k .nil) (.at_ 4 8 (.k .nil) (.at_ 4 12 (.k .nil) (.at_ 4 16 (.k .nil) (.c .nil (.n (.y .nil))))))) (.at_ 4 4 (.k .nil) (.at_ 4 8 (.k .nil) (.at_ 4 12 (.k .nil) (.at_ 4 16 (.k .nil) (.c .nil (.n (.n (.tk 0 (.tk 2 (.tk 3 (.tk 7 (.tk 8 (.tk 9 (.tk 12 (.alt 1 (.alt 4 (.tk 5 (.tk 6 (.alt 10 (.tk 11 (.tk 13 (.tk 14 (.tk 15 (.fin .nil))))) .nil))) .nil) .nil))))))))))))))))) (by rw [show (#[(.agg #[(.int .i64 s0), (.int .i64 s1), (.int .i64 s2), (.int .i64 s3), (.int .i64 s4), (.int .i64 s5)]), (.int .i64 part), (.int .i64 block)] : Array Value).toList = [(.agg #[(.int .i64 s0), (.int .i64 s1), (.int .i64 s2), (.int .i64 s3), (.int .i64 s4), (.int .i64 s5)]), (.int .i64 part), (.int .i64 block)] from rfl, conf_Shape_Range.vc_eq]; exact h)
/-- function 54 -/
def conf_Shape_Side.vc (s0 : Int) (s1 : Int) (s2 : Int) (s3 : Int) (s4 : Int) (s5 : Int) (part : Int) (w : World) (R : Value → World → Prop) : Prop :=
  ∀ w1 : World, w1 = w.alloc (.cells #[(.int .i64 s0), (.int .i64 s1), (.int .i64 s2), (.int .i64 s3), (.int .i64 s4), (.int .i64 s5)] 55 (0, 0)) →
  ∃ (x70 : Int), ∃ (x71 : Int), ∃ (x72 : Int), ∃ (x73 : Int), ∃ (x74 : Int), ∃ (x75 : Int), (w1.cell? (⟨w.heap.size, 0, none⟩ : Addr) = some (.int .i64 x70) ∧ w1.cell? (⟨w.heap.size, 1, none⟩ : Addr) = some (.int .i64 x71) ∧ w1.cell? (⟨w.heap.size, 2, none⟩ : Addr) = some (.int .i64 x72) ∧ w1.cell? (⟨w.heap.size, 3, none⟩ : Addr) = some (.int .i64 x73) ∧ w1.cell? (⟨w.heap.size, 4, none⟩ : Addr) = some (.int .i64 x74) ∧ w1.cell? (⟨w.heap.size, 5, none⟩ : Addr) = some (.int .i64 x75)) ∧
  Calls Tryz.prog 17 #[(.agg #[(.int .i64 x70), (.int .i64 x71), (.int .i64 x72), (.int .i64 x73), (.int .i64 x74), (.int .i64 x75)])] w1 (Ret fun v w2 => ∃ (x8 : Bool), v = (.bool x8) ∧
  ((!x8) = true →
  R (.tuple #[(.int .i64 0), (.int .i64 0)]) w2) ∧
  ((!x8) = false →
  ∃ (x100 : Int), ∃ (x101 : Int), ∃ (x102 : Int), ∃ (x103 : Int), ∃ (x104 : Int), ∃ (x105 : Int), (w2.cell? (⟨w.heap.size, 0, none⟩ : Addr) = some (.int .i64 x100) ∧ w2.cell? (⟨w.heap.size, 1, none⟩ : Addr) = some (.int .i64 x101) ∧ w2.cell? (⟨w.heap.size, 2, none⟩ : Addr) = some (.int .i64 x102) ∧ w2.cell? (⟨w.heap.size, 3, none⟩ : Addr) = some (.int .i64 x103) ∧ w2.cell? (⟨w.heap.size, 4, none⟩ : Addr) = some (.int .i64 x104) ∧ w2.cell? (⟨w.heap.size, 5, none⟩ : Addr) = some (.int .i64 x105)) ∧
  Calls Tryz.prog 77 #[(.agg #[(.int .i64 x100), (.int .i64 x101), (.int .i64 x102), (.int .i64 x103), (.int .i64 x104), (.int .i64 x105)]), (.int .i64 part)] w2 (Ret fun v_1 w3 => ∃ (x12_0 : Int), ∃ (x12_1 : Int), v_1 = (.tuple #[(.int .i64 x12_0), (.int .i64 x12_1)]) ∧
  R (.tuple #[(.int .i64 x12_0), (.int .i64 x12_1)]) w3)))
theorem conf_Shape_Side.vc_eq (s0 : Int) (s1 : Int) (s2 : Int) (s3 : Int) (s4 : Int) (s5 : Int) (part : Int) (w : World) (R : Value → World → Prop) : fnV Tryz.prog Tryz.f54 (.c .nil .nil) [(.agg #[(.int .i64 s0), (.int .i64 s1), (.int .i64 s2), (.int .i64 s3), (.int .i64 s4), (.int .i64 s5)]), (.int .i64 part)] w R = conf_Shape_Side.vc s0 s1 s2 s3 s4 s5 part w R := by kernel_rfl
theorem conf_Shape_Side.calls (s0 : Int) (s1 : Int) (s2 : Int) (s3 : Int) (s4 : Int) (s5 : Int) (part : Int) {w : World} {R : Value → World → Prop} (h : conf_Shape_Side.vc s0 s1 s2 s3 s4 s5 part w R) : Calls Tryz.prog 54 #[(.agg #[(.int .i64 s0), (.int .i64 s1), (.int .i64 s2), (.int .i64 s3), (.int .i64 s4), (.int .i64 s5)]), (.int .i64 part)] w (Ret R) :=
  calls_V fit Tryz.func54 (.c .nil .nil) (by rw [show (#[(.agg #[(.int .i64 s0), (.int .i64 s1), (.int .i64 s2), (.int .i64 s3), (.int .i64 s4), (.int .i64 s5)]), (.int .i64 part)] : Array Value).toList = [(.agg #[(.int .i64 s0), (.int .i64 s1), (.int .i64 s2), (.int .i64 s3), (.int .i64 s4), (.int .i64 s5)]), (.int .i64 part)] from rfl, conf_Shape_Side.vc_eq]; exact h)
/-- function 117 -/
def conf_Shape_HeadDim.vc (s0 : Int) (s1 : Int) (s2 : Int) (s3 : Int) (s4 : Int) (s5 : Int) (w : World) (R : Value → World → Prop) : Prop :=
  ∀ w1 : World, w1 = w.alloc (.cells #[(.int .i64 s0), (.int .i64 s1), (.int .i64 s2), (.int .i64 s3), (.int .i64 s4), (.int .i64 s5)] 55 (0, 0)) →
  ∃ (x40 : Int), ∃ (x41 : Int), ∃ (x42 : Int), ∃ (x43 : Int), ∃ (x44 : Int), ∃ (x45 : Int), (w1.cell? (⟨w.heap.size, 0, none⟩ : Addr) = some (.int .i64 x40) ∧ w1.cell? (⟨w.heap.size, 1, none⟩ : Addr) = some (.int .i64 x41) ∧ w1.cell? (⟨w.heap.size, 2, none⟩ : Addr) = some (.int .i64 x42) ∧ w1.cell? (⟨w.heap.size, 3, none⟩ : Addr) = some (.int .i64 x43) ∧ w1.cell? (⟨w.heap.size, 4, none⟩ : Addr) = some (.int .i64 x44) ∧ w1.cell? (⟨w.heap.size, 5, none⟩ : Addr) = some (.int .i64 x45)) ∧
  Calls Tryz.prog 17 #[(.agg #[(.int .i64 x40), (.int .i64 x41), (.int .i64 x42), (.int .i64 x43), (.int .i64 x44), (.int .i64 x45)])] w1 (Ret fun v w2 => ∃ (x5 : Bool), v = (.bool x5) ∧
  ((!x5) = true →
  R (.int .i64 0) w2) ∧
  ((!x5) = false →
  ∃ (x9 : Int), w2.cell? (⟨w.heap.size, 1, none⟩ : Addr) = some (.int .i64 x9) ∧
  ∃ (x12 : Int), w2.cell? (⟨w.heap.size, 2, none⟩ : Addr) = some (.int .i64 x12) ∧
  x12 ≠ 0 ∧
  R (.int .i64 (IntKind.i64.wrap (Int.tdiv x9 x12))) w2))
theorem conf_Shape_HeadDim.vc_eq (s0 : Int) (s1 : Int) (s2 : Int) (s3 : Int) (s4 : Int) (s5 : Int) (w : World) (R : Value → World → Prop) : fnV Tryz.prog Tryz.f117 (.c .nil .nil) [(.agg #[(.int .i64 s0), (.int .i64 s1), (.int .i64 s2), (.int .i64 s3), (.int .i64 s4), (.int .i64 s5)])] w R = conf_Shape_HeadDim.vc s0 s1 s2 s3 s4 s5 w R := by kernel_rfl
theorem conf_Shape_HeadDim.calls (s0 : Int) (s1 : Int) (s2 : Int) (s3 : Int) (s4 : Int) (s5 : Int) {w : World} {R : Value → World → Prop} (h : conf_Shape_HeadDim.vc s0 s1 s2 s3 s4 s5 w R) : Calls Tryz.prog 117 #[(.agg #[(.int .i64 s0), (.int .i64 s1), (.int .i64 s2), (.int .i64 s3), (.int .i64 s4), (.int .i64 s5)])] w (Ret R) :=
  calls_V fit Tryz.func117 (.c .nil .nil) (by rw [show (#[(.agg #[(.int .i64 s0), (.int .i64 s1), (.int .i64 s2), (.int .i64 s3), (.int .i64 s4), (.int .i64 s5)])] : Array Value).toList = [(.agg #[(.int .i64 s0), (.int .i64 s1), (.int .i64 s2), (.int .i64 s3), (.int .i64 s4), (.int .i64 s5)])] from rfl, conf_Shape_HeadDim.vc_eq]; exact h)
/-- function 29 -/
def brain_Brain_Table.vc (bB : Nat) (part : Int) (block : Int) (w : World) (R : Value → World → Prop) : Prop :=
  ∀ w1 : World, w1 = w.alloc (.cells #[(.int .i64 0), (.int .i64 0), (.slice none 0 0)] 80 (0, 0)) →
  ∃ (x220 : Int), ∃ (x221 : Int), ∃ (x222 : Int), ∃ (x223 : Int), ∃ (x224 : Int), ∃ (x225 : Int), (w1.cell? (⟨bB, 0, none⟩ : Addr) = some (.int .i64 x220) ∧ w1.cell? (⟨bB, 1, none⟩ : Addr) = some (.int .i64 x221) ∧ w1.cell? (⟨bB, 2, none⟩ : Addr) = some (.int .i64 x222) ∧ w1.cell? (⟨bB, 3, none⟩ : Addr) = some (.int .i64 x223) ∧ w1.cell? (⟨bB, 4, none⟩ : Addr) = some (.int .i64 x224) ∧ w1.cell? (⟨bB, 5, none⟩ : Addr) = some (.int .i64 x225)) ∧
  Calls Tryz.prog 53 #[(.agg #[(.int .i64 x220), (.int .i64 x221), (.int .i64 x222), (.int .i64 x223), (.int .i64 x224), (.int .i64 x225)]), (.int .i64 part), (.int .i64 block)] w1 (Ret fun v w2 => ∃ (x25_0 : Int), ∃ (x25_1 : Int), ∃ (x25_2 : Bool), v = (.tuple #[(.int .i64 x25_0), (.int .i64 x25_1), (.bool x25_2)]) ∧
  ((!x25_2) = true →
  (((∃ u, w2.cell? (⟨w.heap.size, 0, none⟩ : Addr) = some u) ∧ w2.frozen? (⟨w.heap.size, 0, none⟩ : Addr) = false) ∧ ((∃ u, w2.cell? (⟨w.heap.size, 1, none⟩ : Addr) = some u) ∧ w2.frozen? (⟨w.heap.size, 1, none⟩ : Addr) = false) ∧ ((∃ u, w2.cell? (⟨w.heap.size, 2, none⟩ : Addr) = some u) ∧ w2.frozen? (⟨w.heap.size, 2, none⟩ : Addr) = false)) ∧ ∀ w3 : World, w3 = (((w2.setCell (⟨w.heap.size, 0, none⟩ : Addr) (.int .i64 0)).setCell (⟨w.heap.size, 1, none⟩ : Addr) (.int .i64 0)).setCell (⟨w.heap.size, 2, none⟩ : Addr) (.slice none 0 0)) →
  ∃ (r00 : Int), ∃ (r01 : Int), ∃ (r02A : Option Addr), ∃ (r02N : Nat), ∃ (r02C : Nat), (w3.cell? (⟨w.heap.size, 0, none⟩ : Addr) = some (.int .i64 r00) ∧ w3.cell? (⟨w.heap.size, 1, none⟩ : Addr) = some (.int .i64 r01) ∧ w3.cell? (⟨w.heap.size, 2, none⟩ : Addr) = some (.slice r02A r02N r02C)) ∧
  R (.tuple #[(.agg #[(.int .i64 r00), (.int .i64 r01), (.slice r02A r02N r02C)]), (.bool false)]) w3) ∧
  ((!x25_2) = false →
  ∃ (x360 : Int), ∃ (x361 : Int), ∃ (x362 : Int), ∃ (x363 : Int), ∃ (x364 : Int), ∃ (x365 : Int), (w2.cell? (⟨bB, 0, none⟩ : Addr) = some (.int .i64 x360) ∧ w2.cell? (⟨bB, 1, none⟩ : Addr) = some (.int .i64 x361) ∧ w2.cell? (⟨bB, 2, none⟩ : Addr) = some (.int .i64 x362) ∧ w2.cell? (⟨bB, 3, none⟩ : Addr) = some (.int .i64 x363) ∧ w2.cell? (⟨bB, 4, none⟩ : Addr) = some (.int .i64 x364) ∧ w2.cell? (⟨bB, 5, none⟩ : Addr) = some (.int .i64 x365)) ∧
  Calls Tryz.prog 54 #[(.agg #[(.int .i64 x360), (.int .i64 x361), (.int .i64 x362), (.int .i64 x363), (.int .i64 x364), (.int .i64 x365)]), (.int .i64 part)] w2 (Ret fun v_1 w4 => ∃ (x38_0 : Int), ∃ (x38_1 : Int), v_1 = (.tuple #[(.int .i64 x38_0), (.int .i64 x38_1)]) ∧
  ∃ (x47 : ByteArray), w4.cell? (⟨bB, 6, none⟩ : Addr) = some (.string x47) ∧
  (0 ≤ x25_0 ∧ x25_0 ≤ (IntKind.i64.wrap (x25_0 + x25_1)) ∧ (IntKind.i64.wrap (x25_0 + x25_1)) ≤ ((x47.size : Nat) : Int)) ∧
  Calls Tryz.prog 55 #[(.int .i64 x38_0), (.int .i64 x38_1), (.string (x47.extract x25_0.toNat (IntKind.i64.wrap (x25_0 + x25_1)).toNat))] w4 (Ret fun v_2 w5 => ∃ (x53_00 : Int), ∃ (x53_01 : Int), ∃ (x53_02A : Option Addr), ∃ (x53_02N : Nat), ∃ (x53_02C : Nat), ∃ (x53_1 : Int), v_2 = (.tuple #[(.agg #[(.int .i64 x53_00), (.int .i64 x53_01), (.slice x53_02A x53_02N x53_02C)]), (.int .i64 x53_1)]) ∧
  ∀ w6 : World, w6 = w5.alloc (.cells #[(.int .i64 0), (.int .i64 0), (.slice none 0 0)] 80 (0, 0)) →
  (((∃ u, w6.cell? (⟨w5.heap.size, 0, none⟩ : Addr) = some u) ∧ w6.frozen? (⟨w5.heap.size, 0, none⟩ : Addr) = false) ∧ ((∃ u, w6.cell? (⟨w5.heap.size, 1, none⟩ : Addr) = some u) ∧ w6.frozen? (⟨w5.heap.size, 1, none⟩ : Addr) = false) ∧ ((∃ u, w6.cell? (⟨w5.heap.size, 2, none⟩ : Addr) = some u) ∧ w6.frozen? (⟨w5.heap.size, 2, none⟩ : Addr) = false)) ∧ ∀ w7 : World, w7 = (((w6.setCell (⟨w5.heap.size, 0, none⟩ : Addr) (.int .i64 x53_00)).setCell (⟨w5.heap.size, 1, none⟩ : Addr) (.int .i64 x53_01)).setCell (⟨w5.heap.size, 2, none⟩ : Addr) (.slice x53_02A x53_02N x53_02C)) →
  ∃ (x560 : Int), ∃ (x561 : Int), ∃ (x562A : Option Addr), ∃ (x562N : Nat), ∃ (x562C : Nat), (w7.cell? (⟨w5.heap.size, 0, none⟩ : Addr) = some (.int .i64 x560) ∧ w7.cell? (⟨w5.heap.size, 1, none⟩ : Addr) = some (.int .i64 x561) ∧ w7.cell? (⟨w5.heap.size, 2, none⟩ : Addr) = some (.slice x562A x562N x562C)) ∧
  (((∃ u, w7.cell? (⟨w.heap.size, 0, none⟩ : Addr) = some u) ∧ w7.frozen? (⟨w.heap.size, 0, none⟩ : Addr) = false) ∧ ((∃ u, w7.cell? (⟨w.heap.size, 1, none⟩ : Addr) = some u) ∧ w7.frozen? (⟨w.heap.size, 1, none⟩ : Addr) = false) ∧ ((∃ u, w7.cell? (⟨w.heap.size, 2, none⟩ : Addr) = some u) ∧ w7.frozen? (⟨w.heap.size, 2, none⟩ : Addr) = false)) ∧ ∀ w8 : World, w8 = (((w7.setCell (⟨w.heap.size, 0, none⟩ : Addr) (.int .i64 x560)).setCell (⟨w.heap.size, 1, none⟩ : Addr) (.int .i64 x561)).setCell (⟨w.heap.size, 2, none⟩ : Addr) (.slice x562A x562N x562C)) →
  ∃ (r00_1 : Int), ∃ (r01_1 : Int), ∃ (r02A_1 : Option Addr), ∃ (r02N_1 : Nat), ∃ (r02C_1 : Nat), (w8.cell? (⟨w.heap.size, 0, none⟩ : Addr) = some (.int .i64 r00_1) ∧ w8.cell? (⟨w.heap.size, 1, none⟩ : Addr) = some (.int .i64 r01_1) ∧ w8.cell? (⟨w.heap.size, 2, none⟩ : Addr) = some (.slice r02A_1 r02N_1 r02C_1)) ∧
  R (.tuple #[(.agg #[(.int .i64 r00_1), (.int .i64 r01_1), (.slice r02A_1 r02N_1 r02C_1)]), (.bool (x53_1 == (0 : Int)))]) w8))))
theorem brain_Brain_Table.vc_eq (bB : Nat) (part : Int) (block : Int) (w : World) (R : Value → World → Prop) : fnV Tryz.prog Tryz.f29 (.k (.c .nil .nil)) [(.pointer (some (⟨bB, 0, none⟩ : Addr))), (.int .i64 part), (.int .i64 block)] w R = brain_Brain_Table.vc bB part block w R := by kernel_rfl
theorem brain_Brain_Table.calls (bB : Nat) (part : Int) (block : Int) {w : World} {R : Value → World → Prop} (h : brain_Brain_Table.vc bB part block w R) : Calls Tryz.prog 29 #[(.pointer (some (⟨bB, 0, none⟩ : Addr))), (.int .i64 part), (.int .i64 block)] w (Ret R) :=
  calls_V fit Tryz.func29 (.k (.c .nil .nil)) (by rw [show (#[(.pointer (some (⟨bB, 0, none⟩ : Addr))), (.int .i64 part), (.int .i64 block)] : Array Value).toList = [(.pointer (some (⟨bB, 0, none⟩ : Addr))), (.int .i64 part), (.int .i64 block)] from rfl, brain_Brain_Table.vc_eq]; exact h)
/-- function 91 -/
def brain_Brain_Row.vc (bB : Nat) (part : Int) (block : Int) (vat : Int) (w : World) (R : Value → World → Prop) : Prop :=
  Calls Tryz.prog 29 #[(.pointer (some (⟨bB, 0, none⟩ : Addr))), (.int .i64 part), (.int .i64 block)] w (Ret fun v w1 => ∃ (x15_00 : Int), ∃ (x15_01 : Int), ∃ (x15_02A : Option Addr), ∃ (x15_02N : Nat), ∃ (x15_02C : Nat), ∃ (x15_1 : Bool), v = (.tuple #[(.agg #[(.int .i64 x15_00), (.int .i64 x15_01), (.slice x15_02A x15_02N x15_02C)]), (.bool x15_1)]) ∧
  ∀ w2 : World, w2 = w1.alloc (.cells #[(.int .i64 0), (.int .i64 0), (.slice none 0 0)] 80 (0, 0)) →
  (((∃ u, w2.cell? (⟨w1.heap.size, 0, none⟩ : Addr) = some u) ∧ w2.frozen? (⟨w1.heap.size, 0, none⟩ : Addr) = false) ∧ ((∃ u, w2.cell? (⟨w1.heap.size, 1, none⟩ : Addr) = some u) ∧ w2.frozen? (⟨w1.heap.size, 1, none⟩ : Addr) = false) ∧ ((∃ u, w2.cell? (⟨w1.heap.size, 2, none⟩ : Addr) = some u) ∧ w2.frozen? (⟨w1.heap.size, 2, none⟩ : Addr) = false)) ∧ ∀ w3 : World, w3 = (((w2.setCell (⟨w1.heap.size, 0, none⟩ : Addr) (.int .i64 x15_00)).setCell (⟨w1.heap.size, 1, none⟩ : Addr) (.int .i64 x15_01)).setCell (⟨w1.heap.size, 2, none⟩ : Addr) (.slice x15_02A x15_02N x15_02C)) →
  ((!x15_1) = true →
  R (.slice none 0 0) w3) ∧
  ((!x15_1) = false →
  ∃ (x200 : Int), ∃ (x201 : Int), ∃ (x202A : Option Addr), ∃ (x202N : Nat), ∃ (x202C : Nat), (w3.cell? (⟨w1.heap.size, 0, none⟩ : Addr) = some (.int .i64 x200) ∧ w3.cell? (⟨w1.heap.size, 1, none⟩ : Addr) = some (.int .i64 x201) ∧ w3.cell? (⟨w1.heap.size, 2, none⟩ : Addr) = some (.slice x202A x202N x202C)) ∧
  Calls Tryz.prog 112 #[(.agg #[(.int .i64 x200), (.int .i64 x201), (.slice x202A x202N x202C)]), (.int .i64 vat)] w3 (Ret fun v_1 w4 => ∃ (x22A : Option Addr), ∃ (x22N : Nat), ∃ (x22C : Nat), v_1 = (.slice x22A x22N x22C) ∧
  R (.slice x22A x22N x22C) w4)))
theorem brain_Brain_Row.vc_eq (bB : Nat) (part : Int) (block : Int) (vat : Int) (w : World) (R : Value → World → Prop) : fnV Tryz.prog Tryz.f91 (.c .nil .nil) [(.pointer (some (⟨bB, 0, none⟩ : Addr))), (.int .i64 part), (.int .i64 block), (.int .i64 vat)] w R = brain_Brain_Row.vc bB part block vat w R := by kernel_rfl
theorem brain_Brain_Row.calls (bB : Nat) (part : Int) (block : Int) (vat : Int) {w : World} {R : Value → World → Prop} (h : brain_Brain_Row.vc bB part block vat w R) : Calls Tryz.prog 91 #[(.pointer (some (⟨bB, 0, none⟩ : Addr))), (.int .i64 part), (.int .i64 block), (.int .i64 vat)] w (Ret R) :=
  calls_V fit Tryz.func91 (.c .nil .nil) (by rw [show (#[(.pointer (some (⟨bB, 0, none⟩ : Addr))), (.int .i64 part), (.int .i64 block), (.int .i64 vat)] : Array Value).toList = [(.pointer (some (⟨bB, 0, none⟩ : Addr))), (.int .i64 part), (.int .i64 block), (.int .i64 vat)] from rfl, brain_Brain_Row.vc_eq]; exact h)
end Go.Proofs.YtbadkcnemcnhfaaGreatDoor.Vc

set_option linter.unusedVariables false
set_option maxRecDepth 100000
namespace Go.Proofs.YtbadkcnemcnhfaaGreatDoor.Vc
open Go Go.Proofs Go.Proofs.YtbadkcnemcnhfaaGreatDoor.V
/-- function 12 -/
def coadjutorlaw39_ints.vc (aA : Option Addr) (aN : Nat) (aC : Nat) (bA : Option Addr) (bN : Nat) (bC : Nat) (w : World) (R : Value → World → Prop) : Prop :=
  ((((aN : Nat) : Int) != ((bN : Nat) : Int)) = true →
  R (.bool false) w) ∧
  ((((aN : Nat) : Int) != ((bN : Nat) : Int)) = false →
  ∃ vI : Int → Nat → World → Prop, (∃ vk_2 : Nat, vI 0 vk_2 w) ∧
  ∀ (jk : Nat → Value) (i : Int), ∀ (vk : Nat) (w1 : World), vI i vk w1 →
  (decide (i < ((aN : Nat) : Int)) = true →
  ∃ vS : World → Prop, ∀ w2 : World, w2 = w1.drew → vS w2 ∧
  (0 ≤ i ∧ i < ((aN : Nat) : Int)) ∧ someV aA fun p =>
  ∃ (x20 : Int), (∀ w3, vS w3 → w3.cell? (p.add (i.toNat * 1)) = some (.int .i64 x20)) ∧
  (0 ≤ i ∧ i < ((bN : Nat) : Int)) ∧ someV bA fun p_1 =>
  ∃ (x24 : Int), (∀ w4, vS w4 → w4.cell? (p_1.add (i.toNat * 1)) = some (.int .i64 x24)) ∧
  ((x20 != x24) = true →
  R (.bool false) w2) ∧
  ((x20 != x24) = false →
  ∃ vk_1 : Nat, vk_1 < vk ∧ vI (IntKind.i64.wrap (i + 1)) vk_1 w2)) ∧
  (decide (i < ((aN : Nat) : Int)) = false →
  R (.bool true) w1))
theorem coadjutorlaw39_ints.vc_eq (aA : Option Addr) (aN : Nat) (aC : Nat) (bA : Option Addr) (bN : Nat) (bC : Nat) (w : World) (R : Value → World → Prop) : fnV Tryz.prog Tryz.f12 (.c .nil (.lp [(4, none), (5, some (.int .i64)), (11, none), (12, none), (13, none), (14, none), (15, none), (16, none), (17, none), (18, none), (19, none), (20, none), (21, none), (22, none), (23, none), (24, none), (25, none)] (.c (.tk 0 (.tk 1 (.tk 2 (.tk 3 (.tk 4 (.tk 5 (.tk 6 (.tk 7 (.tk 8 (.fin (.c .nil .nil))))))))))) .nil))) [(.slice aA aN aC), (.slice bA bN bC)] w R = coadjutorlaw39_ints.vc aA aN aC bA bN bC w R := by kernel_rfl
theorem coadjutorlaw39_ints.calls (aA : Option Addr) (aN : Nat) (aC : Nat) (bA : Option Addr) (bN : Nat) (bC : Nat) {w : World} {R : Value → World → Prop} (h : coadjutorlaw39_ints.vc aA aN aC bA bN bC w R) : Calls Tryz.prog 12 #[(.slice aA aN aC), (.slice bA bN bC)] w (Ret R) :=
  calls_V fit Tryz.func12 (.c .nil (.lp [(4, none), (5, some (.int .i64)), (11, none), (12, none), (13, none), (14, none), (15, none), (16, none), (17, none), (18, none), (19, none), (20, none), (21, none), (22, none), (23, none), (24, none), (25, none)] (.c (.tk 0 (.tk 1 (.tk 2 (.tk 3 (.tk 4 (.tk 5 (.tk 6 (.tk 7 (.tk 8 (.fin (.c .nil .nil))))))))))) .nil))) (by rw [show (#[(.slice aA aN aC), (.slice bA bN bC)] : Array Value).toList = [(.slice aA aN aC), (.slice bA bN bC)] from rfl, coadjutorlaw39_ints.vc_eq]; exact h)
end Go.Proofs.YtbadkcnemcnhfaaGreatDoor.Vc

set_option linter.unusedVariables false
set_option maxRecDepth 100000
namespace Go.Proofs.YtbadkcnemcnhfaaGreatDoor.Vc
open Go Go.Proofs Go.Proofs.YtbadkcnemcnhfaaGreatDoor.V
/-- function 22 -/
def slices_Equal.vc (s1A : Option Addr) (s1N : Nat) (s1C : Nat) (s2A : Option Addr) (s2N : Nat) (s2C : Nat) (w : World) (R : Value → World → Prop) : Prop :=
  ((((s1N : Nat) : Int) != ((s2N : Nat) : Int)) = true →
  R (.bool false) w) ∧
  ((((s1N : Nat) : Int) != ((s2N : Nat) : Int)) = false →
  ∃ vI : Int → Nat → World → Prop, (∃ vk_2 : Nat, vI 0 vk_2 w) ∧
  ∀ (jk : Nat → Value) (x13 : Int), ∀ (vk : Nat) (w1 : World), vI x13 vk w1 →
  (decide (x13 < ((s1N : Nat) : Int)) = true →
  ∃ vS : World → Prop, ∀ w2 : World, w2 = w1.drew → vS w2 ∧
  (0 ≤ x13 ∧ x13 < ((s1N : Nat) : Int)) ∧ someV s1A fun p =>
  ∃ (x19 : Int), (∀ w3, vS w3 → w3.cell? (p.add (x13.toNat * 1)) = some (.int .i64 x19)) ∧
  (0 ≤ x13 ∧ x13 < ((s2N : Nat) : Int)) ∧ someV s2A fun p_1 =>
  ∃ (x23 : Int), (∀ w4, vS w4 → w4.cell? (p_1.add (x13.toNat * 1)) = some (.int .i64 x23)) ∧
  ((x19 != x23) = true →
  R (.bool false) w2) ∧
  ((x19 != x23) = false →
  ∃ vk_1 : Nat, vk_1 < vk ∧ vI (IntKind.i64.wrap (x13 + 1)) vk_1 w2)) ∧
  (decide (x13 < ((s1N : Nat) : Int)) = false →
  R (.bool true) w1))
theorem slices_Equal.vc_eq (s1A : Option Addr) (s1N : Nat) (s1C : Nat) (s2A : Option Addr) (s2N : Nat) (s2C : Nat) (w : World) (R : Value → World → Prop) : fnV Tryz.prog Tryz.f22 (.c .nil (.lp [(4, none), (5, none), (13, some (.int .i64)), (14, none), (15, none), (16, none), (17, none), (18, none), (19, none), (20, none), (21, none), (22, none), (23, none), (24, none), (25, none)] (.c (.tk 0 (.tk 1 (.tk 2 (.tk 3 (.tk 4 (.tk 5 (.tk 6 (.tk 7 (.tk 8 (.fin (.c .nil .nil))))))))))) .nil))) [(.slice s1A s1N s1C), (.slice s2A s2N s2C)] w R = slices_Equal.vc s1A s1N s1C s2A s2N s2C w R := by kernel_rfl
theorem slices_Equal.calls (s1A : Option Addr) (s1N : Nat) (s1C : Nat) (s2A : Option Addr) (s2N : Nat) (s2C : Nat) {w : World} {R : Value → World → Prop} (h : slices_Equal.vc s1A s1N s1C s2A s2N s2C w R) : Calls Tryz.prog 22 #[(.slice s1A s1N s1C), (.slice s2A s2N s2C)] w (Ret R) :=
  calls_V fit Tryz.func22 (.c .nil (.lp [(4, none), (5, none), (13, some (.int .i64)), (14, none), (15, none), (16, none), (17, none), (18, none), (19, none), (20, none), (21, none), (22, none), (23, none), (24, none), (25, none)] (.c (.tk 0 (.tk 1 (.tk 2 (.tk 3 (.tk 4 (.tk 5 (.tk 6 (.tk 7 (.tk 8 (.fin (.c .nil .nil))))))))))) .nil))) (by rw [show (#[(.slice s1A s1N s1C), (.slice s2A s2N s2C)] : Array Value).toList = [(.slice s1A s1N s1C), (.slice s2A s2N s2C)] from rfl, slices_Equal.vc_eq]; exact h)
end Go.Proofs.YtbadkcnemcnhfaaGreatDoor.Vc

set_option linter.unusedVariables false
set_option maxRecDepth 100000
namespace Go.Proofs.YtbadkcnemcnhfaaGreatDoor.Vc
open Go Go.Proofs Go.Proofs.YtbadkcnemcnhfaaGreatDoor.V
/-- function 88 -/
def step_Run_c1.vc (n : Int) (c0B : Nat) (w : World) (R : Value → World → Prop) : Prop :=
  ∃ (x4 : Option Addr), w.cell? (⟨c0B, 0, none⟩ : Addr) = some (.pointer x4) ∧
  Calls Tryz.prog 89 #[(.pointer x4), (.int .i64 n)] w (Ret fun v w1 => ∃ (x6 : Bool), v = (.bool x6) ∧
  R (.bool (!x6)) w1)
theorem step_Run_c1.vc_eq (n : Int) (c0B : Nat) (w : World) (R : Value → World → Prop) : fnV Tryz.prog Tryz.f88 .nil [(.int .i64 n), (.pointer (some (⟨c0B, 0, none⟩ : Addr)))] w R = step_Run_c1.vc n c0B w R := by kernel_rfl
theorem step_Run_c1.calls (n : Int) (c0B : Nat) {w : World} {R : Value → World → Prop} (h : step_Run_c1.vc n c0B w R) : Calls Tryz.prog 88 #[(.int .i64 n), (.pointer (some (⟨c0B, 0, none⟩ : Addr)))] w (Ret R) :=
  calls_V fit Tryz.func88 .nil (by rw [show (#[(.int .i64 n), (.pointer (some (⟨c0B, 0, none⟩ : Addr)))] : Array Value).toList = [(.int .i64 n), (.pointer (some (⟨c0B, 0, none⟩ : Addr)))] from rfl, step_Run_c1.vc_eq]; exact h)
/-- function 85 -/
def slices_ContainsFunc.vc_rn (sA : Option Addr) (sN : Nat) (sC : Nat) (c0B : Nat) (w : World) (R : Value → World → Prop) : Prop :=
  Calls Tryz.prog 108 #[(.slice sA sN sC), (.func (.func 88) #[] #[(.pointer (some (⟨c0B, 0, none⟩ : Addr)))])] w (Ret fun v w1 => ∃ (x7 : Int), v = (.int .i64 x7) ∧
  R (.bool (decide (x7 ≥ (0 : Int)))) w1)
theorem slices_ContainsFunc.vc_rn_eq (sA : Option Addr) (sN : Nat) (sC : Nat) (c0B : Nat) (w : World) (R : Value → World → Prop) : fnV Tryz.prog Tryz.f85 .nil [(.slice sA sN sC), (.func (.func 88) #[] #[(.pointer (some (⟨c0B, 0, none⟩ : Addr)))])] w R = slices_ContainsFunc.vc_rn sA sN sC c0B w R := by kernel_rfl
theorem slices_ContainsFunc.calls_rn (sA : Option Addr) (sN : Nat) (sC : Nat) (c0B : Nat) {w : World} {R : Value → World → Prop} (h : slices_ContainsFunc.vc_rn sA sN sC c0B w R) : Calls Tryz.prog 85 #[(.slice sA sN sC), (.func (.func 88) #[] #[(.pointer (some (⟨c0B, 0, none⟩ : Addr)))])] w (Ret R) :=
  calls_V fit Tryz.func85 .nil (by rw [show (#[(.slice sA sN sC), (.func (.func 88) #[] #[(.pointer (some (⟨c0B, 0, none⟩ : Addr)))])] : Array Value).toList = [(.slice sA sN sC), (.func (.func 88) #[] #[(.pointer (some (⟨c0B, 0, none⟩ : Addr)))])] from rfl, slices_ContainsFunc.vc_rn_eq]; exact h)
/-- function 108 -/
def slices_IndexFunc.vc_rn (sA : Option Addr) (sN : Nat) (sC : Nat) (c0B : Nat) (w : World) (R : Value → World → Prop) : Prop :=
  ∃ vI : Int → Nat → World → Prop, (∃ vk_2 : Nat, vI 0 vk_2 w) ∧
  ∀ (jk : Nat → Value) (x8 : Int), ∀ (vk : Nat) (w1 : World), vI x8 vk w1 →
  (decide (x8 < ((sN : Nat) : Int)) = true →
  (0 ≤ x8 ∧ x8 < ((sN : Nat) : Int)) ∧ someV sA fun p =>
  ∃ (x15 : Int), w1.cell? (p.add (x8.toNat * 1)) = some (.int .i64 x15) ∧
  Calls Tryz.prog 88 #[(.int .i64 x15), (.pointer (some (⟨c0B, 0, none⟩ : Addr)))] w1 (Ret fun v w2 => ∃ (x16 : Bool), v = (.bool x16) ∧
  (x16 = true →
  R (.int .i64 x8) w2) ∧
  (x16 = false →
  ∃ vk_1 : Nat, vk_1 < vk ∧ vI (IntKind.i64.wrap (x8 + 1)) vk_1 w2))) ∧
  (decide (x8 < ((sN : Nat) : Int)) = false →
  R (.int .i64 (-1)) w1)
theorem slices_IndexFunc.vc_rn_eq (sA : Option Addr) (sN : Nat) (sC : Nat) (c0B : Nat) (w : World) (R : Value → World → Prop) : fnV Tryz.prog Tryz.f108 (.lp [(4, none), (5, none), (8, some (.int .i64)), (9, none), (10, none), (11, none), (12, none), (13, none), (14, none), (15, none), (16, none), (17, none), (18, none)] (.c (.c .nil .nil) .nil)) [(.slice sA sN sC), (.func (.func 88) #[] #[(.pointer (some (⟨c0B, 0, none⟩ : Addr)))])] w R = slices_IndexFunc.vc_rn sA sN sC c0B w R := by kernel_rfl
theorem slices_IndexFunc.calls_rn (sA : Option Addr) (sN : Nat) (sC : Nat) (c0B : Nat) {w : World} {R : Value → World → Prop} (h : slices_IndexFunc.vc_rn sA sN sC c0B w R) : Calls Tryz.prog 108 #[(.slice sA sN sC), (.func (.func 88) #[] #[(.pointer (some (⟨c0B, 0, none⟩ : Addr)))])] w (Ret R) :=
  calls_V fit Tryz.func108 (.lp [(4, none), (5, none), (8, some (.int .i64)), (9, none), (10, none), (11, none), (12, none), (13, none), (14, none), (15, none), (16, none), (17, none), (18, none)] (.c (.c .nil .nil) .nil)) (by rw [show (#[(.slice sA sN sC), (.func (.func 88) #[] #[(.pointer (some (⟨c0B, 0, none⟩ : Addr)))])] : Array Value).toList = [(.slice sA sN sC), (.func (.func 88) #[] #[(.pointer (some (⟨c0B, 0, none⟩ : Addr)))])] from rfl, slices_IndexFunc.vc_rn_eq]; exact h)
/-- function 61 -/
def step_Run.vc (bB : Nat) (pastA : Option Addr) (pastN : Nat) (pastC : Nat) (tokensA : Option Addr) (tokensN : Nat) (tokensC : Nat) (w : World) (R : Value → World → Prop) : Prop :=
  ∀ w1 : World, w1 = w.alloc (.cells #[(.pointer (some (⟨bB, 0, none⟩ : Addr)))] 26 (0, 0)) →
  ∃ (x17 : Option Addr), w1.cell? (⟨w.heap.size, 0, none⟩ : Addr) = some (.pointer x17) ∧
  Calls Tryz.prog 87 #[(.pointer x17), (.slice pastA pastN pastC)] w1 (Ret fun v w2 => ∃ (x19 : Int), v = (.int .i64 x19) ∧
  ((x19 != (0 : Int)) = true →
  R (.tuple #[(.slice none 0 0), (.slice none 0 0), (.int .i64 x19)]) w2) ∧
  ((x19 != (0 : Int)) = false →
  ((((tokensN : Nat) : Int) == (0 : Int)) = true →
  R (.tuple #[(.slice none 0 0), (.slice none 0 0), (.int .i64 1)]) w2) ∧
  ((((tokensN : Nat) : Int) == (0 : Int)) = false →
  Calls Tryz.prog 85 #[(.slice tokensA tokensN tokensC), (.func (.func 88) #[] #[(.pointer (some (⟨w.heap.size, 0, none⟩ : Addr)))])] w2 (Ret fun v_1 w3 => ∃ (x30 : Bool), v_1 = (.bool x30) ∧
  (x30 = true →
  R (.tuple #[(.slice none 0 0), (.slice none 0 0), (.int .i64 3)]) w3) ∧
  (x30 = false →
  ∃ (x37 : Option Addr), w3.cell? (⟨w.heap.size, 0, none⟩ : Addr) = some (.pointer x37) ∧
  someV x37 fun p =>
  ∃ (x42 : Int), w3.cell? (p.add 5) = some (.int .i64 x42) ∧
  (decide ((IntKind.i64.wrap (((tokensN : Nat) : Int) + ((pastN : Nat) : Int))) > x42) = true →
  R (.tuple #[(.slice none 0 0), (.slice none 0 0), (.int .i64 12)]) w3) ∧
  (decide ((IntKind.i64.wrap (((tokensN : Nat) : Int) + ((pastN : Nat) : Int))) > x42) = false →
  Calls Tryz.prog 90 #[(.slice pastA pastN pastC)] w3 (Ret fun v_2 w4 => ∃ (x45A : Option Addr), ∃ (x45N : Nat), ∃ (x45C : Nat), v_2 = (.slice x45A x45N x45C) ∧
  ∃ vI : Option Addr → Nat → Nat → Option Addr → Nat → Nat → Int → Nat → World → Prop, (∃ vk_2 : Nat, vI none 0 0 x45A x45N x45C 0 vk_2 w4) ∧
  ∀ (jk : Nat → Value) (scoresA : Option Addr) (scoresN : Nat) (scoresC : Nat) (allA : Option Addr) (allN : Nat) (allC : Nat) (x48 : Int), ∀ (vk : Nat) (w5 : World), vI scoresA scoresN scoresC allA allN allC x48 vk w5 →
  (decide (x48 < ((tokensN : Nat) : Int)) = true →
  (0 ≤ x48 ∧ x48 < ((tokensN : Nat) : Int)) ∧ someV tokensA fun p_1 =>
  ∃ (x51 : Int), w5.cell? (p_1.add (x48.toNat * 1)) = some (.int .i64 x51) ∧
  ∃ (x53 : Option Addr), w5.cell? (⟨w.heap.size, 0, none⟩ : Addr) = some (.pointer x53) ∧
  Calls Tryz.prog 62 #[(.pointer x53), (.slice allA allN allC), (.int .i64 x51)] w5 (Ret fun v_3 w6 => ∃ (x56_00A : Option Addr), ∃ (x56_00N : Nat), ∃ (x56_00C : Nat), ∃ (x56_01A : Option Addr), ∃ (x56_01N : Nat), ∃ (x56_01C : Nat), ∃ (x56_1A : Option Addr), ∃ (x56_1N : Nat), ∃ (x56_1C : Nat), ∃ (x56_2 : Int), v_3 = (.tuple #[(.agg #[(.slice x56_00A x56_00N x56_00C), (.slice x56_01A x56_01N x56_01C)]), (.slice x56_1A x56_1N x56_1C), (.int .i64 x56_2)]) ∧
  ∀ w7 : World, w7 = w6.alloc (.cells #[(.slice none 0 0), (.slice none 0 0)] 113 (0, 0)) →
  (((∃ u, w7.cell? (⟨w6.heap.size, 0, none⟩ : Addr) = some u) ∧ w7.frozen? (⟨w6.heap.size, 0, none⟩ : Addr) = false) ∧ ((∃ u, w7.cell? (⟨w6.heap.size, 1, none⟩ : Addr) = some u) ∧ w7.frozen? (⟨w6.heap.size, 1, none⟩ : Addr) = false)) ∧ ∀ w8 : World, w8 = ((w7.setCell (⟨w6.heap.size, 0, none⟩ : Addr) (.slice x56_00A x56_00N x56_00C)).setCell (⟨w6.heap.size, 1, none⟩ : Addr) (.slice x56_01A x56_01N x56_01C)) →
  ((x56_2 != (0 : Int)) = true →
  R (.tuple #[(.slice none 0 0), (.slice none 0 0), (.int .i64 x56_2)]) w8) ∧
  ((x56_2 != (0 : Int)) = false →
  ∃ (x640A : Option Addr), ∃ (x640N : Nat), ∃ (x640C : Nat), ∃ (x641A : Option Addr), ∃ (x641N : Nat), ∃ (x641C : Nat), (w8.cell? (⟨w6.heap.size, 0, none⟩ : Addr) = some (.slice x640A x640N x640C) ∧ w8.cell? (⟨w6.heap.size, 1, none⟩ : Addr) = some (.slice x641A x641N x641C)) ∧
  ∀ w9 : World, w9 = w8.alloc (.cells #[(.slice x640A x640N x640C), (.slice x641A x641N x641C)] 113 (0, 0)) →
  ∃ (x66A : Option Addr), ∃ (x66N : Nat), ∃ (x66C : Nat), ∃ w10 : World, (Builtin.append_ #[109, 109] 109 #[(.slice allA allN allC), (.slice (some (⟨w8.heap.size, 0, none⟩ : Addr)) 1 1)]).run Tryz.prog w9 = .ok (.slice x66A x66N x66C) w10 ∧
  ∃ vk_1 : Nat, vk_1 < vk ∧ vI x56_1A x56_1N x56_1C x66A x66N x66C (IntKind.i64.wrap (x48 + 1)) vk_1 w10))) ∧
  (decide (x48 < ((tokensN : Nat) : Int)) = false →
  (0 ≤ ((pastN : Nat) : Int) ∧ ((pastN : Nat) : Int) ≤ ((allN : Nat) : Int)) ∧
  R (.tuple #[(.slice (if allC = ((pastN : Nat) : Int).toNat then allA else allA.map (·.add (((pastN : Nat) : Int).toNat * 2))) (allN - ((pastN : Nat) : Int).toNat) (allC - ((pastN : Nat) : Int).toNat)), (.slice scoresA scoresN scoresC), (.int .i64 0)]) w5))))))))
theorem step_Run.vc_eq (bB : Nat) (pastA : Option Addr) (pastN : Nat) (pastC : Nat) (tokensA : Option Addr) (tokensN : Nat) (tokensC : Nat) (w : World) (R : Value → World → Prop) : fnV Tryz.prog Tryz.f61 (.c .nil (.c .nil (.c .nil (.c .nil (.lp [(6, none), (7, none), (8, none), (10, some (.slice)), (11, some (.slice)), (13, none), (14, none), (15, none), (16, none), (48, some (.int .i64)), (49, none), (50, none), (51, none), (52, none), (53, none), (54, none), (55, none), (56, none), (57, none), (58, none), (59, none), (60, none), (61, none), (62, none), (63, none), (64, none), (65, none), (66, none), (67, none), (68, none)] (.c (.c .nil .nil) .nil)))))) [(.pointer (some (⟨bB, 0, none⟩ : Addr))), (.slice pastA pastN pastC), (.slice tokensA tokensN tokensC)] w R = step_Run.vc bB pastA pastN pastC tokensA tokensN tokensC w R := by kernel_rfl
theorem step_Run.calls (bB : Nat) (pastA : Option Addr) (pastN : Nat) (pastC : Nat) (tokensA : Option Addr) (tokensN : Nat) (tokensC : Nat) {w : World} {R : Value → World → Prop} (h : step_Run.vc bB pastA pastN pastC tokensA tokensN tokensC w R) : Calls Tryz.prog 61 #[(.pointer (some (⟨bB, 0, none⟩ : Addr))), (.slice pastA pastN pastC), (.slice tokensA tokensN tokensC)] w (Ret R) :=
  calls_V fit Tryz.func61 (.c .nil (.c .nil (.c .nil (.c .nil (.lp [(6, none), (7, none), (8, none), (10, some (.slice)), (11, some (.slice)), (13, none), (14, none), (15, none), (16, none), (48, some (.int .i64)), (49, none), (50, none), (51, none), (52, none), (53, none), (54, none), (55, none), (56, none), (57, none), (58, none), (59, none), (60, none), (61, none), (62, none), (63, none), (64, none), (65, none), (66, none), (67, none), (68, none)] (.c (.c .nil .nil) .nil)))))) (by rw [show (#[(.pointer (some (⟨bB, 0, none⟩ : Addr))), (.slice pastA pastN pastC), (.slice tokensA tokensN tokensC)] : Array Value).toList = [(.pointer (some (⟨bB, 0, none⟩ : Addr))), (.slice pastA pastN pastC), (.slice tokensA tokensN tokensC)] from rfl, step_Run.vc_eq]; exact h)
end Go.Proofs.YtbadkcnemcnhfaaGreatDoor.Vc

set_option linter.unusedVariables false
set_option maxRecDepth 100000
namespace Go.Proofs.YtbadkcnemcnhfaaGreatDoor.Vc
open Go Go.Proofs Go.Proofs.YtbadkcnemcnhfaaGreatDoor.V
end Go.Proofs.YtbadkcnemcnhfaaGreatDoor.Vc
