import Derived.Test.YtkbikekbaboclaaGreatVc
import Derived.Test.YtkbikekbaboclaaGreatH
import Derived.Test.YtkbikekbaboclaaGreatProg
import Derived.KernelRfl
set_option linter.unusedVariables false
set_option maxRecDepth 100000
namespace Go.Proofs.YtkbikekbaboclaaGreat.Vc
open Go Go.Proofs V
def num_Clamp.vc (x : Int) (low : Int) (high : Int) (w : World) (R : Value → World → Prop) : Prop :=
 (decide (x < low) = true →
 R (.int .i64 low) w) ∧
 (decide (x < low) = false →
 (decide (x > high) = true →
 R (.int .i64 high) w) ∧
 (decide (x > high) = false →
 R (.int .i64 x) w))
theorem num_Clamp.calls (x : Int) (low : Int) (high : Int) {w : World} {R : Value → World → Prop} (h : num_Clamp.vc x low high w R) : Calls Tryz.prog 153 #[(.int .i64 x), (.int .i64 low), (.int .i64 high)] w (Ret R) :=
 calls_V fit Tryz.func153 (.c .nil (.c .nil .nil)) (Eq.mpr (by kernel_rfl) h)
def num_Sat.vc (x : Int) (w : World) (R : Value → World → Prop) : Prop :=
 Calls Tryz.prog 153 #[(.int .i64 x), (.int .i64 (-32767)), (.int .i64 32767)] w (Ret fun v w1 => ∃ x4 : Int, v = (.int .i64 x4) ∧
 R (.int .i64 x4) w1)
theorem num_Sat.calls (x : Int) {w : World} {R : Value → World → Prop} (h : num_Sat.vc x w R) : Calls Tryz.prog 115 #[(.int .i64 x)] w (Ret R) :=
 calls_V fit Tryz.func115 .nil (Eq.mpr (by kernel_rfl) h)
def num_Shift.vc (x : Int) (n : Int) (w : World) (R : Value → World → Prop) : Prop :=
 (decide (n ≤ (0 : Int)) = true →
 R (.int .i64 x) w) ∧
 (decide (n ≤ (0 : Int)) = false →
 (decide (n ≥ (63 : Int)) = true →
 R (.int .i64 0) w) ∧
 (decide (n ≥ (63 : Int)) = false →
 ∃ vS : World → Prop, ∀ w1 : World, w1 = w.drew → vS w1 ∧
 0 ≤ n ∧
 0 ≤ (IntKind.i64.wrap (n - 1)) ∧
 R (.int .i64 (IntKind.i64.wrap ((Int.fdiv x (2 ^ (min n.toNat IntKind.i64.bits))) + (Go.bits .and .i64 (Int.fdiv x (2 ^ (min (IntKind.i64.wrap (n - 1)).toNat IntKind.i64.bits))) 1)))) w1))
theorem num_Shift.calls (x : Int) (n : Int) {w : World} {R : Value → World → Prop} (h : num_Shift.vc x n w R) : Calls Tryz.prog 160 #[(.int .i64 x), (.int .i64 n)] w (Ret R) :=
 calls_V fit Tryz.func160 (.c .nil (.c .nil (.tk 0 (.tk 1 (.tk 2 (.tk 3 (.tk 4 (.tk 5 (.tk 6 (.tk 7 (.tk 8 (.tk 9 (.fin .nil))))))))))))) (Eq.mpr (by kernel_rfl) h)
def num_Mul.vc (va : Int) (b : Int) (n : Int) (w : World) (R : Value → World → Prop) : Prop :=
 Calls Tryz.prog 189 #[(.int .i64 va), (.int .i64 b)] w (Ret fun v w1 => ∃ x9 : Int, v = (.int .i64 x9) ∧
 Calls Tryz.prog 160 #[(.int .i64 x9), (.int .i64 n)] w1 (Ret fun v_1 w2 => ∃ x11 : Int, v_1 = (.int .i64 x11) ∧
 Calls Tryz.prog 115 #[(.int .i64 x11)] w2 (Ret fun v_2 w3 => ∃ x12 : Int, v_2 = (.int .i64 x12) ∧
 R (.int .i64 x12) w3)))
theorem num_Mul.calls (va : Int) (b : Int) (n : Int) {w : World} {R : Value → World → Prop} (h : num_Mul.vc va b n w R) : Calls Tryz.prog 187 #[(.int .i64 va), (.int .i64 b), (.int .i64 n)] w (Ret R) :=
 calls_V fit Tryz.func187 .nil (Eq.mpr (by kernel_rfl) h)
def num_Sqrt.vc (n : Int) (w : World) (R : Value → World → Prop) : Prop :=
 (decide (n ≤ (0 : Int)) = true →
 R (.int .i64 0) w) ∧
 (decide (n ≤ (0 : Int)) = false →
 (2 : Int) ≠ 0 ∧
 ∃ vI : Int → Int → Nat → World → Prop, (∃ vk_2 : Nat, vI n (IntKind.i64.wrap ((IntKind.i64.wrap (Int.tdiv n 2)) + (Go.bits .and .i64 n 1))) vk_2 w) ∧
 ∀ (jk : Nat → Value) (x : Int) (y : Int), ∀ (vk : Nat) (w1 : World), vI x y vk w1 →
 (decide (y < x) = true →
 y ≠ 0 ∧
 (2 : Int) ≠ 0 ∧
 ∃ vk_1 : Nat, vk_1 < vk ∧ vI y (IntKind.i64.wrap (Int.tdiv (IntKind.i64.wrap (y + (IntKind.i64.wrap (Int.tdiv n y)))) 2)) vk_1 w1) ∧
 (decide (y < x) = false →
 R (.int .i64 x) w1))
theorem num_Sqrt.calls (n : Int) {w : World} {R : Value → World → Prop} (h : num_Sqrt.vc n w R) : Calls Tryz.prog 203 #[(.int .i64 n)] w (Ret R) :=
 calls_V fit Tryz.func203 (.c .nil (.lp ([(3, some (.int .i64)), (4, some (.int .i64))] ++ nn 13 10) (.c .nil .nil))) (Eq.mpr (by kernel_rfl) h)
def num_Div.vc (va : Int) (b : Int) (w : World) (R : Value → World → Prop) : Prop :=
 ((b == (0 : Int)) = true →
 R (.int .i64 0) w) ∧
 ((b == (0 : Int)) = false →
 ((b == (-1 : Int)) = true →
 R (.int .i64 (if (IntKind.i64.wrap (0 - (IntKind.i64.wrap (va + 1)))) > (IntKind.i64.wrap (0 - va)) then (IntKind.i64.wrap (0 - (IntKind.i64.wrap (va + 1)))) else (IntKind.i64.wrap (0 - va)))) w) ∧
 ((b == (-1 : Int)) = false →
 b ≠ 0 ∧
 b ≠ 0 ∧
 (((Int.tmod va b) != (0 : Int)) = true →
 ((!((decide (va < (0 : Int))) == (decide (b < (0 : Int))))) = true →
 R (.int .i64 (IntKind.i64.wrap ((IntKind.i64.wrap (Int.tdiv va b)) - 1))) w) ∧
 ((!((decide (va < (0 : Int))) == (decide (b < (0 : Int))))) = false →
 R (.int .i64 (IntKind.i64.wrap (Int.tdiv va b))) w)) ∧
 (((Int.tmod va b) != (0 : Int)) = false →
 R (.int .i64 (IntKind.i64.wrap (Int.tdiv va b))) w)))
theorem num_Div.calls (va : Int) (b : Int) {w : World} {R : Value → World → Prop} (h : num_Div.vc va b w R) : Calls Tryz.prog 200 #[(.int .i64 va), (.int .i64 b)] w (Ret R) :=
 calls_V fit Tryz.func200 (.c .nil (.c .nil (.at_ 6 4 (.c .nil .nil) (.k .nil)))) (Eq.mpr (by kernel_rfl) h)
def num_product.vc (va : Int) (b : Int) (w : World) (R : Value → World → Prop) : Prop :=
 Calls Tryz.prog 153 #[(.int .i64 va), (.int .i64 (-1073741824)), (.int .i64 1073741824)] w (Ret fun v w1 => ∃ x6 : Int, v = (.int .i64 x6) ∧
 Calls Tryz.prog 153 #[(.int .i64 b), (.int .i64 (-1073741824)), (.int .i64 1073741824)] w1 (Ret fun v_1 w2 => ∃ x8 : Int, v_1 = (.int .i64 x8) ∧
 R (.int .i64 (IntKind.i64.wrap (x6 * x8))) w2))
theorem num_product.calls (va : Int) (b : Int) {w : World} {R : Value → World → Prop} (h : num_product.vc va b w R) : Calls Tryz.prog 189 #[(.int .i64 va), (.int .i64 b)] w (Ret R) :=
 calls_V fit Tryz.func189 .nil (Eq.mpr (by kernel_rfl) h)
def num_Sum.vc (listA : Option Addr) (listN : Nat) (listC : Nat) (w : World) (R : Value → World → Prop) : Prop :=
 ∃ vI : Int → Int → Nat → World → Prop, (∃ vk_2 : Nat, vI 0 0 vk_2 w) ∧
 ∀ (jk : Nat → Value) (out : Int) (x8 : Int), ∀ (vk : Nat) (w1 : World), vI out x8 vk w1 →
 (decide (x8 < (listN : Int)) = true →
 (0 ≤ x8 ∧ x8 < (listN : Int)) ∧ someV listA fun p =>
 ∃ x11 : Int, w1.cell? (p.add (x8.toNat * 1)) = some (.int .i64 x11) ∧
 Calls Tryz.prog 153 #[(.int .i64 x11), (.int .i64 (-2305843009213693952)), (.int .i64 2305843009213693952)] w1 (Ret fun v w2 => ∃ x14 : Int, v = (.int .i64 x14) ∧
 Calls Tryz.prog 153 #[(.int .i64 (IntKind.i64.wrap (out + x14))), (.int .i64 (-4611686018427387904)), (.int .i64 4611686018427387904)] w2 (Ret fun v_1 w3 => ∃ x16 : Int, v_1 = (.int .i64 x16) ∧
 ∃ vk_1 : Nat, vk_1 < vk ∧ vI x16 (IntKind.i64.wrap (x8 + 1)) vk_1 w3))) ∧
 (decide (x8 < (listN : Int)) = false →
 R (.int .i64 out) w1)
theorem num_Sum.calls (listA : Option Addr) (listN : Nat) (listC : Nat) {w : World} {R : Value → World → Prop} (h : num_Sum.vc listA listN listC w R) : Calls Tryz.prog 125 #[(.slice listA listN listC)] w (Ret R) :=
 calls_V fit Tryz.func125 (.lp ([(3, some (.int .i64)), (5, none), (8, some (.int .i64))] ++ nn 9 9) (.c .nil .nil)) (Eq.mpr (by kernel_rfl) h)
def num_Mean.vc (listA : Option Addr) (listN : Nat) (listC : Nat) (w : World) (R : Value → World → Prop) : Prop :=
 Calls Tryz.prog 125 #[(.slice listA listN listC)] w (Ret fun v w1 => ∃ x4 : Int, v = (.int .i64 x4) ∧
 Calls Tryz.prog 200 #[(.int .i64 x4), (.int .i64 (listN : Int))] w1 (Ret fun v_1 w2 => ∃ x7 : Int, v_1 = (.int .i64 x7) ∧
 R (.int .i64 x7) w2))
theorem num_Mean.calls (listA : Option Addr) (listN : Nat) (listC : Nat) {w : World} {R : Value → World → Prop} (h : num_Mean.vc listA listN listC w R) : Calls Tryz.prog 204 #[(.slice listA listN listC)] w (Ret R) :=
 calls_V fit Tryz.func204 .nil (Eq.mpr (by kernel_rfl) h)
def num_Dot.vc (aA : Option Addr) (aN : Nat) (aC : Nat) (bA : Option Addr) (bN : Nat) (bC : Nat) (w : World) (R : Value → World → Prop) : Prop :=
 ∃ vI : Int → Int → Nat → World → Prop, (∃ vk_2 : Nat, vI 0 0 vk_2 w) ∧
 ∀ (jk : Nat → Value) (out : Int) (x12 : Int), ∀ (vk : Nat) (w1 : World), vI out x12 vk w1 →
 (decide (x12 < (if (bN : Int) < (aN : Int) then (bN : Int) else (aN : Int))) = true →
 ∃ vS : World → Prop, ∀ w2 : World, w2 = w1.drew → vS w2 ∧
 (0 ≤ x12 ∧ x12 < (aN : Int)) ∧ someV aA fun p =>
 ∃ x19 : Int, (∀ w3, vS w3 → w3.cell? (p.add (x12.toNat * 1)) = some (.int .i64 x19)) ∧
 (0 ≤ x12 ∧ x12 < (bN : Int)) ∧ someV bA fun p_1 =>
 ∃ x23 : Int, (∀ w4, vS w4 → w4.cell? (p_1.add (x12.toNat * 1)) = some (.int .i64 x23)) ∧
 Calls Tryz.prog 189 #[(.int .i64 x19), (.int .i64 x23)] w2 (Ret fun v w5 => ∃ x24 : Int, v = (.int .i64 x24) ∧
 vS w5 ∧
 Calls Tryz.prog 153 #[(.int .i64 (IntKind.i64.wrap (out + x24))), (.int .i64 (-4611686018427387904)), (.int .i64 4611686018427387904)] w5 (Ret fun v_1 w6 => ∃ x26 : Int, v_1 = (.int .i64 x26) ∧
 vS w6 ∧
 ∃ vk_1 : Nat, vk_1 < vk ∧ vI x26 (IntKind.i64.wrap (x12 + 1)) vk_1 w6))) ∧
 (decide (x12 < (if (bN : Int) < (aN : Int) then (bN : Int) else (aN : Int))) = false →
 R (.int .i64 out) w1)
theorem num_Dot.calls (aA : Option Addr) (aN : Nat) (aC : Nat) (bA : Option Addr) (bN : Nat) (bC : Nat) {w : World} {R : Value → World → Prop} (h : num_Dot.vc aA aN aC bA bN bC w R) : Calls Tryz.prog 161 #[(.slice aA aN aC), (.slice bA bN bC)] w (Ret R) :=
 calls_V fit Tryz.func161 (.lp ([(5, some (.int .i64)), (6, none), (12, some (.int .i64))] ++ nn 13 15) (.c (.tk 0 (.tk 1 (.tk 2 (.tk 3 (.tk 4 (.tk 5 (.tk 6 (.tk 7 (.tk 8 (.alt 9 (.tk 10 (.alt 11 (.tk 12 (.fin .nil)) .nil)) .nil)))))))))) .nil)) (Eq.mpr (by kernel_rfl) h)
def coadjutorref01_Clamp.vc (x : Int) (low : Int) (high : Int) (w : World) (R : Value → World → Prop) : Prop :=
 (decide (x < low) = true →
 R (.int .i64 low) w) ∧
 (decide (x < low) = false →
 (decide (x > high) = true →
 R (.int .i64 high) w) ∧
 (decide (x > high) = false →
 R (.int .i64 x) w))
def coadjutorref01_Sat.vc (x : Int) (w : World) (R : Value → World → Prop) : Prop :=
 Calls Tryz.prog 167 #[(.int .i64 x), (.int .i64 (-32767)), (.int .i64 32767)] w (Ret fun v w1 => ∃ x4 : Int, v = (.int .i64 x4) ∧
 R (.int .i64 x4) w1)
def coadjutorref01_Shift.vc (x : Int) (n : Int) (w : World) (R : Value → World → Prop) : Prop :=
 (decide (n ≥ (63 : Int)) = true →
 R (.int .i64 0) w) ∧
 (decide (n ≥ (63 : Int)) = false →
 ∃ vI : Int → Int → Int → Nat → World → Prop, (∃ vk_2 : Nat, vI x 0 0 vk_2 w) ∧
 ∀ (jk : Nat → Value) (x_1 : Int) (last : Int) (i : Int), ∀ (vk : Nat) (w1 : World), vI x_1 last i vk w1 →
 (decide (i < n) = true →
 (2 : Int) ≠ 0 ∧
 ∃ vk_1 : Nat, vk_1 < vk ∧ vI (IntKind.i64.wrap (Int.tdiv (IntKind.i64.wrap (x_1 - (Go.bits .and .i64 x_1 1))) 2)) (Go.bits .and .i64 x_1 1) (IntKind.i64.wrap (i + 1)) vk_1 w1) ∧
 (decide (i < n) = false →
 R (.int .i64 (IntKind.i64.wrap (x_1 + last))) w1))
def coadjutorref01_Mul.vc (va : Int) (b : Int) (n : Int) (w : World) (R : Value → World → Prop) : Prop :=
 Calls Tryz.prog 167 #[(.int .i64 va), (.int .i64 (-1073741824)), (.int .i64 1073741824)] w (Ret fun v w1 => ∃ x8 : Int, v = (.int .i64 x8) ∧
 Calls Tryz.prog 167 #[(.int .i64 b), (.int .i64 (-1073741824)), (.int .i64 1073741824)] w1 (Ret fun v_1 w2 => ∃ x10 : Int, v_1 = (.int .i64 x10) ∧
 Calls Tryz.prog 139 #[(.int .i64 (IntKind.i64.wrap (x8 * x10))), (.int .i64 n)] w2 (Ret fun v_2 w3 => ∃ x13 : Int, v_2 = (.int .i64 x13) ∧
 Calls Tryz.prog 132 #[(.int .i64 x13)] w3 (Ret fun v_3 w4 => ∃ x14 : Int, v_3 = (.int .i64 x14) ∧
 R (.int .i64 x14) w4))))
def coadjutorref01_Sqrt.vc (n : Int) (w : World) (R : Value → World → Prop) : Prop :=
 ∃ vI : Int → Int → Nat → World → Prop, (∃ vk_2 : Nat, vI 0 31 vk_2 w) ∧
 ∀ (jk : Nat → Value) (out : Int) (vk_3 : Int), ∀ (vk : Nat) (w1 : World), vI out vk_3 vk w1 →
 (decide (vk_3 ≥ (0 : Int)) = true →
 0 ≤ vk_3 ∧
 (decide ((IntKind.i64.wrap (out + (IntKind.i64.wrap (1 * 2 ^ (min vk_3.toNat IntKind.i64.bits))))) ≤ (3037000499 : Int)) = true →
 (decide ((IntKind.i64.wrap ((IntKind.i64.wrap (out + (IntKind.i64.wrap (1 * 2 ^ (min vk_3.toNat IntKind.i64.bits))))) * (IntKind.i64.wrap (out + (IntKind.i64.wrap (1 * 2 ^ (min vk_3.toNat IntKind.i64.bits))))))) ≤ n) = true →
 ∃ vk_1 : Nat, vk_1 < vk ∧ vI (IntKind.i64.wrap (out + (IntKind.i64.wrap (1 * 2 ^ (min vk_3.toNat IntKind.i64.bits))))) (IntKind.i64.wrap (vk_3 - 1)) vk_1 w1) ∧
 (decide ((IntKind.i64.wrap ((IntKind.i64.wrap (out + (IntKind.i64.wrap (1 * 2 ^ (min vk_3.toNat IntKind.i64.bits))))) * (IntKind.i64.wrap (out + (IntKind.i64.wrap (1 * 2 ^ (min vk_3.toNat IntKind.i64.bits))))))) ≤ n) = false →
 ∃ vk_1 : Nat, vk_1 < vk ∧ vI out (IntKind.i64.wrap (vk_3 - 1)) vk_1 w1)) ∧
 (decide ((IntKind.i64.wrap (out + (IntKind.i64.wrap (1 * 2 ^ (min vk_3.toNat IntKind.i64.bits))))) ≤ (3037000499 : Int)) = false →
 ∃ vk_1 : Nat, vk_1 < vk ∧ vI out (IntKind.i64.wrap (vk_3 - 1)) vk_1 w1)) ∧
 (decide (vk_3 ≥ (0 : Int)) = false →
 R (.int .i64 out) w1)
def coadjutorref01_Div.vc (va : Int) (b : Int) (w : World) (R : Value → World → Prop) : Prop :=
 ((b == (0 : Int)) = true →
 R (.int .i64 0) w) ∧
 ((b == (0 : Int)) = false →
 ((b == (-1 : Int)) = true →
 ((va == (-9223372036854775808 : Int)) = true →
 R (.int .i64 9223372036854775807) w) ∧
 ((va == (-9223372036854775808 : Int)) = false →
 R (.int .i64 (IntKind.i64.wrap (0 - va))) w)) ∧
 ((b == (-1 : Int)) = false →
 b ≠ 0 ∧
 b ≠ 0 ∧
 (((Int.tmod va b) != (0 : Int)) = true →
 ((!((decide (va < (0 : Int))) == (decide (b < (0 : Int))))) = true →
 R (.int .i64 (IntKind.i64.wrap ((IntKind.i64.wrap (Int.tdiv va b)) - 1))) w) ∧
 ((!((decide (va < (0 : Int))) == (decide (b < (0 : Int))))) = false →
 R (.int .i64 (IntKind.i64.wrap (Int.tdiv va b))) w)) ∧
 (((Int.tmod va b) != (0 : Int)) = false →
 R (.int .i64 (IntKind.i64.wrap (Int.tdiv va b))) w)))
end Go.Proofs.YtkbikekbaboclaaGreat.Vc
set_option linter.unusedVariables false
set_option maxRecDepth 100000
namespace Go.Proofs.YtkbikekbaboclaaGreat.Vc
open Go Go.Proofs V
def vecs_isSide.vc (n : Int) (w : World) (R : Value → World → Prop) : Prop :=
 (decide (n ≥ (1 : Int)) = true →
 R (.bool (decide (n ≤ (64 : Int)))) w) ∧
 (decide (n ≥ (1 : Int)) = false →
 R (.bool false) w)
theorem vecs_isSide.calls (n : Int) {w : World} {R : Value → World → Prop} (h : vecs_isSide.vc n w R) : Calls Tryz.prog 196 #[(.int .i64 n)] w (Ret R) :=
 calls_V fit Tryz.func196 (.at_ 1 2 .nil .nil) (Eq.mpr (by kernel_rfl) h)
def vecs_Good.vc (t0 : Int) (t1 : Int) (t2A : Option Addr) (t2N : Nat) (t2C : Nat) (w : World) (R : Value → World → Prop) : Prop :=
 ∀ w1 : World, w1 = w.alloc (.cells #[(.int .i64 t0), (.int .i64 t1), (.slice t2A t2N t2C)] 213 (0, 0)) →
 ∃ x4 : Int, w1.cell? ⟨w.heap.size, 0, none⟩ = some (.int .i64 x4) ∧
 Calls Tryz.prog 196 #[(.int .i64 x4)] w1 (Ret fun v w2 => ∃ x5 : Bool, v = (.bool x5) ∧
 (x5 = true →
 ∃ x8 : Int, w2.cell? ⟨w.heap.size, 1, none⟩ = some (.int .i64 x8) ∧
 Calls Tryz.prog 196 #[(.int .i64 x8)] w2 (Ret fun v_1 w3 => ∃ x9 : Bool, v_1 = (.bool x9) ∧
 (x9 = true →
 ∃ (x13A : Option Addr) (x13N x13C : Nat), w3.cell? ⟨w.heap.size, 2, none⟩ = some (.slice x13A x13N x13C) ∧
 ∃ x16 : Int, w3.cell? ⟨w.heap.size, 0, none⟩ = some (.int .i64 x16) ∧
 ∃ x18 : Int, w3.cell? ⟨w.heap.size, 1, none⟩ = some (.int .i64 x18) ∧
 R (.bool ((x13N : Int) == (IntKind.i64.wrap (x16 * x18)))) w3) ∧
 (x9 = false →
 R (.bool false) w3))) ∧
 (x5 = false →
 R (.bool false) w2))
theorem vecs_Good.calls (t0 : Int) (t1 : Int) (t2A : Option Addr) (t2N : Nat) (t2C : Nat) {w : World} {R : Value → World → Prop} (h : vecs_Good.vc t0 t1 t2A t2N t2C w R) : Calls Tryz.prog 182 #[(.agg #[(.int .i64 t0), (.int .i64 t1), (.slice t2A t2N t2C)])] w (Ret R) :=
 calls_V fit Tryz.func182 (.at_ 1 3 (.at_ 1 8 .nil .nil) .nil) (Eq.mpr (by kernel_rfl) h)
def vecs_Of.vc (rows : Int) (cols : Int) (s : ByteArray) (w : World) (R : Value → World → Prop) : Prop :=
 ∀ w1 : World, w1 = w.alloc (.cells #[(.int .i64 0), (.int .i64 0), (.slice none 0 0)] 213 (0, 0)) →
 Calls Tryz.prog 196 #[(.int .i64 rows)] w1 (Ret fun v w2 => ∃ x13 : Bool, v = (.bool x13) ∧
 ((!x13) = true →
 (Okc w2 ⟨w.heap.size, 0, none⟩ ∧ Okc w2 ⟨w.heap.size, 1, none⟩ ∧ Okc w2 ⟨w.heap.size, 2, none⟩) ∧ ∀ w3 : World, w3 = (((w2.setCell ⟨w.heap.size, 0, none⟩ (.int .i64 0)).setCell ⟨w.heap.size, 1, none⟩ (.int .i64 0)).setCell ⟨w.heap.size, 2, none⟩ (.slice none 0 0)) →
 ∃ (r00 r01 : Int) (r02A : Option Addr) (r02N r02C : Nat), (w3.cell? ⟨w.heap.size, 0, none⟩ = some (.int .i64 r00) ∧ w3.cell? ⟨w.heap.size, 1, none⟩ = some (.int .i64 r01) ∧ w3.cell? ⟨w.heap.size, 2, none⟩ = some (.slice r02A r02N r02C)) ∧
 R (.tuple #[(.agg #[(.int .i64 r00), (.int .i64 r01), (.slice r02A r02N r02C)]), (.int .i64 1)]) w3) ∧
 ((!x13) = false →
 Calls Tryz.prog 196 #[(.int .i64 cols)] w2 (Ret fun v_1 w4 => ∃ x17 : Bool, v_1 = (.bool x17) ∧
 ((!x17) = true →
 (Okc w4 ⟨w.heap.size, 0, none⟩ ∧ Okc w4 ⟨w.heap.size, 1, none⟩ ∧ Okc w4 ⟨w.heap.size, 2, none⟩) ∧ ∀ w5 : World, w5 = (((w4.setCell ⟨w.heap.size, 0, none⟩ (.int .i64 0)).setCell ⟨w.heap.size, 1, none⟩ (.int .i64 0)).setCell ⟨w.heap.size, 2, none⟩ (.slice none 0 0)) →
 ∃ (r00_1 r01_1 : Int) (r02A_1 : Option Addr) (r02N_1 r02C_1 : Nat), (w5.cell? ⟨w.heap.size, 0, none⟩ = some (.int .i64 r00_1) ∧ w5.cell? ⟨w.heap.size, 1, none⟩ = some (.int .i64 r01_1) ∧ w5.cell? ⟨w.heap.size, 2, none⟩ = some (.slice r02A_1 r02N_1 r02C_1)) ∧
 R (.tuple #[(.agg #[(.int .i64 r00_1), (.int .i64 r01_1), (.slice r02A_1 r02N_1 r02C_1)]), (.int .i64 1)]) w5) ∧
 ((!x17) = false →
 (((s.size : Int) != (IntKind.i64.wrap (rows * cols))) = true →
 (Okc w4 ⟨w.heap.size, 0, none⟩ ∧ Okc w4 ⟨w.heap.size, 1, none⟩ ∧ Okc w4 ⟨w.heap.size, 2, none⟩) ∧ ∀ w6 : World, w6 = (((w4.setCell ⟨w.heap.size, 0, none⟩ (.int .i64 0)).setCell ⟨w.heap.size, 1, none⟩ (.int .i64 0)).setCell ⟨w.heap.size, 2, none⟩ (.slice none 0 0)) →
 ∃ (r00_2 r01_2 : Int) (r02A_2 : Option Addr) (r02N_2 r02C_2 : Nat), (w6.cell? ⟨w.heap.size, 0, none⟩ = some (.int .i64 r00_2) ∧ w6.cell? ⟨w.heap.size, 1, none⟩ = some (.int .i64 r01_2) ∧ w6.cell? ⟨w.heap.size, 2, none⟩ = some (.slice r02A_2 r02N_2 r02C_2)) ∧
 R (.tuple #[(.agg #[(.int .i64 r00_2), (.int .i64 r01_2), (.slice r02A_2 r02N_2 r02C_2)]), (.int .i64 5)]) w6) ∧
 (((s.size : Int) != (IntKind.i64.wrap (rows * cols))) = false →
 ∀ w7 : World, w7 = w4.alloc (.cells #[(.int .i64 0), (.int .i64 0), (.slice none 0 0)] 213 (0, 0)) →
 (Okc w7 ⟨w4.heap.size, 0, none⟩ ∧ Okc w7 ⟨w4.heap.size, 1, none⟩ ∧ Okc w7 ⟨w4.heap.size, 2, none⟩) ∧ ∀ w8 : World, w8 = (((w7.setCell ⟨w4.heap.size, 0, none⟩ (.int .i64 rows)).setCell ⟨w4.heap.size, 1, none⟩ (.int .i64 cols)).setCell ⟨w4.heap.size, 2, none⟩ (.slice none 0 0)) →
 ∃ (x33A : Option Addr) (x33N x33C : Nat), ∃ w9 : World, (convert 9 85 (.string s)).run Tryz.prog w8 = .ok (.slice x33A x33N x33C) w9 ∧
 ∃ vI : Int → Nat → World → Prop, (∃ vk_2 : Nat, vI 0 vk_2 w9) ∧
 ∀ (jk : Nat → Value) (x35 : Int), ∀ (vk : Nat) (w10 : World), vI x35 vk w10 →
 (decide (x35 < (x33N : Int)) = true →
 (0 ≤ x35 ∧ x35 < (x33N : Int)) ∧ someV x33A fun p =>
 ∃ x38 : Int, w10.cell? (p.add (x35.toNat * 1)) = some (.int .u8 x38) ∧
 ∃ (x40A : Option Addr) (x40N x40C : Nat), w10.cell? ⟨w4.heap.size, 2, none⟩ = some (.slice x40A x40N x40C) ∧
 ∀ w11 : World, w11 = w10.alloc (.cells #[(.int .i8 (IntKind.i8.wrap x38))] 235 (0, 0)) →
 ∃ (x44A : Option Addr) (x44N x44C : Nat), ∃ w12 : World, (Builtin.append_ #[211, 211] 211 #[(.slice x40A x40N x40C), (.slice (some ⟨w10.heap.size, 0, none⟩) 1 1)]).run Tryz.prog w11 = .ok (.slice x44A x44N x44C) w12 ∧
 (Okc w12 ⟨w4.heap.size, 2, none⟩) ∧ ∀ w13 : World, w13 = (w12.setCell ⟨w4.heap.size, 2, none⟩ (.slice x44A x44N x44C)) →
 ∃ vk_1 : Nat, vk_1 < vk ∧ vI (IntKind.i64.wrap (x35 + 1)) vk_1 w13) ∧
 (decide (x35 < (x33N : Int)) = false →
 ∃ (x470 x471 : Int) (x472A : Option Addr) (x472N x472C : Nat), (w10.cell? ⟨w4.heap.size, 0, none⟩ = some (.int .i64 x470) ∧ w10.cell? ⟨w4.heap.size, 1, none⟩ = some (.int .i64 x471) ∧ w10.cell? ⟨w4.heap.size, 2, none⟩ = some (.slice x472A x472N x472C)) ∧
 (Okc w10 ⟨w.heap.size, 0, none⟩ ∧ Okc w10 ⟨w.heap.size, 1, none⟩ ∧ Okc w10 ⟨w.heap.size, 2, none⟩) ∧ ∀ w14 : World, w14 = (((w10.setCell ⟨w.heap.size, 0, none⟩ (.int .i64 x470)).setCell ⟨w.heap.size, 1, none⟩ (.int .i64 x471)).setCell ⟨w.heap.size, 2, none⟩ (.slice x472A x472N x472C)) →
 ∃ (r00_3 r01_3 : Int) (r02A_3 : Option Addr) (r02N_3 r02C_3 : Nat), (w14.cell? ⟨w.heap.size, 0, none⟩ = some (.int .i64 r00_3) ∧ w14.cell? ⟨w.heap.size, 1, none⟩ = some (.int .i64 r01_3) ∧ w14.cell? ⟨w.heap.size, 2, none⟩ = some (.slice r02A_3 r02N_3 r02C_3)) ∧
 R (.tuple #[(.agg #[(.int .i64 r00_3), (.int .i64 r01_3), (.slice r02A_3 r02N_3 r02C_3)]), (.int .i64 0)]) w14))))))
theorem vecs_Of.calls (rows : Int) (cols : Int) (s : ByteArray) {w : World} {R : Value → World → Prop} (h : vecs_Of.vc rows cols s w R) : Calls Tryz.prog 181 #[(.int .i64 rows), (.int .i64 cols), (.string s)] w (Ret R) :=
 calls_V fit Tryz.func181 (.at_ 1 3 (.k .nil) (.c .nil (.c .nil (.lp ([(10, none), (35, some (.int .i64))] ++ nn 36 11) (.c .nil .nil))))) (Eq.mpr (by kernel_rfl) h)
def vecs_Table_Row.vc (t0 : Int) (t1 : Int) (t2A : Option Addr) (t2N : Nat) (t2C : Nat) (vat : Int) (w : World) (R : Value → World → Prop) : Prop :=
 ∀ w1 : World, w1 = w.alloc (.cells #[(.int .i64 t0), (.int .i64 t1), (.slice t2A t2N t2C)] 213 (0, 0)) →
 ∃ (x80 x81 : Int) (x82A : Option Addr) (x82N x82C : Nat), (w1.cell? ⟨w.heap.size, 0, none⟩ = some (.int .i64 x80) ∧ w1.cell? ⟨w.heap.size, 1, none⟩ = some (.int .i64 x81) ∧ w1.cell? ⟨w.heap.size, 2, none⟩ = some (.slice x82A x82N x82C)) ∧
 Calls Tryz.prog 182 #[(.agg #[(.int .i64 x80), (.int .i64 x81), (.slice x82A x82N x82C)])] w1 (Ret fun v w2 => ∃ x9 : Bool, v = (.bool x9) ∧
 ((!x9) = true →
 R (.slice none 0 0) w2) ∧
 ((!x9) = false →
 (decide (vat < (0 : Int)) = true →
 R (.slice none 0 0) w2) ∧
 (decide (vat < (0 : Int)) = false →
 ∃ x18 : Int, w2.cell? ⟨w.heap.size, 0, none⟩ = some (.int .i64 x18) ∧
 (decide (vat ≥ x18) = true →
 R (.slice none 0 0) w2) ∧
 (decide (vat ≥ x18) = false →
 ∃ (x22A : Option Addr) (x22N x22C : Nat), w2.cell? ⟨w.heap.size, 2, none⟩ = some (.slice x22A x22N x22C) ∧
 ∃ x25 : Int, w2.cell? ⟨w.heap.size, 1, none⟩ = some (.int .i64 x25) ∧
 ∃ x30 : Int, w2.cell? ⟨w.heap.size, 1, none⟩ = some (.int .i64 x30) ∧
 (0 ≤ (IntKind.i64.wrap (vat * x25)) ∧ (IntKind.i64.wrap (vat * x25)) ≤ (IntKind.i64.wrap ((IntKind.i64.wrap (vat + 1)) * x30)) ∧ (IntKind.i64.wrap ((IntKind.i64.wrap (vat + 1)) * x30)) ≤ (x22C : Int)) ∧
 ∃ vI : Option Addr → Nat → Nat → Int → Nat → World → Prop, (∃ vk_2 : Nat, vI none 0 0 0 vk_2 w2) ∧
 ∀ (jk : Nat → Value) (outA : Option Addr) (outN : Nat) (outC : Nat) (x34 : Int), ∀ (vk : Nat) (w3 : World), vI outA outN outC x34 vk w3 →
 (decide (x34 < ((((IntKind.i64.wrap ((IntKind.i64.wrap (vat + 1)) * x30)).toNat - (IntKind.i64.wrap (vat * x25)).toNat) : Nat) : Int)) = true →
 (0 ≤ x34 ∧ x34 < ((((IntKind.i64.wrap ((IntKind.i64.wrap (vat + 1)) * x30)).toNat - (IntKind.i64.wrap (vat * x25)).toNat) : Nat) : Int)) ∧ someV (if x22C = (IntKind.i64.wrap (vat * x25)).toNat then x22A else x22A.map (·.add ((IntKind.i64.wrap (vat * x25)).toNat * 1))) fun p =>
 ∃ x37 : Int, w3.cell? (p.add (x34.toNat * 1)) = some (.int .i8 x37) ∧
 ∀ w4 : World, w4 = w3.alloc (.cells #[(.int .i64 (IntKind.i64.wrap x37))] 3 (0, 0)) →
 ∃ (x42A : Option Addr) (x42N x42C : Nat), ∃ w5 : World, (Builtin.append_ #[35, 35] 35 #[(.slice outA outN outC), (.slice (some ⟨w3.heap.size, 0, none⟩) 1 1)]).run Tryz.prog w4 = .ok (.slice x42A x42N x42C) w5 ∧
 ∃ vk_1 : Nat, vk_1 < vk ∧ vI x42A x42N x42C (IntKind.i64.wrap (x34 + 1)) vk_1 w5) ∧
 (decide (x34 < ((((IntKind.i64.wrap ((IntKind.i64.wrap (vat + 1)) * x30)).toNat - (IntKind.i64.wrap (vat * x25)).toNat) : Nat) : Int)) = false →
 R (.slice outA outN outC) w3)))))
theorem vecs_Table_Row.calls (t0 : Int) (t1 : Int) (t2A : Option Addr) (t2N : Nat) (t2C : Nat) (vat : Int) {w : World} {R : Value → World → Prop} (h : vecs_Table_Row.vc t0 t1 t2A t2N t2C vat w R) : Calls Tryz.prog 152 #[(.agg #[(.int .i64 t0), (.int .i64 t1), (.slice t2A t2N t2C)]), (.int .i64 vat)] w (Ret R) :=
 calls_V fit Tryz.func152 (.at_ 1 3 (.k .nil) (.at_ 1 7 (.k .nil) (.c .nil (.lp ([(5, some (.slice)), (7, none), (34, some (.int .i64))] ++ nn 35 9) (.c .nil .nil))))) (Eq.mpr (by kernel_rfl) h)
def vecs_Table_Times.vc (t0 : Int) (t1 : Int) (t2A : Option Addr) (t2N : Nat) (t2C : Nat) (vA : Option Addr) (vN : Nat) (vC : Nat) (shift : Int) (w : World) (R : Value → World → Prop) : Prop :=
 ∀ w1 : World, w1 = w.alloc (.cells #[(.int .i64 t0), (.int .i64 t1), (.slice t2A t2N t2C)] 213 (0, 0)) →
 ∃ (x100 x101 : Int) (x102A : Option Addr) (x102N x102C : Nat), (w1.cell? ⟨w.heap.size, 0, none⟩ = some (.int .i64 x100) ∧ w1.cell? ⟨w.heap.size, 1, none⟩ = some (.int .i64 x101) ∧ w1.cell? ⟨w.heap.size, 2, none⟩ = some (.slice x102A x102N x102C)) ∧
 Calls Tryz.prog 182 #[(.agg #[(.int .i64 x100), (.int .i64 x101), (.slice x102A x102N x102C)])] w1 (Ret fun v w2 => ∃ x11 : Bool, v = (.bool x11) ∧
 ((!x11) = true →
 R (.tuple #[(.slice none 0 0), (.int .i64 1)]) w2) ∧
 ((!x11) = false →
 ∃ x17 : Int, w2.cell? ⟨w.heap.size, 1, none⟩ = some (.int .i64 x17) ∧
 (((vN : Int) != x17) = true →
 R (.tuple #[(.slice none 0 0), (.int .i64 1)]) w2) ∧
 (((vN : Int) != x17) = false →
 ∃ x21 : Int, w2.cell? ⟨w.heap.size, 0, none⟩ = some (.int .i64 x21) ∧
 ∃ vI : Option Addr → Nat → Nat → Int → Nat → World → Prop, (∃ vk_2 : Nat, vI none 0 0 0 vk_2 w2) ∧
 ∀ (jk : Nat → Value) (outA : Option Addr) (outN : Nat) (outC : Nat) (x22 : Int), ∀ (vk : Nat) (w3 : World), vI outA outN outC x22 vk w3 →
 (decide (x22 < x21) = true →
 ∃ (x260 x261 : Int) (x262A : Option Addr) (x262N x262C : Nat), (w3.cell? ⟨w.heap.size, 0, none⟩ = some (.int .i64 x260) ∧ w3.cell? ⟨w.heap.size, 1, none⟩ = some (.int .i64 x261) ∧ w3.cell? ⟨w.heap.size, 2, none⟩ = some (.slice x262A x262N x262C)) ∧
 Calls Tryz.prog 152 #[(.agg #[(.int .i64 x260), (.int .i64 x261), (.slice x262A x262N x262C)]), (.int .i64 x22)] w3 (Ret fun v_1 w4 => ∃ (x28A : Option Addr) (x28N x28C : Nat), v_1 = (.slice x28A x28N x28C) ∧
 Calls Tryz.prog 161 #[(.slice x28A x28N x28C), (.slice vA vN vC)] w4 (Ret fun v_2 w5 => ∃ x30 : Int, v_2 = (.int .i64 x30) ∧
 Calls Tryz.prog 160 #[(.int .i64 x30), (.int .i64 shift)] w5 (Ret fun v_3 w6 => ∃ x32 : Int, v_3 = (.int .i64 x32) ∧
 Calls Tryz.prog 115 #[(.int .i64 x32)] w6 (Ret fun v_4 w7 => ∃ x33 : Int, v_4 = (.int .i64 x33) ∧
 ∀ w8 : World, w8 = w7.alloc (.cells #[(.int .i64 x33)] 3 (0, 0)) →
 ∃ (x35A : Option Addr) (x35N x35C : Nat), ∃ w9 : World, (Builtin.append_ #[35, 35] 35 #[(.slice outA outN outC), (.slice (some ⟨w7.heap.size, 0, none⟩) 1 1)]).run Tryz.prog w8 = .ok (.slice x35A x35N x35C) w9 ∧
 ∃ vk_1 : Nat, vk_1 < vk ∧ vI x35A x35N x35C (IntKind.i64.wrap (x22 + 1)) vk_1 w9))))) ∧
 (decide (x22 < x21) = false →
 R (.tuple #[(.slice outA outN outC), (.int .i64 0)]) w3))))
theorem vecs_Table_Times.calls (t0 : Int) (t1 : Int) (t2A : Option Addr) (t2N : Nat) (t2C : Nat) (vA : Option Addr) (vN : Nat) (vC : Nat) (shift : Int) {w : World} {R : Value → World → Prop} (h : vecs_Table_Times.vc t0 t1 t2A t2N t2C vA vN vC shift w R) : Calls Tryz.prog 184 #[(.agg #[(.int .i64 t0), (.int .i64 t1), (.slice t2A t2N t2C)]), (.slice vA vN vC), (.int .i64 shift)] w (Ret R) :=
 calls_V fit Tryz.func184 (.at_ 1 3 (.k .nil) (.c .nil (.lp ([(8, some (.slice)), (9, none), (22, some (.int .i64))] ++ nn 23 14) (.c .nil .nil)))) (Eq.mpr (by kernel_rfl) h)
def vecs_Plus.vc (listA : Option Addr) (listN : Nat) (listC : Nat) (w : World) (R : Value → World → Prop) : Prop :=
 (((listN : Int) == (0 : Int)) = true →
 R (.tuple #[(.slice none 0 0), (.int .i64 0)]) w) ∧
 (((listN : Int) == (0 : Int)) = false →
 ∃ vI : Int → Nat → World → Prop, (∃ vk_2 : Nat, vI 0 vk_2 w) ∧
 ∀ (jk : Nat → Value) (x16 : Int), ∀ (vk : Nat) (w1 : World), vI x16 vk w1 →
 (decide (x16 < (listN : Int)) = true →
 (0 ≤ x16 ∧ x16 < (listN : Int)) ∧ someV listA fun p =>
 ∃ (x19A : Option Addr) (x19N x19C : Nat), w1.cell? (p.add (x16.toNat * 1)) = some (.slice x19A x19N x19C) ∧
 (0 ≤ (0 : Int) ∧ (0 : Int) < (listN : Int)) ∧ someV listA fun p_1 =>
 ∃ (x24A : Option Addr) (x24N x24C : Nat), w1.cell? p_1 = some (.slice x24A x24N x24C) ∧
 (((x19N : Int) != (x24N : Int)) = true →
 R (.tuple #[(.slice none 0 0), (.int .i64 1)]) w1) ∧
 (((x19N : Int) != (x24N : Int)) = false →
 ∃ vk_1 : Nat, vk_1 < vk ∧ vI (IntKind.i64.wrap (x16 + 1)) vk_1 w1)) ∧
 (decide (x16 < (listN : Int)) = false →
 (0 ≤ (0 : Int) ∧ (0 : Int) < (listN : Int)) ∧ someV listA fun p_2 =>
 ∃ (x30A : Option Addr) (x30N x30C : Nat), w1.cell? p_2 = some (.slice x30A x30N x30C) ∧
 ∃ vI_1 : Option Addr → Nat → Nat → Int → Nat → World → Prop, (∃ vk_5 : Nat, vI_1 none 0 0 0 vk_5 w1) ∧
 ∀ (jk : Nat → Value) (outA : Option Addr) (outN : Nat) (outC : Nat) (x32 : Int), ∀ (vk_3 : Nat) (w2 : World), vI_1 outA outN outC x32 vk_3 w2 →
 (decide (x32 < (x30N : Int)) = true →
 ∃ vI_2 : Option Addr → Nat → Nat → Int → Nat → World → Prop, (∃ vk_8 : Nat, vI_2 none 0 0 0 vk_8 w2) ∧
 ∀ (jk : Nat → Value) (columnA : Option Addr) (columnN : Nat) (columnC : Nat) (x37 : Int), ∀ (vk_6 : Nat) (w3 : World), vI_2 columnA columnN columnC x37 vk_6 w3 →
 (decide (x37 < (listN : Int)) = true →
 (0 ≤ x37 ∧ x37 < (listN : Int)) ∧ someV listA fun p_3 =>
 ∃ (x40A : Option Addr) (x40N x40C : Nat), w3.cell? (p_3.add (x37.toNat * 1)) = some (.slice x40A x40N x40C) ∧
 (0 ≤ x32 ∧ x32 < (x40N : Int)) ∧ someV x40A fun p_4 =>
 ∃ x45 : Int, w3.cell? (p_4.add (x32.toNat * 1)) = some (.int .i64 x45) ∧
 ∀ w4 : World, w4 = w3.alloc (.cells #[(.int .i64 x45)] 3 (0, 0)) →
 ∃ (x47A : Option Addr) (x47N x47C : Nat), ∃ w5 : World, (Builtin.append_ #[35, 35] 35 #[(.slice columnA columnN columnC), (.slice (some ⟨w3.heap.size, 0, none⟩) 1 1)]).run Tryz.prog w4 = .ok (.slice x47A x47N x47C) w5 ∧
 ∃ vk_7 : Nat, vk_7 < vk_6 ∧ vI_2 x47A x47N x47C (IntKind.i64.wrap (x37 + 1)) vk_7 w5) ∧
 (decide (x37 < (listN : Int)) = false →
 Calls Tryz.prog 125 #[(.slice columnA columnN columnC)] w3 (Ret fun v w6 => ∃ x51 : Int, v = (.int .i64 x51) ∧
 Calls Tryz.prog 115 #[(.int .i64 x51)] w6 (Ret fun v_1 w7 => ∃ x52 : Int, v_1 = (.int .i64 x52) ∧
 ∀ w8 : World, w8 = w7.alloc (.cells #[(.int .i64 x52)] 3 (0, 0)) →
 ∃ (x54A : Option Addr) (x54N x54C : Nat), ∃ w9 : World, (Builtin.append_ #[35, 35] 35 #[(.slice outA outN outC), (.slice (some ⟨w7.heap.size, 0, none⟩) 1 1)]).run Tryz.prog w8 = .ok (.slice x54A x54N x54C) w9 ∧
 ∃ vk_4 : Nat, vk_4 < vk_3 ∧ vI_1 x54A x54N x54C (IntKind.i64.wrap (x32 + 1)) vk_4 w9)))) ∧
 (decide (x32 < (x30N : Int)) = false →
 R (.tuple #[(.slice outA outN outC), (.int .i64 0)]) w2)))
theorem vecs_Plus.calls (listA : Option Addr) (listN : Nat) (listC : Nat) {w : World} {R : Value → World → Prop} (h : vecs_Plus.vc listA listN listC w R) : Calls Tryz.prog 186 #[(.slice listA listN listC)] w (Ret R) :=
 calls_V fit Tryz.func186 (.c .nil (.lp ([(2, none), (3, none), (5, none), (16, some (.int .i64))] ++ nn 17 11) (.c (.c .nil .nil) (.lp ([(6, some (.slice)), (7, none), (8, none), (10, none), (32, some (.int .i64))] ++ nn 33 23) (.c (.lp ([(8, some (.slice)), (10, none), (37, some (.int .i64))] ++ nn 38 11) (.c .nil .nil)) .nil))))) (Eq.mpr (by kernel_rfl) h)
def coadjutorref11_Plus.vc (listA : Option Addr) (listN : Nat) (listC : Nat) (w : World) (R : Value → World → Prop) : Prop :=
 ∀ w1 : World, w1 = w.alloc (.cells #[] 3 (0, 0)) →
 ∃ vI : Int → Nat → World → Prop, (∃ vk_2 : Nat, vI 0 vk_2 w1) ∧
 ∀ (jk : Nat → Value) (i : Int), ∀ (vk : Nat) (w2 : World), vI i vk w2 →
 (decide (i < (listN : Int)) = true →
 ∃ vS : World → Prop, ∀ w3 : World, w3 = w2.drew → vS w3 ∧
 (0 ≤ i ∧ i < (listN : Int)) ∧ someV listA fun p =>
 ∃ (x19A : Option Addr) (x19N x19C : Nat), (∀ w4, vS w4 → w4.cell? (p.add (i.toNat * 1)) = some (.slice x19A x19N x19C)) ∧
 (0 ≤ (0 : Int) ∧ (0 : Int) < (listN : Int)) ∧ someV listA fun p_1 =>
 ∃ (x23A : Option Addr) (x23N x23C : Nat), (∀ w5, vS w5 → w5.cell? p_1 = some (.slice x23A x23N x23C)) ∧
 (((x19N : Int) != (x23N : Int)) = true →
 R (.tuple #[(.slice none 0 0), (.bool false)]) w3) ∧
 (((x19N : Int) != (x23N : Int)) = false →
 ∃ vk_1 : Nat, vk_1 < vk ∧ vI (IntKind.i64.wrap (i + 1)) vk_1 w3)) ∧
 (decide (i < (listN : Int)) = false →
 ∃ vI_1 : Option Addr → Nat → Nat → Int → Nat → World → Prop, (∃ vk_5 : Nat, vI_1 (some ⟨w.heap.size, 0, none⟩) 0 0 0 vk_5 w2) ∧
 ∀ (jk : Nat → Value) (outA : Option Addr) (outN : Nat) (outC : Nat) (vk_6 : Int), ∀ (vk_3 : Nat) (w6 : World), vI_1 outA outN outC vk_6 vk_3 w6 →
 (decide ((listN : Int) > (0 : Int)) = true →
 (0 ≤ (0 : Int) ∧ (0 : Int) < (listN : Int)) ∧ someV listA fun p_2 =>
 ∃ (x33A : Option Addr) (x33N x33C : Nat), w6.cell? p_2 = some (.slice x33A x33N x33C) ∧
 (decide (vk_6 < (x33N : Int)) = true →
 ∀ w7 : World, w7 = w6.alloc (.cells #[] 3 (0, 0)) →
 ∃ vI_2 : Option Addr → Nat → Nat → Int → Nat → World → Prop, (∃ vk_9 : Nat, vI_2 (some ⟨w6.heap.size, 0, none⟩) 0 0 0 vk_9 w7) ∧
 ∀ (jk : Nat → Value) (lA : Option Addr) (lN : Nat) (lC : Nat) (i_1 : Int), ∀ (vk_7 : Nat) (w8 : World), vI_2 lA lN lC i_1 vk_7 w8 →
 (decide (i_1 < (listN : Int)) = true →
 (0 ≤ i_1 ∧ i_1 < (listN : Int)) ∧ someV listA fun p_3 =>
 ∃ (x50A : Option Addr) (x50N x50C : Nat), w8.cell? (p_3.add (i_1.toNat * 1)) = some (.slice x50A x50N x50C) ∧
 (0 ≤ vk_6 ∧ vk_6 < (x50N : Int)) ∧ someV x50A fun p_4 =>
 ∃ x53 : Int, w8.cell? (p_4.add (vk_6.toNat * 1)) = some (.int .i64 x53) ∧
 ∀ w9 : World, w9 = w8.alloc (.cells #[(.int .i64 x53)] 3 (0, 0)) →
 ∃ (x55A : Option Addr) (x55N x55C : Nat), ∃ w10 : World, (Builtin.append_ #[35, 35] 35 #[(.slice lA lN lC), (.slice (some ⟨w8.heap.size, 0, none⟩) 1 1)]).run Tryz.prog w9 = .ok (.slice x55A x55N x55C) w10 ∧
 ∃ vk_8 : Nat, vk_8 < vk_7 ∧ vI_2 x55A x55N x55C (IntKind.i64.wrap (i_1 + 1)) vk_8 w10) ∧
 (decide (i_1 < (listN : Int)) = false →
 Calls Tryz.prog 173 #[(.slice lA lN lC)] w8 (Ret fun v w11 => ∃ x58 : Int, v = (.int .i64 x58) ∧
 Calls Tryz.prog 132 #[(.int .i64 x58)] w11 (Ret fun v_1 w12 => ∃ x59 : Int, v_1 = (.int .i64 x59) ∧
 ∀ w13 : World, w13 = w12.alloc (.cells #[(.int .i64 x59)] 3 (0, 0)) →
 ∃ (x61A : Option Addr) (x61N x61C : Nat), ∃ w14 : World, (Builtin.append_ #[35, 35] 35 #[(.slice outA outN outC), (.slice (some ⟨w12.heap.size, 0, none⟩) 1 1)]).run Tryz.prog w13 = .ok (.slice x61A x61N x61C) w14 ∧
 ∃ vk_4 : Nat, vk_4 < vk_3 ∧ vI_1 x61A x61N x61C (IntKind.i64.wrap (vk_6 + 1)) vk_4 w14)))) ∧
 (decide (vk_6 < (x33N : Int)) = false →
 R (.tuple #[(.slice outA outN outC), (.bool true)]) w6)) ∧
 (decide ((listN : Int) > (0 : Int)) = false →
 R (.tuple #[(.slice outA outN outC), (.bool true)]) w6))
def coadjutorref01_Sum.vc (lA : Option Addr) (lN : Nat) (lC : Nat) (w : World) (R : Value → World → Prop) : Prop :=
 ∃ vI : Int → Int → Nat → World → Prop, (∃ vk_2 : Nat, vI 0 0 vk_2 w) ∧
 ∀ (jk : Nat → Value) (out : Int) (i : Int), ∀ (vk : Nat) (w1 : World), vI out i vk w1 →
 (decide (i < (lN : Int)) = true →
 (0 ≤ i ∧ i < (lN : Int)) ∧ someV lA fun p =>
 ∃ x15 : Int, w1.cell? (p.add (i.toNat * 1)) = some (.int .i64 x15) ∧
 Calls Tryz.prog 167 #[(.int .i64 x15), (.int .i64 (-2305843009213693952)), (.int .i64 2305843009213693952)] w1 (Ret fun v w2 => ∃ x16 : Int, v = (.int .i64 x16) ∧
 Calls Tryz.prog 167 #[(.int .i64 (IntKind.i64.wrap (out + x16))), (.int .i64 (-4611686018427387904)), (.int .i64 4611686018427387904)] w2 (Ret fun v_1 w3 => ∃ x18 : Int, v_1 = (.int .i64 x18) ∧
 ∃ vk_1 : Nat, vk_1 < vk ∧ vI x18 (IntKind.i64.wrap (i + 1)) vk_1 w3))) ∧
 (decide (i < (lN : Int)) = false →
 R (.int .i64 out) w1)
def coadjutorref01_Dot.vc (aA : Option Addr) (aN : Nat) (aC : Nat) (bA : Option Addr) (bN : Nat) (bC : Nat) (w : World) (R : Value → World → Prop) : Prop :=
 ∀ w1 : World, w1 = w.alloc (.cells #[] 3 (0, 0)) →
 ∃ vI : Option Addr → Nat → Nat → Int → Nat → World → Prop, (∃ vk_2 : Nat, vI (some ⟨w.heap.size, 0, none⟩) 0 0 0 vk_2 w1) ∧
 ∀ (jk : Nat → Value) (lA : Option Addr) (lN : Nat) (lC : Nat) (i : Int), ∀ (vk : Nat) (w2 : World), vI lA lN lC i vk w2 →
 (decide (i < (aN : Int)) = true →
 (decide (i < (bN : Int)) = true →
 ∃ vS : World → Prop, ∀ w3 : World, w3 = w2.drew → vS w3 ∧
 (0 ≤ i ∧ i < (aN : Int)) ∧ someV aA fun p =>
 ∃ x24 : Int, (∀ w4, vS w4 → w4.cell? (p.add (i.toNat * 1)) = some (.int .i64 x24)) ∧
 (0 ≤ i ∧ i < (bN : Int)) ∧ someV bA fun p_1 =>
 ∃ x29 : Int, (∀ w5, vS w5 → w5.cell? (p_1.add (i.toNat * 1)) = some (.int .i64 x29)) ∧
 Calls Tryz.prog 167 #[(.int .i64 x24), (.int .i64 (-1073741824)), (.int .i64 1073741824)] w3 (Ret fun v w6 => ∃ x25 : Int, v = (.int .i64 x25) ∧
 vS w6 ∧
 Calls Tryz.prog 167 #[(.int .i64 x29), (.int .i64 (-1073741824)), (.int .i64 1073741824)] w6 (Ret fun v_1 w7 => ∃ x30 : Int, v_1 = (.int .i64 x30) ∧
 vS w7 ∧
 ∀ w8 : World, w8 = w7.alloc (.cells #[(.int .i64 (IntKind.i64.wrap (x25 * x30)))] 3 (0, 0)) →
 vS w8 ∧
 ∃ (x33A : Option Addr) (x33N x33C : Nat), ∃ w9 : World, (Builtin.append_ #[35, 35] 35 #[(.slice lA lN lC), (.slice (some ⟨w7.heap.size, 0, none⟩) 1 1)]).run Tryz.prog w8 = .ok (.slice x33A x33N x33C) w9 ∧
 vS w9 ∧
 ∃ vk_1 : Nat, vk_1 < vk ∧ vI x33A x33N x33C (IntKind.i64.wrap (i + 1)) vk_1 w9))) ∧
 (decide (i < (bN : Int)) = false →
 Calls Tryz.prog 173 #[(.slice lA lN lC)] w2 (Ret fun v_2 w10 => ∃ x35 : Int, v_2 = (.int .i64 x35) ∧
 R (.int .i64 x35) w10))) ∧
 (decide (i < (aN : Int)) = false →
 Calls Tryz.prog 173 #[(.slice lA lN lC)] w2 (Ret fun v_3 w11 => ∃ x35_1 : Int, v_3 = (.int .i64 x35_1) ∧
 R (.int .i64 x35_1) w11))
end Go.Proofs.YtkbikekbaboclaaGreat.Vc
set_option linter.unusedVariables false
set_option maxRecDepth 100000
namespace Go.Proofs.YtkbikekbaboclaaGreat.Vc
open Go Go.Proofs V
def act_Gate.vc (n : Int) (w : World) (R : Value → World → Prop) : Prop :=
 Calls Tryz.prog 199 #[] w (Ret fun v w1 => ∃ x40 x41 x42 x43 x44 x45 x46 x47 x48 x49 x410 x411 x412 x413 x414 x415 x416 : Int, v = (.agg #[(.int .i64 x40), (.int .i64 x41), (.int .i64 x42), (.int .i64 x43), (.int .i64 x44), (.int .i64 x45), (.int .i64 x46), (.int .i64 x47), (.int .i64 x48), (.int .i64 x49), (.int .i64 x410), (.int .i64 x411), (.int .i64 x412), (.int .i64 x413), (.int .i64 x414), (.int .i64 x415), (.int .i64 x416)]) ∧
 ∀ w2 : World, w2 = w1.alloc (.cells #[(.int .i64 0), (.int .i64 0), (.int .i64 0), (.int .i64 0), (.int .i64 0), (.int .i64 0), (.int .i64 0), (.int .i64 0), (.int .i64 0), (.int .i64 0), (.int .i64 0), (.int .i64 0), (.int .i64 0), (.int .i64 0), (.int .i64 0), (.int .i64 0), (.int .i64 0)] 242 (0, 0)) →
 (Okc w2 ⟨w1.heap.size, 0, none⟩ ∧ Okc w2 ⟨w1.heap.size, 1, none⟩ ∧ Okc w2 ⟨w1.heap.size, 2, none⟩ ∧ Okc w2 ⟨w1.heap.size, 3, none⟩ ∧ Okc w2 ⟨w1.heap.size, 4, none⟩ ∧ Okc w2 ⟨w1.heap.size, 5, none⟩ ∧ Okc w2 ⟨w1.heap.size, 6, none⟩ ∧ Okc w2 ⟨w1.heap.size, 7, none⟩ ∧ Okc w2 ⟨w1.heap.size, 8, none⟩ ∧ Okc w2 ⟨w1.heap.size, 9, none⟩ ∧ Okc w2 ⟨w1.heap.size, 10, none⟩ ∧ Okc w2 ⟨w1.heap.size, 11, none⟩ ∧ Okc w2 ⟨w1.heap.size, 12, none⟩ ∧ Okc w2 ⟨w1.heap.size, 13, none⟩ ∧ Okc w2 ⟨w1.heap.size, 14, none⟩ ∧ Okc w2 ⟨w1.heap.size, 15, none⟩ ∧ Okc w2 ⟨w1.heap.size, 16, none⟩) ∧ ∀ w3 : World, w3 = (((((((((((((((((w2.setCell ⟨w1.heap.size, 0, none⟩ (.int .i64 x40)).setCell ⟨w1.heap.size, 1, none⟩ (.int .i64 x41)).setCell ⟨w1.heap.size, 2, none⟩ (.int .i64 x42)).setCell ⟨w1.heap.size, 3, none⟩ (.int .i64 x43)).setCell ⟨w1.heap.size, 4, none⟩ (.int .i64 x44)).setCell ⟨w1.heap.size, 5, none⟩ (.int .i64 x45)).setCell ⟨w1.heap.size, 6, none⟩ (.int .i64 x46)).setCell ⟨w1.heap.size, 7, none⟩ (.int .i64 x47)).setCell ⟨w1.heap.size, 8, none⟩ (.int .i64 x48)).setCell ⟨w1.heap.size, 9, none⟩ (.int .i64 x49)).setCell ⟨w1.heap.size, 10, none⟩ (.int .i64 x410)).setCell ⟨w1.heap.size, 11, none⟩ (.int .i64 x411)).setCell ⟨w1.heap.size, 12, none⟩ (.int .i64 x412)).setCell ⟨w1.heap.size, 13, none⟩ (.int .i64 x413)).setCell ⟨w1.heap.size, 14, none⟩ (.int .i64 x414)).setCell ⟨w1.heap.size, 15, none⟩ (.int .i64 x415)).setCell ⟨w1.heap.size, 16, none⟩ (.int .i64 x416)) →
 Calls Tryz.prog 200 #[(.int .i64 n), (.int .i64 32)] w3 (Ret fun v_1 w4 => ∃ x6 : Int, v_1 = (.int .i64 x6) ∧
 Calls Tryz.prog 153 #[(.int .i64 x6), (.int .i64 (-8)), (.int .i64 8)] w4 (Ret fun v_2 w5 => ∃ x7 : Int, v_2 = (.int .i64 x7) ∧
 (0 ≤ (IntKind.i64.wrap (x7 + 8)) ∧ (IntKind.i64.wrap (x7 + 8)) < (17 : Int)) ∧
 ∃ x10 : Int, w5.cell? ((⟨w1.heap.size, 0, none⟩ : Addr).add ((IntKind.i64.wrap (x7 + 8)).toNat * 1)) = some (.int .i64 x10) ∧
 R (.int .i64 x10) w5)))
theorem act_Gate.calls (n : Int) {w : World} {R : Value → World → Prop} (h : act_Gate.vc n w R) : Calls Tryz.prog 188 #[(.int .i64 n)] w (Ret R) :=
 calls_V fit Tryz.func188 .nil (Eq.mpr (by kernel_rfl) h)
def act_Pairs.vc (gatesA : Option Addr) (gatesN : Nat) (gatesC : Nat) (rowA : Option Addr) (rowN : Nat) (rowC : Nat) (w : World) (R : Value → World → Prop) : Prop :=
 (((gatesN : Int) != (rowN : Int)) = true →
 R (.slice none 0 0) w) ∧
 (((gatesN : Int) != (rowN : Int)) = false →
 ∃ vI : Option Addr → Nat → Nat → Int → Nat → World → Prop, (∃ vk_2 : Nat, vI none 0 0 0 vk_2 w) ∧
 ∀ (jk : Nat → Value) (outA : Option Addr) (outN : Nat) (outC : Nat) (x15 : Int), ∀ (vk : Nat) (w1 : World), vI outA outN outC x15 vk w1 →
 (decide (x15 < (rowN : Int)) = true →
 (0 ≤ x15 ∧ x15 < (rowN : Int)) ∧ someV rowA fun p =>
 ∃ x19 : Int, w1.cell? (p.add (x15.toNat * 1)) = some (.int .i64 x19) ∧
 (0 ≤ x15 ∧ x15 < (gatesN : Int)) ∧ someV gatesA fun p_1 =>
 ∃ x25 : Int, w1.cell? (p_1.add (x15.toNat * 1)) = some (.int .i64 x25) ∧
 Calls Tryz.prog 188 #[(.int .i64 x25)] w1 (Ret fun v w2 => ∃ x26 : Int, v = (.int .i64 x26) ∧
 Calls Tryz.prog 187 #[(.int .i64 x19), (.int .i64 x26), (.int .i64 8)] w2 (Ret fun v_1 w3 => ∃ x27 : Int, v_1 = (.int .i64 x27) ∧
 ∀ w4 : World, w4 = w3.alloc (.cells #[(.int .i64 x27)] 3 (0, 0)) →
 ∃ (x29A : Option Addr) (x29N x29C : Nat), ∃ w5 : World, (Builtin.append_ #[35, 35] 35 #[(.slice outA outN outC), (.slice (some ⟨w3.heap.size, 0, none⟩) 1 1)]).run Tryz.prog w4 = .ok (.slice x29A x29N x29C) w5 ∧
 ∃ vk_1 : Nat, vk_1 < vk ∧ vI x29A x29N x29C (IntKind.i64.wrap (x15 + 1)) vk_1 w5))) ∧
 (decide (x15 < (rowN : Int)) = false →
 R (.slice outA outN outC) w1))
theorem act_Pairs.calls (gatesA : Option Addr) (gatesN : Nat) (gatesC : Nat) (rowA : Option Addr) (rowN : Nat) (rowC : Nat) {w : World} {R : Value → World → Prop} (h : act_Pairs.vc gatesA gatesN gatesC rowA rowN rowC w R) : Calls Tryz.prog 159 #[(.slice gatesA gatesN gatesC), (.slice rowA rowN rowC)] w (Ret R) :=
 calls_V fit Tryz.func159 (.c .nil (.lp ([(5, some (.slice)), (6, none), (7, none), (15, some (.int .i64))] ++ nn 16 15) (.c .nil .nil))) (Eq.mpr (by kernel_rfl) h)
def act_table.vc (w : World) (R : Value → World → Prop) : Prop :=
 ∀ w1 : World, w1 = w.alloc (.cells #[(.int .i64 0), (.int .i64 0), (.int .i64 0), (.int .i64 0), (.int .i64 0), (.int .i64 0), (.int .i64 0), (.int .i64 0), (.int .i64 0), (.int .i64 0), (.int .i64 0), (.int .i64 0), (.int .i64 0), (.int .i64 0), (.int .i64 0), (.int .i64 0), (.int .i64 0)] 242 (0, 0)) →
 (Okc w1 ⟨w.heap.size, 0, none⟩ ∧ Okc w1 ⟨w.heap.size, 1, none⟩ ∧ Okc w1 ⟨w.heap.size, 2, none⟩ ∧ Okc w1 ⟨w.heap.size, 3, none⟩ ∧ Okc w1 ⟨w.heap.size, 4, none⟩ ∧ Okc w1 ⟨w.heap.size, 5, none⟩ ∧ Okc w1 ⟨w.heap.size, 6, none⟩ ∧ Okc w1 ⟨w.heap.size, 7, none⟩ ∧ Okc w1 ⟨w.heap.size, 8, none⟩ ∧ Okc w1 ⟨w.heap.size, 9, none⟩ ∧ Okc w1 ⟨w.heap.size, 10, none⟩ ∧ Okc w1 ⟨w.heap.size, 11, none⟩ ∧ Okc w1 ⟨w.heap.size, 12, none⟩ ∧ Okc w1 ⟨w.heap.size, 13, none⟩ ∧ Okc w1 ⟨w.heap.size, 14, none⟩ ∧ Okc w1 ⟨w.heap.size, 15, none⟩ ∧ Okc w1 ⟨w.heap.size, 16, none⟩) ∧ ∀ w2 : World, w2 = (((((((((((((((((w1.setCell ⟨w.heap.size, 0, none⟩ (.int .i64 5)).setCell ⟨w.heap.size, 1, none⟩ (.int .i64 8)).setCell ⟨w.heap.size, 2, none⟩ (.int .i64 12)).setCell ⟨w.heap.size, 3, none⟩ (.int .i64 19)).setCell ⟨w.heap.size, 4, none⟩ (.int .i64 31)).setCell ⟨w.heap.size, 5, none⟩ (.int .i64 47)).setCell ⟨w.heap.size, 6, none⟩ (.int .i64 69)).setCell ⟨w.heap.size, 7, none⟩ (.int .i64 97)).setCell ⟨w.heap.size, 8, none⟩ (.int .i64 128)).setCell ⟨w.heap.size, 9, none⟩ (.int .i64 159)).setCell ⟨w.heap.size, 10, none⟩ (.int .i64 187)).setCell ⟨w.heap.size, 11, none⟩ (.int .i64 209)).setCell ⟨w.heap.size, 12, none⟩ (.int .i64 225)).setCell ⟨w.heap.size, 13, none⟩ (.int .i64 237)).setCell ⟨w.heap.size, 14, none⟩ (.int .i64 244)).setCell ⟨w.heap.size, 15, none⟩ (.int .i64 248)).setCell ⟨w.heap.size, 16, none⟩ (.int .i64 251)) →
 ∃ r00 r01 r02 r03 r04 r05 r06 r07 r08 r09 r010 r011 r012 r013 r014 r015 r016 : Int, (w2.cell? ⟨w.heap.size, 0, none⟩ = some (.int .i64 r00) ∧ w2.cell? ⟨w.heap.size, 1, none⟩ = some (.int .i64 r01) ∧ w2.cell? ⟨w.heap.size, 2, none⟩ = some (.int .i64 r02) ∧ w2.cell? ⟨w.heap.size, 3, none⟩ = some (.int .i64 r03) ∧ w2.cell? ⟨w.heap.size, 4, none⟩ = some (.int .i64 r04) ∧ w2.cell? ⟨w.heap.size, 5, none⟩ = some (.int .i64 r05) ∧ w2.cell? ⟨w.heap.size, 6, none⟩ = some (.int .i64 r06) ∧ w2.cell? ⟨w.heap.size, 7, none⟩ = some (.int .i64 r07) ∧ w2.cell? ⟨w.heap.size, 8, none⟩ = some (.int .i64 r08) ∧ w2.cell? ⟨w.heap.size, 9, none⟩ = some (.int .i64 r09) ∧ w2.cell? ⟨w.heap.size, 10, none⟩ = some (.int .i64 r010) ∧ w2.cell? ⟨w.heap.size, 11, none⟩ = some (.int .i64 r011) ∧ w2.cell? ⟨w.heap.size, 12, none⟩ = some (.int .i64 r012) ∧ w2.cell? ⟨w.heap.size, 13, none⟩ = some (.int .i64 r013) ∧ w2.cell? ⟨w.heap.size, 14, none⟩ = some (.int .i64 r014) ∧ w2.cell? ⟨w.heap.size, 15, none⟩ = some (.int .i64 r015) ∧ w2.cell? ⟨w.heap.size, 16, none⟩ = some (.int .i64 r016)) ∧
 R (.agg #[(.int .i64 r00), (.int .i64 r01), (.int .i64 r02), (.int .i64 r03), (.int .i64 r04), (.int .i64 r05), (.int .i64 r06), (.int .i64 r07), (.int .i64 r08), (.int .i64 r09), (.int .i64 r010), (.int .i64 r011), (.int .i64 r012), (.int .i64 r013), (.int .i64 r014), (.int .i64 r015), (.int .i64 r016)]) w2
theorem act_table.calls {w : World} {R : Value → World → Prop} (h : act_table.vc  w R) : Calls Tryz.prog 199 #[] w (Ret R) :=
 calls_V fit Tryz.func199 .nil (Eq.mpr (by kernel_rfl) h)
def coadjutorref14_Gate.vc (n : Int) (w : World) (R : Value → World → Prop) : Prop :=
 ∀ w1 : World, w1 = w.alloc (.cells #[(.int .i64 0), (.int .i64 0), (.int .i64 0), (.int .i64 0), (.int .i64 0), (.int .i64 0), (.int .i64 0), (.int .i64 0), (.int .i64 0), (.int .i64 0), (.int .i64 0), (.int .i64 0), (.int .i64 0), (.int .i64 0), (.int .i64 0), (.int .i64 0), (.int .i64 0)] 242 (0, 0)) →
 (Okc w1 ⟨w.heap.size, 0, none⟩ ∧ Okc w1 ⟨w.heap.size, 1, none⟩ ∧ Okc w1 ⟨w.heap.size, 2, none⟩ ∧ Okc w1 ⟨w.heap.size, 3, none⟩ ∧ Okc w1 ⟨w.heap.size, 4, none⟩ ∧ Okc w1 ⟨w.heap.size, 5, none⟩ ∧ Okc w1 ⟨w.heap.size, 6, none⟩ ∧ Okc w1 ⟨w.heap.size, 7, none⟩ ∧ Okc w1 ⟨w.heap.size, 8, none⟩ ∧ Okc w1 ⟨w.heap.size, 9, none⟩ ∧ Okc w1 ⟨w.heap.size, 10, none⟩ ∧ Okc w1 ⟨w.heap.size, 11, none⟩ ∧ Okc w1 ⟨w.heap.size, 12, none⟩ ∧ Okc w1 ⟨w.heap.size, 13, none⟩ ∧ Okc w1 ⟨w.heap.size, 14, none⟩ ∧ Okc w1 ⟨w.heap.size, 15, none⟩ ∧ Okc w1 ⟨w.heap.size, 16, none⟩) ∧ ∀ w2 : World, w2 = (((((((((((((((((w1.setCell ⟨w.heap.size, 0, none⟩ (.int .i64 5)).setCell ⟨w.heap.size, 1, none⟩ (.int .i64 8)).setCell ⟨w.heap.size, 2, none⟩ (.int .i64 12)).setCell ⟨w.heap.size, 3, none⟩ (.int .i64 19)).setCell ⟨w.heap.size, 4, none⟩ (.int .i64 31)).setCell ⟨w.heap.size, 5, none⟩ (.int .i64 47)).setCell ⟨w.heap.size, 6, none⟩ (.int .i64 69)).setCell ⟨w.heap.size, 7, none⟩ (.int .i64 97)).setCell ⟨w.heap.size, 8, none⟩ (.int .i64 128)).setCell ⟨w.heap.size, 9, none⟩ (.int .i64 159)).setCell ⟨w.heap.size, 10, none⟩ (.int .i64 187)).setCell ⟨w.heap.size, 11, none⟩ (.int .i64 209)).setCell ⟨w.heap.size, 12, none⟩ (.int .i64 225)).setCell ⟨w.heap.size, 13, none⟩ (.int .i64 237)).setCell ⟨w.heap.size, 14, none⟩ (.int .i64 244)).setCell ⟨w.heap.size, 15, none⟩ (.int .i64 248)).setCell ⟨w.heap.size, 16, none⟩ (.int .i64 251)) →
 Calls Tryz.prog 167 #[(.int .i64 n), (.int .i64 (-100000)), (.int .i64 100000)] w2 (Ret fun v w3 => ∃ x6 : Int, v = (.int .i64 x6) ∧
 Calls Tryz.prog 194 #[(.int .i64 x6), (.int .i64 32)] w3 (Ret fun v_1 w4 => ∃ x7 : Int, v_1 = (.int .i64 x7) ∧
 Calls Tryz.prog 167 #[(.int .i64 (IntKind.i64.wrap (x7 + 8))), (.int .i64 0), (.int .i64 16)] w4 (Ret fun v_2 w5 => ∃ x9 : Int, v_2 = (.int .i64 x9) ∧
 (0 ≤ x9 ∧ x9 < (17 : Int)) ∧
 ∃ x11 : Int, w5.cell? ((⟨w.heap.size, 0, none⟩ : Addr).add (x9.toNat * 1)) = some (.int .i64 x11) ∧
 R (.int .i64 x11) w5)))
def coadjutorref14_Pairs.vc (gatesA : Option Addr) (gatesN : Nat) (gatesC : Nat) (rowA : Option Addr) (rowN : Nat) (rowC : Nat) (w : World) (R : Value → World → Prop) : Prop :=
 ∀ w1 : World, w1 = w.alloc (.cells #[] 3 (0, 0)) →
 ∃ vI : Option Addr → Nat → Nat → Int → Nat → World → Prop, (∃ vk_2 : Nat, vI (some ⟨w.heap.size, 0, none⟩) 0 0 0 vk_2 w1) ∧
 ∀ (jk : Nat → Value) (outA : Option Addr) (outN : Nat) (outC : Nat) (i : Int), ∀ (vk : Nat) (w2 : World), vI outA outN outC i vk w2 →
 (((gatesN : Int) == (rowN : Int)) = true →
 (decide (i < (rowN : Int)) = true →
 ∃ vS : World → Prop, ∀ w3 : World, w3 = w2.drew → vS w3 ∧
 (0 ≤ i ∧ i < (rowN : Int)) ∧ someV rowA fun p =>
 ∃ x25 : Int, (∀ w4, vS w4 → w4.cell? (p.add (i.toNat * 1)) = some (.int .i64 x25)) ∧
 (0 ≤ i ∧ i < (gatesN : Int)) ∧ someV gatesA fun p_1 =>
 ∃ x29 : Int, (∀ w5, vS w5 → w5.cell? (p_1.add (i.toNat * 1)) = some (.int .i64 x29)) ∧
 Calls Tryz.prog 172 #[(.int .i64 x29)] w3 (Ret fun v w6 => ∃ x30 : Int, v = (.int .i64 x30) ∧
 vS w6 ∧
 Calls Tryz.prog 171 #[(.int .i64 x25), (.int .i64 x30), (.int .i64 8)] w6 (Ret fun v_1 w7 => ∃ x31 : Int, v_1 = (.int .i64 x31) ∧
 vS w7 ∧
 ∀ w8 : World, w8 = w7.alloc (.cells #[(.int .i64 x31)] 3 (0, 0)) →
 vS w8 ∧
 ∃ (x33A : Option Addr) (x33N x33C : Nat), ∃ w9 : World, (Builtin.append_ #[35, 35] 35 #[(.slice outA outN outC), (.slice (some ⟨w7.heap.size, 0, none⟩) 1 1)]).run Tryz.prog w8 = .ok (.slice x33A x33N x33C) w9 ∧
 vS w9 ∧
 ∃ vk_1 : Nat, vk_1 < vk ∧ vI x33A x33N x33C (IntKind.i64.wrap (i + 1)) vk_1 w9))) ∧
 (decide (i < (rowN : Int)) = false →
 R (.slice outA outN outC) w2)) ∧
 (((gatesN : Int) == (rowN : Int)) = false →
 R (.slice outA outN outC) w2)
end Go.Proofs.YtkbikekbaboclaaGreat.Vc
set_option linter.unusedVariables false
set_option maxRecDepth 100000
namespace Go.Proofs.YtkbikekbaboclaaGreat.Vc
open Go Go.Proofs V
def norm_Root.vc (rowA : Option Addr) (rowN : Nat) (rowC : Nat) (w : World) (R : Value → World → Prop) : Prop :=
 ∃ vI : Option Addr → Nat → Nat → Int → Nat → World → Prop, (∃ vk_2 : Nat, vI none 0 0 0 vk_2 w) ∧
 ∀ (jk : Nat → Value) (squaresA : Option Addr) (squaresN : Nat) (squaresC : Nat) (x9 : Int), ∀ (vk : Nat) (w1 : World), vI squaresA squaresN squaresC x9 vk w1 →
 (decide (x9 < (rowN : Int)) = true →
 (0 ≤ x9 ∧ x9 < (rowN : Int)) ∧ someV rowA fun p =>
 ∃ x12 : Int, w1.cell? (p.add (x9.toNat * 1)) = some (.int .i64 x12) ∧
 Calls Tryz.prog 115 #[(.int .i64 x12)] w1 (Ret fun v w2 => ∃ x14 : Int, v = (.int .i64 x14) ∧
 ∀ w3 : World, w3 = w2.alloc (.cells #[(.int .i64 (IntKind.i64.wrap (x14 * x14)))] 3 (0, 0)) →
 ∃ (x20A : Option Addr) (x20N x20C : Nat), ∃ w4 : World, (Builtin.append_ #[35, 35] 35 #[(.slice squaresA squaresN squaresC), (.slice (some ⟨w2.heap.size, 0, none⟩) 1 1)]).run Tryz.prog w3 = .ok (.slice x20A x20N x20C) w4 ∧
 ∃ vk_1 : Nat, vk_1 < vk ∧ vI x20A x20N x20C (IntKind.i64.wrap (x9 + 1)) vk_1 w4)) ∧
 (decide (x9 < (rowN : Int)) = false →
 Calls Tryz.prog 204 #[(.slice squaresA squaresN squaresC)] w1 (Ret fun v_1 w5 => ∃ x23 : Int, v_1 = (.int .i64 x23) ∧
 Calls Tryz.prog 203 #[(.int .i64 x23)] w5 (Ret fun v_2 w6 => ∃ x24 : Int, v_2 = (.int .i64 x24) ∧
 R (.int .i64 (IntKind.i64.wrap (x24 + 1))) w6)))
theorem norm_Root.calls (rowA : Option Addr) (rowN : Nat) (rowC : Nat) {w : World} {R : Value → World → Prop} (h : norm_Root.vc rowA rowN rowC w R) : Calls Tryz.prog 197 #[(.slice rowA rowN rowC)] w (Ret R) :=
 calls_V fit Tryz.func197 (.lp ([(3, some (.slice)), (5, none), (6, none), (9, some (.int .i64))] ++ nn 10 12) (.c .nil .nil)) (Eq.mpr (by kernel_rfl) h)
def norm_Of.vc (gainsA : Option Addr) (gainsN : Nat) (gainsC : Nat) (rowA : Option Addr) (rowN : Nat) (rowC : Nat) (w : World) (R : Value → World → Prop) : Prop :=
 (((gainsN : Int) != (rowN : Int)) = true →
 R (.slice none 0 0) w) ∧
 (((gainsN : Int) != (rowN : Int)) = false →
 Calls Tryz.prog 197 #[(.slice rowA rowN rowC)] w (Ret fun v w1 => ∃ x16 : Int, v = (.int .i64 x16) ∧
 ∃ vI : Option Addr → Nat → Nat → Int → Nat → World → Prop, (∃ vk_2 : Nat, vI none 0 0 0 vk_2 w1) ∧
 ∀ (jk : Nat → Value) (outA : Option Addr) (outN : Nat) (outC : Nat) (x19 : Int), ∀ (vk : Nat) (w2 : World), vI outA outN outC x19 vk w2 →
 (decide (x19 < (rowN : Int)) = true →
 (0 ≤ x19 ∧ x19 < (rowN : Int)) ∧ someV rowA fun p =>
 ∃ x23 : Int, w2.cell? (p.add (x19.toNat * 1)) = some (.int .i64 x23) ∧
 (0 ≤ x19 ∧ x19 < (gainsN : Int)) ∧ someV gainsA fun p_1 =>
 ∃ x27 : Int, w2.cell? (p_1.add (x19.toNat * 1)) = some (.int .i64 x27) ∧
 Calls Tryz.prog 153 #[(.int .i64 x27), (.int .i64 (-128)), (.int .i64 127)] w2 (Ret fun v_1 w3 => ∃ x28 : Int, v_1 = (.int .i64 x28) ∧
 Calls Tryz.prog 115 #[(.int .i64 x23)] w3 (Ret fun v_2 w4 => ∃ x32 : Int, v_2 = (.int .i64 x32) ∧
 x16 ≠ 0 ∧
 Calls Tryz.prog 115 #[(.int .i64 (IntKind.i64.wrap (Int.tdiv (IntKind.i64.wrap (x32 * (IntKind.i64.wrap (64 + x28)))) x16)))] w4 (Ret fun v_3 w5 => ∃ x37 : Int, v_3 = (.int .i64 x37) ∧
 ∀ w6 : World, w6 = w5.alloc (.cells #[(.int .i64 x37)] 3 (0, 0)) →
 ∃ (x39A : Option Addr) (x39N x39C : Nat), ∃ w7 : World, (Builtin.append_ #[35, 35] 35 #[(.slice outA outN outC), (.slice (some ⟨w5.heap.size, 0, none⟩) 1 1)]).run Tryz.prog w6 = .ok (.slice x39A x39N x39C) w7 ∧
 ∃ vk_1 : Nat, vk_1 < vk ∧ vI x39A x39N x39C (IntKind.i64.wrap (x19 + 1)) vk_1 w7)))) ∧
 (decide (x19 < (rowN : Int)) = false →
 R (.slice outA outN outC) w2)))
theorem norm_Of.calls (gainsA : Option Addr) (gainsN : Nat) (gainsC : Nat) (rowA : Option Addr) (rowN : Nat) (rowC : Nat) {w : World} {R : Value → World → Prop} (h : norm_Of.vc gainsA gainsN gainsC rowA rowN rowC w R) : Calls Tryz.prog 183 #[(.slice gainsA gainsN gainsC), (.slice rowA rowN rowC)] w (Ret R) :=
 calls_V fit Tryz.func183 (.c .nil (.lp ([(6, some (.slice))] ++ nn 7 3 ++ [(19, some (.int .i64))] ++ nn 20 21) (.c .nil .nil))) (Eq.mpr (by kernel_rfl) h)
def coadjutorref13_Root.vc (rowA : Option Addr) (rowN : Nat) (rowC : Nat) (w : World) (R : Value → World → Prop) : Prop :=
 (((rowN : Int) == (0 : Int)) = true →
 R (.int .i64 1) w) ∧
 (((rowN : Int) == (0 : Int)) = false →
 ∃ vI : Int → Int → Nat → World → Prop, (∃ vk_2 : Nat, vI 0 0 vk_2 w) ∧
 ∀ (jk : Nat → Value) (sum : Int) (i : Int), ∀ (vk : Nat) (w1 : World), vI sum i vk w1 →
 (decide (i < (rowN : Int)) = true →
 (0 ≤ i ∧ i < (rowN : Int)) ∧ someV rowA fun p =>
 ∃ x18 : Int, w1.cell? (p.add (i.toNat * 1)) = some (.int .i64 x18) ∧
 Calls Tryz.prog 132 #[(.int .i64 x18)] w1 (Ret fun v w2 => ∃ x19 : Int, v = (.int .i64 x19) ∧
 ∃ vk_1 : Nat, vk_1 < vk ∧ vI (IntKind.i64.wrap (sum + (IntKind.i64.wrap (x19 * x19)))) (IntKind.i64.wrap (i + 1)) vk_1 w2)) ∧
 (decide (i < (rowN : Int)) = false →
 (rowN : Int) ≠ 0 ∧
 Calls Tryz.prog 193 #[(.int .i64 (IntKind.i64.wrap (Int.tdiv sum (rowN : Int))))] w1 (Ret fun v_1 w3 => ∃ x29 : Int, v_1 = (.int .i64 x29) ∧
 R (.int .i64 (IntKind.i64.wrap (x29 + 1))) w3)))
def coadjutorref13_Of.vc (gainsA : Option Addr) (gainsN : Nat) (gainsC : Nat) (rowA : Option Addr) (rowN : Nat) (rowC : Nat) (w : World) (R : Value → World → Prop) : Prop :=
 ∀ w1 : World, w1 = w.alloc (.cells #[] 3 (0, 0)) →
 (((gainsN : Int) != (rowN : Int)) = true →
 R (.slice (some ⟨w.heap.size, 0, none⟩) 0 0) w1) ∧
 (((gainsN : Int) != (rowN : Int)) = false →
 ∃ vI : Option Addr → Nat → Nat → Int → Nat → World → Prop, (∃ vk_2 : Nat, vI (some ⟨w.heap.size, 0, none⟩) 0 0 0 vk_2 w1) ∧
 ∀ (jk : Nat → Value) (outA : Option Addr) (outN : Nat) (outC : Nat) (i : Int), ∀ (vk : Nat) (w2 : World), vI outA outN outC i vk w2 →
 (decide (i < (rowN : Int)) = true →
 (0 ≤ i ∧ i < (gainsN : Int)) ∧ someV gainsA fun p =>
 ∃ x24 : Int, w2.cell? (p.add (i.toNat * 1)) = some (.int .i64 x24) ∧
 Calls Tryz.prog 167 #[(.int .i64 x24), (.int .i64 (-128)), (.int .i64 127)] w2 (Ret fun v w3 => ∃ x25 : Int, v = (.int .i64 x25) ∧
 (0 ≤ i ∧ i < (rowN : Int)) ∧ someV rowA fun p_1 =>
 ∃ x31 : Int, w3.cell? (p_1.add (i.toNat * 1)) = some (.int .i64 x31) ∧
 Calls Tryz.prog 132 #[(.int .i64 x31)] w3 (Ret fun v_1 w4 => ∃ x32 : Int, v_1 = (.int .i64 x32) ∧
 Calls Tryz.prog 168 #[(.slice rowA rowN rowC)] w4 (Ret fun v_2 w5 => ∃ x36 : Int, v_2 = (.int .i64 x36) ∧
 x36 ≠ 0 ∧
 Calls Tryz.prog 132 #[(.int .i64 (IntKind.i64.wrap (Int.tdiv (IntKind.i64.wrap (x32 * (IntKind.i64.wrap (64 + x25)))) x36)))] w5 (Ret fun v_3 w6 => ∃ x38 : Int, v_3 = (.int .i64 x38) ∧
 ∀ w7 : World, w7 = w6.alloc (.cells #[(.int .i64 x38)] 3 (0, 0)) →
 ∃ (x40A : Option Addr) (x40N x40C : Nat), ∃ w8 : World, (Builtin.append_ #[35, 35] 35 #[(.slice outA outN outC), (.slice (some ⟨w6.heap.size, 0, none⟩) 1 1)]).run Tryz.prog w7 = .ok (.slice x40A x40N x40C) w8 ∧
 ∃ vk_1 : Nat, vk_1 < vk ∧ vI x40A x40N x40C (IntKind.i64.wrap (i + 1)) vk_1 w8))))) ∧
 (decide (i < (rowN : Int)) = false →
 R (.slice outA outN outC) w2))
end Go.Proofs.YtkbikekbaboclaaGreat.Vc
set_option linter.unusedVariables false
set_option maxRecDepth 100000
namespace Go.Proofs.YtkbikekbaboclaaGreat.Vc
open Go Go.Proofs V
def soft_Choose_c1.vc (n : Int) (w : World) (R : Value → World → Prop) : Prop :=
 (decide (n < (0 : Int)) = true →
 R (.bool true) w) ∧
 (decide (n < (0 : Int)) = false →
 R (.bool (decide (n > (1048576 : Int)))) w)
theorem soft_Choose_c1.calls (n : Int) {w : World} {R : Value → World → Prop} (h : soft_Choose_c1.vc n w R) : Calls Tryz.prog 124 #[(.int .i64 n)] w (Ret R) :=
 calls_V fit Tryz.func124 (.at_ 1 2 .nil .nil) (Eq.mpr (by kernel_rfl) h)
def soft_isMix_c1.vc (n : Int) (w : World) (R : Value → World → Prop) : Prop :=
 (decide (n < (0 : Int)) = true →
 R (.bool true) w) ∧
 (decide (n < (0 : Int)) = false →
 R (.bool (decide (n > (65536 : Int)))) w)
theorem soft_isMix_c1.calls (n : Int) {w : World} {R : Value → World → Prop} (h : soft_isMix_c1.vc n w R) : Calls Tryz.prog 205 #[(.int .i64 n)] w (Ret R) :=
 calls_V fit Tryz.func205 (.at_ 1 2 .nil .nil) (Eq.mpr (by kernel_rfl) h)
def soft_isMix_c2.vc (rowA : Option Addr) (rowN : Nat) (rowC : Nat) (c0B : Nat) (w : World) (R : Value → World → Prop) : Prop :=
 ∃ (x6A : Option Addr) (x6N x6C : Nat), w.cell? ⟨c0B, 0, none⟩ = some (.slice x6A x6N x6C) ∧
 (0 ≤ (0 : Int) ∧ (0 : Int) < (x6N : Int)) ∧ someV x6A fun p =>
 ∃ (x8A : Option Addr) (x8N x8C : Nat), w.cell? p = some (.slice x8A x8N x8C) ∧
 R (.bool ((rowN : Int) != (x8N : Int))) w
theorem soft_isMix_c2.calls (rowA : Option Addr) (rowN : Nat) (rowC : Nat) (c0B : Nat) {w : World} {R : Value → World → Prop} (h : soft_isMix_c2.vc rowA rowN rowC c0B w R) : Calls Tryz.prog 206 #[(.slice rowA rowN rowC), (.pointer (some (⟨c0B, 0, none⟩ : Addr)))] w (Ret R) :=
 calls_V fit Tryz.func206 .nil (Eq.mpr (by kernel_rfl) h)
def slices_ContainsFunc.vc_ch (sA : Option Addr) (sN : Nat) (sC : Nat) (w : World) (R : Value → World → Prop) : Prop :=
 Calls Tryz.prog 91 #[(.slice sA sN sC), (.func (.func 124) #[] #[])] w (Ret fun v w1 => ∃ x7 : Int, v = (.int .i64 x7) ∧
 R (.bool (decide (x7 ≥ (0 : Int)))) w1)
theorem slices_ContainsFunc.calls_ch (sA : Option Addr) (sN : Nat) (sC : Nat) {w : World} {R : Value → World → Prop} (h : slices_ContainsFunc.vc_ch sA sN sC w R) : Calls Tryz.prog 52 #[(.slice sA sN sC), (.func (.func 124) #[] #[])] w (Ret R) :=
 calls_V fit Tryz.func52 .nil (Eq.mpr (by kernel_rfl) h)
def slices_IndexFunc.vc_ch (sA : Option Addr) (sN : Nat) (sC : Nat) (w : World) (R : Value → World → Prop) : Prop :=
 ∃ vI : Int → Nat → World → Prop, (∃ vk_2 : Nat, vI 0 vk_2 w) ∧
 ∀ (jk : Nat → Value) (x8 : Int), ∀ (vk : Nat) (w1 : World), vI x8 vk w1 →
 (decide (x8 < (sN : Int)) = true →
 (0 ≤ x8 ∧ x8 < (sN : Int)) ∧ someV sA fun p =>
 ∃ x15 : Int, w1.cell? (p.add (x8.toNat * 1)) = some (.int .i64 x15) ∧
 Calls Tryz.prog 124 #[(.int .i64 x15)] w1 (Ret fun v w2 => ∃ x16 : Bool, v = (.bool x16) ∧
 (x16 = true →
 R (.int .i64 x8) w2) ∧
 (x16 = false →
 ∃ vk_1 : Nat, vk_1 < vk ∧ vI (IntKind.i64.wrap (x8 + 1)) vk_1 w2))) ∧
 (decide (x8 < (sN : Int)) = false →
 R (.int .i64 (-1)) w1)
theorem slices_IndexFunc.calls_ch (sA : Option Addr) (sN : Nat) (sC : Nat) {w : World} {R : Value → World → Prop} (h : slices_IndexFunc.vc_ch sA sN sC w R) : Calls Tryz.prog 91 #[(.slice sA sN sC), (.func (.func 124) #[] #[])] w (Ret R) :=
 calls_V fit Tryz.func91 (.lp ([(4, none), (5, none), (8, some (.int .i64))] ++ nn 9 10) (.c (.c .nil .nil) .nil)) (Eq.mpr (by kernel_rfl) h)
def slices_ContainsFunc.vc_mw (sA : Option Addr) (sN : Nat) (sC : Nat) (w : World) (R : Value → World → Prop) : Prop :=
 Calls Tryz.prog 91 #[(.slice sA sN sC), (.func (.func 205) #[] #[])] w (Ret fun v w1 => ∃ x7 : Int, v = (.int .i64 x7) ∧
 R (.bool (decide (x7 ≥ (0 : Int)))) w1)
theorem slices_ContainsFunc.calls_mw (sA : Option Addr) (sN : Nat) (sC : Nat) {w : World} {R : Value → World → Prop} (h : slices_ContainsFunc.vc_mw sA sN sC w R) : Calls Tryz.prog 52 #[(.slice sA sN sC), (.func (.func 205) #[] #[])] w (Ret R) :=
 calls_V fit Tryz.func52 .nil (Eq.mpr (by kernel_rfl) h)
def slices_IndexFunc.vc_mw (sA : Option Addr) (sN : Nat) (sC : Nat) (w : World) (R : Value → World → Prop) : Prop :=
 ∃ vI : Int → Nat → World → Prop, (∃ vk_2 : Nat, vI 0 vk_2 w) ∧
 ∀ (jk : Nat → Value) (x8 : Int), ∀ (vk : Nat) (w1 : World), vI x8 vk w1 →
 (decide (x8 < (sN : Int)) = true →
 (0 ≤ x8 ∧ x8 < (sN : Int)) ∧ someV sA fun p =>
 ∃ x15 : Int, w1.cell? (p.add (x8.toNat * 1)) = some (.int .i64 x15) ∧
 Calls Tryz.prog 205 #[(.int .i64 x15)] w1 (Ret fun v w2 => ∃ x16 : Bool, v = (.bool x16) ∧
 (x16 = true →
 R (.int .i64 x8) w2) ∧
 (x16 = false →
 ∃ vk_1 : Nat, vk_1 < vk ∧ vI (IntKind.i64.wrap (x8 + 1)) vk_1 w2))) ∧
 (decide (x8 < (sN : Int)) = false →
 R (.int .i64 (-1)) w1)
theorem slices_IndexFunc.calls_mw (sA : Option Addr) (sN : Nat) (sC : Nat) {w : World} {R : Value → World → Prop} (h : slices_IndexFunc.vc_mw sA sN sC w R) : Calls Tryz.prog 91 #[(.slice sA sN sC), (.func (.func 205) #[] #[])] w (Ret R) :=
 calls_V fit Tryz.func91 (.lp ([(4, none), (5, none), (8, some (.int .i64))] ++ nn 9 10) (.c (.c .nil .nil) .nil)) (Eq.mpr (by kernel_rfl) h)
def slices_ContainsFunc.vc_un (sA : Option Addr) (sN : Nat) (sC : Nat) (c0B : Nat) (w : World) (R : Value → World → Prop) : Prop :=
 Calls Tryz.prog 208 #[(.slice sA sN sC), (.func (.func 206) #[] #[(.pointer (some ⟨c0B, 0, none⟩))])] w (Ret fun v w1 => ∃ x7 : Int, v = (.int .i64 x7) ∧
 R (.bool (decide (x7 ≥ (0 : Int)))) w1)
theorem slices_ContainsFunc.calls_un (sA : Option Addr) (sN : Nat) (sC : Nat) (c0B : Nat) {w : World} {R : Value → World → Prop} (h : slices_ContainsFunc.vc_un sA sN sC c0B w R) : Calls Tryz.prog 207 #[(.slice sA sN sC), (.func (.func 206) #[] #[(.pointer (some (⟨c0B, 0, none⟩ : Addr)))])] w (Ret R) :=
 calls_V fit Tryz.func207 .nil (Eq.mpr (by kernel_rfl) h)
def slices_IndexFunc.vc_un (sA : Option Addr) (sN : Nat) (sC : Nat) (c0B : Nat) (w : World) (R : Value → World → Prop) : Prop :=
 ∃ vI : Int → Nat → World → Prop, (∃ vk_2 : Nat, vI 0 vk_2 w) ∧
 ∀ (jk : Nat → Value) (x8 : Int), ∀ (vk : Nat) (w1 : World), vI x8 vk w1 →
 (decide (x8 < (sN : Int)) = true →
 (0 ≤ x8 ∧ x8 < (sN : Int)) ∧ someV sA fun p =>
 ∃ (x15A : Option Addr) (x15N x15C : Nat), w1.cell? (p.add (x8.toNat * 1)) = some (.slice x15A x15N x15C) ∧
 Calls Tryz.prog 206 #[(.slice x15A x15N x15C), (.pointer (some ⟨c0B, 0, none⟩))] w1 (Ret fun v w2 => ∃ x16 : Bool, v = (.bool x16) ∧
 (x16 = true →
 R (.int .i64 x8) w2) ∧
 (x16 = false →
 ∃ vk_1 : Nat, vk_1 < vk ∧ vI (IntKind.i64.wrap (x8 + 1)) vk_1 w2))) ∧
 (decide (x8 < (sN : Int)) = false →
 R (.int .i64 (-1)) w1)
theorem slices_IndexFunc.calls_un (sA : Option Addr) (sN : Nat) (sC : Nat) (c0B : Nat) {w : World} {R : Value → World → Prop} (h : slices_IndexFunc.vc_un sA sN sC c0B w R) : Calls Tryz.prog 208 #[(.slice sA sN sC), (.func (.func 206) #[] #[(.pointer (some (⟨c0B, 0, none⟩ : Addr)))])] w (Ret R) :=
 calls_V fit Tryz.func208 (.lp ([(4, none), (5, none), (8, some (.int .i64))] ++ nn 9 10) (.c (.c .nil .nil) .nil)) (Eq.mpr (by kernel_rfl) h)
def soft_table.vc (w : World) (R : Value → World → Prop) : Prop :=
 ∀ w1 : World, w1 = w.alloc (.cells #[(.int .i64 0), (.int .i64 0), (.int .i64 0), (.int .i64 0), (.int .i64 0), (.int .i64 0), (.int .i64 0), (.int .i64 0)] 222 (0, 0)) →
 (Okc w1 ⟨w.heap.size, 0, none⟩ ∧ Okc w1 ⟨w.heap.size, 1, none⟩ ∧ Okc w1 ⟨w.heap.size, 2, none⟩ ∧ Okc w1 ⟨w.heap.size, 3, none⟩ ∧ Okc w1 ⟨w.heap.size, 4, none⟩ ∧ Okc w1 ⟨w.heap.size, 5, none⟩ ∧ Okc w1 ⟨w.heap.size, 6, none⟩ ∧ Okc w1 ⟨w.heap.size, 7, none⟩) ∧ ∀ w2 : World, w2 = ((((((((w1.setCell ⟨w.heap.size, 0, none⟩ (.int .i64 65536)).setCell ⟨w.heap.size, 1, none⟩ (.int .i64 60097)).setCell ⟨w.heap.size, 2, none⟩ (.int .i64 55109)).setCell ⟨w.heap.size, 3, none⟩ (.int .i64 50535)).setCell ⟨w.heap.size, 4, none⟩ (.int .i64 46341)).setCell ⟨w.heap.size, 5, none⟩ (.int .i64 42495)).setCell ⟨w.heap.size, 6, none⟩ (.int .i64 38968)).setCell ⟨w.heap.size, 7, none⟩ (.int .i64 35734)) →
 ∃ r00 r01 r02 r03 r04 r05 r06 r07 : Int, (w2.cell? ⟨w.heap.size, 0, none⟩ = some (.int .i64 r00) ∧ w2.cell? ⟨w.heap.size, 1, none⟩ = some (.int .i64 r01) ∧ w2.cell? ⟨w.heap.size, 2, none⟩ = some (.int .i64 r02) ∧ w2.cell? ⟨w.heap.size, 3, none⟩ = some (.int .i64 r03) ∧ w2.cell? ⟨w.heap.size, 4, none⟩ = some (.int .i64 r04) ∧ w2.cell? ⟨w.heap.size, 5, none⟩ = some (.int .i64 r05) ∧ w2.cell? ⟨w.heap.size, 6, none⟩ = some (.int .i64 r06) ∧ w2.cell? ⟨w.heap.size, 7, none⟩ = some (.int .i64 r07)) ∧
 R (.agg #[(.int .i64 r00), (.int .i64 r01), (.int .i64 r02), (.int .i64 r03), (.int .i64 r04), (.int .i64 r05), (.int .i64 r06), (.int .i64 r07)]) w2
theorem soft_table.calls {w : World} {R : Value → World → Prop} (h : soft_table.vc  w R) : Calls Tryz.prog 163 #[] w (Ret R) :=
 calls_V fit Tryz.func163 .nil (Eq.mpr (by kernel_rfl) h)
def soft_clamped.vc (n : Int) (w : World) (R : Value → World → Prop) : Prop :=
 Calls Tryz.prog 153 #[(.int .i64 n), (.int .i64 (-1073741824)), (.int .i64 1073741824)] w (Ret fun v w1 => ∃ x4 : Int, v = (.int .i64 x4) ∧
 R (.int .i64 x4) w1)
theorem soft_clamped.calls (n : Int) {w : World} {R : Value → World → Prop} (h : soft_clamped.vc n w R) : Calls Tryz.prog 126 #[(.int .i64 n)] w (Ret R) :=
 calls_V fit Tryz.func126 .nil (Eq.mpr (by kernel_rfl) h)
def soft_Exp.vc (below : Int) (w : World) (R : Value → World → Prop) : Prop :=
 Calls Tryz.prog 163 #[] w (Ret fun v w1 => ∃ x60 x61 x62 x63 x64 x65 x66 x67 : Int, v = (.agg #[(.int .i64 x60), (.int .i64 x61), (.int .i64 x62), (.int .i64 x63), (.int .i64 x64), (.int .i64 x65), (.int .i64 x66), (.int .i64 x67)]) ∧
 ∀ w2 : World, w2 = w1.alloc (.cells #[(.int .i64 0), (.int .i64 0), (.int .i64 0), (.int .i64 0), (.int .i64 0), (.int .i64 0), (.int .i64 0), (.int .i64 0)] 222 (0, 0)) →
 (Okc w2 ⟨w1.heap.size, 0, none⟩ ∧ Okc w2 ⟨w1.heap.size, 1, none⟩ ∧ Okc w2 ⟨w1.heap.size, 2, none⟩ ∧ Okc w2 ⟨w1.heap.size, 3, none⟩ ∧ Okc w2 ⟨w1.heap.size, 4, none⟩ ∧ Okc w2 ⟨w1.heap.size, 5, none⟩ ∧ Okc w2 ⟨w1.heap.size, 6, none⟩ ∧ Okc w2 ⟨w1.heap.size, 7, none⟩) ∧ ∀ w3 : World, w3 = ((((((((w2.setCell ⟨w1.heap.size, 0, none⟩ (.int .i64 x60)).setCell ⟨w1.heap.size, 1, none⟩ (.int .i64 x61)).setCell ⟨w1.heap.size, 2, none⟩ (.int .i64 x62)).setCell ⟨w1.heap.size, 3, none⟩ (.int .i64 x63)).setCell ⟨w1.heap.size, 4, none⟩ (.int .i64 x64)).setCell ⟨w1.heap.size, 5, none⟩ (.int .i64 x65)).setCell ⟨w1.heap.size, 6, none⟩ (.int .i64 x66)).setCell ⟨w1.heap.size, 7, none⟩ (.int .i64 x67)) →
 (8 : Int) ≠ 0 ∧
 (0 ≤ (Int.tmod (if (0 : Int) > below then (0 : Int) else below) 8) ∧ (Int.tmod (if (0 : Int) > below then (0 : Int) else below) 8) < (8 : Int)) ∧
 ∃ x10 : Int, w3.cell? ((⟨w1.heap.size, 0, none⟩ : Addr).add ((Int.tmod (if (0 : Int) > below then (0 : Int) else below) 8).toNat * 1)) = some (.int .i64 x10) ∧
 (8 : Int) ≠ 0 ∧
 0 ≤ (if (17 : Int) < (IntKind.i64.wrap (Int.tdiv (if (0 : Int) > below then (0 : Int) else below) 8)) then (17 : Int) else (IntKind.i64.wrap (Int.tdiv (if (0 : Int) > below then (0 : Int) else below) 8))) ∧
 R (.int .i64 (Int.fdiv x10 (2 ^ (min (if (17 : Int) < (IntKind.i64.wrap (Int.tdiv (if (0 : Int) > below then (0 : Int) else below) 8)) then (17 : Int) else (IntKind.i64.wrap (Int.tdiv (if (0 : Int) > below then (0 : Int) else below) 8))).toNat IntKind.i64.bits)))) w3)
theorem soft_Exp.calls (below : Int) {w : World} {R : Value → World → Prop} (h : soft_Exp.vc below w R) : Calls Tryz.prog 128 #[(.int .i64 below)] w (Ret R) :=
 calls_V fit Tryz.func128 .nil (Eq.mpr (by kernel_rfl) h)
def soft_Weights.vc (scoresA : Option Addr) (scoresN : Nat) (scoresC : Nat) (w : World) (R : Value → World → Prop) : Prop :=
 (((scoresN : Int) == (0 : Int)) = true →
 R (.slice none 0 0) w) ∧
 (((scoresN : Int) == (0 : Int)) = false →
 Calls Tryz.prog 127 #[(.slice scoresA scoresN scoresC)] w (Ret fun v w1 => ∃ x11 : Int, v = (.int .i64 x11) ∧
 Calls Tryz.prog 126 #[(.int .i64 x11)] w1 (Ret fun v_1 w2 => ∃ x12 : Int, v_1 = (.int .i64 x12) ∧
 ∃ vI : Option Addr → Nat → Nat → Int → Nat → World → Prop, (∃ vk_2 : Nat, vI none 0 0 0 vk_2 w2) ∧
 ∀ (jk : Nat → Value) (outA : Option Addr) (outN : Nat) (outC : Nat) (x15 : Int), ∀ (vk : Nat) (w3 : World), vI outA outN outC x15 vk w3 →
 (decide (x15 < (scoresN : Int)) = true →
 (0 ≤ x15 ∧ x15 < (scoresN : Int)) ∧ someV scoresA fun p =>
 ∃ x18 : Int, w3.cell? (p.add (x15.toNat * 1)) = some (.int .i64 x18) ∧
 Calls Tryz.prog 126 #[(.int .i64 x18)] w3 (Ret fun v_2 w4 => ∃ x22 : Int, v_2 = (.int .i64 x22) ∧
 Calls Tryz.prog 128 #[(.int .i64 (IntKind.i64.wrap (x12 - x22)))] w4 (Ret fun v_3 w5 => ∃ x24 : Int, v_3 = (.int .i64 x24) ∧
 ∀ w6 : World, w6 = w5.alloc (.cells #[(.int .i64 x24)] 3 (0, 0)) →
 ∃ (x26A : Option Addr) (x26N x26C : Nat), ∃ w7 : World, (Builtin.append_ #[35, 35] 35 #[(.slice outA outN outC), (.slice (some ⟨w5.heap.size, 0, none⟩) 1 1)]).run Tryz.prog w6 = .ok (.slice x26A x26N x26C) w7 ∧
 ∃ vk_1 : Nat, vk_1 < vk ∧ vI x26A x26N x26C (IntKind.i64.wrap (x15 + 1)) vk_1 w7))) ∧
 (decide (x15 < (scoresN : Int)) = false →
 R (.slice outA outN outC) w3))))
theorem soft_Weights.calls (scoresA : Option Addr) (scoresN : Nat) (scoresC : Nat) {w : World} {R : Value → World → Prop} (h : soft_Weights.vc scoresA scoresN scoresC w R) : Calls Tryz.prog 90 #[(.slice scoresA scoresN scoresC)] w (Ret R) :=
 calls_V fit Tryz.func90 (.c .nil (.lp ([(4, some (.slice)), (6, none), (15, some (.int .i64))] ++ nn 16 12) (.c .nil .nil))) (Eq.mpr (by kernel_rfl) h)
def soft_isMix.vc (weightsA : Option Addr) (weightsN : Nat) (weightsC : Nat) (rowsA : Option Addr) (rowsN : Nat) (rowsC : Nat) (w : World) (R : Value → World → Prop) : Prop :=
 ∀ w1 : World, w1 = w.alloc (.cells #[(.slice rowsA rowsN rowsC)] 120 (0, 0)) →
 ∃ (x7A : Option Addr) (x7N x7C : Nat), w1.cell? ⟨w.heap.size, 0, none⟩ = some (.slice x7A x7N x7C) ∧
 (((x7N : Int) == (0 : Int)) = true →
 R (.bool false) w1) ∧
 (((x7N : Int) == (0 : Int)) = false →
 ∃ (x13A : Option Addr) (x13N x13C : Nat), w1.cell? ⟨w.heap.size, 0, none⟩ = some (.slice x13A x13N x13C) ∧
 (((weightsN : Int) != (x13N : Int)) = true →
 R (.bool false) w1) ∧
 (((weightsN : Int) != (x13N : Int)) = false →
 Calls Tryz.prog 125 #[(.slice weightsA weightsN weightsC)] w1 (Ret fun v w2 => ∃ x19 : Int, v = (.int .i64 x19) ∧
 ((x19 == (0 : Int)) = true →
 R (.bool false) w2) ∧
 ((x19 == (0 : Int)) = false →
 Calls Tryz.prog 52 #[(.slice weightsA weightsN weightsC), (.func (.func 205) #[] #[])] w2 (Ret fun v_1 w3 => ∃ x25 : Bool, v_1 = (.bool x25) ∧
 ((!x25) = true →
 ∃ (x28A : Option Addr) (x28N x28C : Nat), w3.cell? ⟨w.heap.size, 0, none⟩ = some (.slice x28A x28N x28C) ∧
 Calls Tryz.prog 207 #[(.slice x28A x28N x28C), (.func (.func 206) #[] #[(.pointer (some ⟨w.heap.size, 0, none⟩))])] w3 (Ret fun v_2 w4 => ∃ x30 : Bool, v_2 = (.bool x30) ∧
 R (.bool (!x30)) w4)) ∧
 ((!x25) = false →
 R (.bool false) w3))))))
theorem soft_isMix.calls (weightsA : Option Addr) (weightsN : Nat) (weightsC : Nat) (rowsA : Option Addr) (rowsN : Nat) (rowsC : Nat) {w : World} {R : Value → World → Prop} (h : soft_isMix.vc weightsA weightsN weightsC rowsA rowsN rowsC w R) : Calls Tryz.prog 198 #[(.slice weightsA weightsN weightsC), (.slice rowsA rowsN rowsC)] w (Ret R) :=
 calls_V fit Tryz.func198 (.at_ 1 3 (.k .nil) (.at_ 1 10 (.k .nil) (.c .nil (.at_ 5 4 .nil .nil)))) (Eq.mpr (by kernel_rfl) h)
def soft_Mix.vc (weightsA : Option Addr) (weightsN : Nat) (weightsC : Nat) (rowsA : Option Addr) (rowsN : Nat) (rowsC : Nat) (w : World) (R : Value → World → Prop) : Prop :=
 Calls Tryz.prog 198 #[(.slice weightsA weightsN weightsC), (.slice rowsA rowsN rowsC)] w (Ret fun v w1 => ∃ x13 : Bool, v = (.bool x13) ∧
 ((!x13) = true →
 R (.slice none 0 0) w1) ∧
 ((!x13) = false →
 Calls Tryz.prog 125 #[(.slice weightsA weightsN weightsC)] w1 (Ret fun v_1 w2 => ∃ x16 : Int, v_1 = (.int .i64 x16) ∧
 (0 ≤ (0 : Int) ∧ (0 : Int) < (rowsN : Int)) ∧ someV rowsA fun p =>
 ∃ (x19A : Option Addr) (x19N x19C : Nat), w2.cell? p = some (.slice x19A x19N x19C) ∧
 ∃ vI : Option Addr → Nat → Nat → Int → Nat → World → Prop, (∃ vk_2 : Nat, vI none 0 0 0 vk_2 w2) ∧
 ∀ (jk : Nat → Value) (outA : Option Addr) (outN : Nat) (outC : Nat) (x21 : Int), ∀ (vk : Nat) (w3 : World), vI outA outN outC x21 vk w3 →
 (decide (x21 < (x19N : Int)) = true →
 ∃ vI_1 : Int → Int → Nat → World → Prop, (∃ vk_5 : Nat, vI_1 0 0 vk_5 w3) ∧
 ∀ (jk : Nat → Value) (x : Int) (x26 : Int), ∀ (vk_3 : Nat) (w4 : World), vI_1 x x26 vk_3 w4 →
 (decide (x26 < (rowsN : Int)) = true →
 (0 ≤ x26 ∧ x26 < (rowsN : Int)) ∧ someV rowsA fun p_1 =>
 ∃ (x30A : Option Addr) (x30N x30C : Nat), w4.cell? (p_1.add (x26.toNat * 1)) = some (.slice x30A x30N x30C) ∧
 ∃ vS : World → Prop, ∀ w5 : World, w5 = w4.drew → vS w5 ∧
 (0 ≤ x26 ∧ x26 < (weightsN : Int)) ∧ someV weightsA fun p_2 =>
 ∃ x35 : Int, (∀ w6, vS w6 → w6.cell? (p_2.add (x26.toNat * 1)) = some (.int .i64 x35)) ∧
 (0 ≤ x21 ∧ x21 < (x30N : Int)) ∧ someV x30A fun p_3 =>
 ∃ x39 : Int, (∀ w7, vS w7 → w7.cell? (p_3.add (x21.toNat * 1)) = some (.int .i64 x39)) ∧
 Calls Tryz.prog 126 #[(.int .i64 x39)] w5 (Ret fun v_2 w8 => ∃ x40 : Int, v_2 = (.int .i64 x40) ∧
 vS w8 ∧
 ∃ vk_4 : Nat, vk_4 < vk_3 ∧ vI_1 (IntKind.i64.wrap (x + (IntKind.i64.wrap (x35 * x40)))) (IntKind.i64.wrap (x26 + 1)) vk_4 w8)) ∧
 (decide (x26 < (rowsN : Int)) = false →
 x16 ≠ 0 ∧
 Calls Tryz.prog 115 #[(.int .i64 (IntKind.i64.wrap (Int.tdiv x x16)))] w4 (Ret fun v_3 w9 => ∃ x48 : Int, v_3 = (.int .i64 x48) ∧
 ∀ w10 : World, w10 = w9.alloc (.cells #[(.int .i64 x48)] 3 (0, 0)) →
 ∃ (x50A : Option Addr) (x50N x50C : Nat), ∃ w11 : World, (Builtin.append_ #[35, 35] 35 #[(.slice outA outN outC), (.slice (some ⟨w9.heap.size, 0, none⟩) 1 1)]).run Tryz.prog w10 = .ok (.slice x50A x50N x50C) w11 ∧
 ∃ vk_1 : Nat, vk_1 < vk ∧ vI x50A x50N x50C (IntKind.i64.wrap (x21 + 1)) vk_1 w11))) ∧
 (decide (x21 < (x19N : Int)) = false →
 R (.slice outA outN outC) w3))))
theorem soft_Mix.calls (weightsA : Option Addr) (weightsN : Nat) (weightsC : Nat) (rowsA : Option Addr) (rowsN : Nat) (rowsC : Nat) {w : World} {R : Value → World → Prop} (h : soft_Mix.vc weightsA weightsN weightsC rowsA rowsN rowsC w R) : Calls Tryz.prog 185 #[(.slice weightsA weightsN weightsC), (.slice rowsA rowsN rowsC)] w (Ret R) :=
 calls_V fit Tryz.func185 (.c .nil (.lp ([(6, some (.slice))] ++ nn 7 4 ++ [(21, some (.int .i64))] ++ nn 22 30) (.c (.lp ([(8, some (.int .i64)), (9, none), (10, none), (26, some (.int .i64))] ++ nn 27 17) (.c (.tk 0 (.tk 1 (.tk 2 (.tk 3 (.tk 4 (.tk 5 (.tk 6 (.tk 7 (.tk 8 (.alt 9 (.tk 10 (.tk 11 (.tk 12 (.fin .nil)))) .nil)))))))))) .nil)) .nil))) (Eq.mpr (by kernel_rfl) h)
def soft_Choose.vc (draw : Int) (weightsA : Option Addr) (weightsN : Nat) (weightsC : Nat) (w : World) (R : Value → World → Prop) : Prop :=
 (decide ((weightsN : Int) > (64 : Int)) = true →
 R (.int .i64 (-1)) w) ∧
 (decide ((weightsN : Int) > (64 : Int)) = false →
 Calls Tryz.prog 52 #[(.slice weightsA weightsN weightsC), (.func (.func 124) #[] #[])] w (Ret fun v w1 => ∃ x16 : Bool, v = (.bool x16) ∧
 (x16 = true →
 R (.int .i64 (-1)) w1) ∧
 (x16 = false →
 Calls Tryz.prog 125 #[(.slice weightsA weightsN weightsC)] w1 (Ret fun v_1 w2 => ∃ x19 : Int, v_1 = (.int .i64 x19) ∧
 ((x19 == (0 : Int)) = true →
 R (.int .i64 (-1)) w2) ∧
 ((x19 == (0 : Int)) = false →
 x19 ≠ 0 ∧
 ∃ J : Int → World → Prop, ((decide ((Int.tmod draw x19) < (0 : Int)) = true →
 J (IntKind.i64.wrap ((Int.tmod draw x19) + x19)) w2) ∧
 (decide ((Int.tmod draw x19) < (0 : Int)) = false →
 J (Int.tmod draw x19) w2)) ∧
 ∀ (jk : Nat → Value) (rest : Int), ∀ w3 : World, J rest w3 →
 ∃ vI : Int → Int → Nat → World → Prop, (∃ vk_2 : Nat, vI rest 0 vk_2 w3) ∧
 ∀ (jk : Nat → Value) (rest_1 : Int) (x32 : Int), ∀ (vk : Nat) (w4 : World), vI rest_1 x32 vk w4 →
 (decide (x32 < (weightsN : Int)) = true →
 (0 ≤ x32 ∧ x32 < (weightsN : Int)) ∧ someV weightsA fun p =>
 ∃ x36 : Int, w4.cell? (p.add (x32.toNat * 1)) = some (.int .i64 x36) ∧
 (decide (rest_1 < x36) = true →
 R (.int .i64 x32) w4) ∧
 (decide (rest_1 < x36) = false →
 ∃ vk_1 : Nat, vk_1 < vk ∧ vI (IntKind.i64.wrap (rest_1 - x36)) (IntKind.i64.wrap (x32 + 1)) vk_1 w4)) ∧
 (decide (x32 < (weightsN : Int)) = false →
 R (.int .i64 (-1)) w4))))))
theorem soft_Choose.calls (draw : Int) (weightsA : Option Addr) (weightsN : Nat) (weightsC : Nat) {w : World} {R : Value → World → Prop} (h : soft_Choose.vc draw weightsA weightsN weightsC w R) : Calls Tryz.prog 89 #[(.int .i64 draw), (.slice weightsA weightsN weightsC)] w (Ret R) :=
 calls_V fit Tryz.func89 (.at_ 2 3 (.k .nil) (.c .nil (.c .nil (.cut 1 ([(7, some (.int .i64))] ++ nn 25 5) (.c .nil .nil) (.lp ([(4, none), (7, some (.int .i64)), (8, none), (9, none), (32, some (.int .i64))] ++ nn 33 12) (.c (.c .nil .nil) .nil)))))) (Eq.mpr (by kernel_rfl) h)
def coadjutorref12_Exp.vc (d : Int) (w : World) (R : Value → World → Prop) : Prop :=
 ∀ w1 : World, w1 = w.alloc (.cells #[(.int .i64 0), (.int .i64 0), (.int .i64 0), (.int .i64 0), (.int .i64 0), (.int .i64 0), (.int .i64 0), (.int .i64 0)] 222 (0, 0)) →
 (Okc w1 ⟨w.heap.size, 0, none⟩ ∧ Okc w1 ⟨w.heap.size, 1, none⟩ ∧ Okc w1 ⟨w.heap.size, 2, none⟩ ∧ Okc w1 ⟨w.heap.size, 3, none⟩ ∧ Okc w1 ⟨w.heap.size, 4, none⟩ ∧ Okc w1 ⟨w.heap.size, 5, none⟩ ∧ Okc w1 ⟨w.heap.size, 6, none⟩ ∧ Okc w1 ⟨w.heap.size, 7, none⟩) ∧ ∀ w2 : World, w2 = ((((((((w1.setCell ⟨w.heap.size, 0, none⟩ (.int .i64 65536)).setCell ⟨w.heap.size, 1, none⟩ (.int .i64 60097)).setCell ⟨w.heap.size, 2, none⟩ (.int .i64 55109)).setCell ⟨w.heap.size, 3, none⟩ (.int .i64 50535)).setCell ⟨w.heap.size, 4, none⟩ (.int .i64 46341)).setCell ⟨w.heap.size, 5, none⟩ (.int .i64 42495)).setCell ⟨w.heap.size, 6, none⟩ (.int .i64 38968)).setCell ⟨w.heap.size, 7, none⟩ (.int .i64 35734)) →
 (8 : Int) ≠ 0 ∧
 (0 ≤ (Int.tmod (if (0 : Int) > d then (0 : Int) else d) 8) ∧ (Int.tmod (if (0 : Int) > d then (0 : Int) else d) 8) < (8 : Int)) ∧
 ∃ x12 : Int, w2.cell? ((⟨w.heap.size, 0, none⟩ : Addr).add ((Int.tmod (if (0 : Int) > d then (0 : Int) else d) 8).toNat * 1)) = some (.int .i64 x12) ∧
 ∃ vI : Int → Int → Nat → World → Prop, (∃ vk_2 : Nat, vI x12 0 vk_2 w2) ∧
 ∀ (jk : Nat → Value) (x : Int) (i : Int), ∀ (vk : Nat) (w3 : World), vI x i vk w3 →
 (8 : Int) ≠ 0 ∧
 (decide (i < (IntKind.i64.wrap (Int.tdiv (if (0 : Int) > d then (0 : Int) else d) 8))) = true →
 (decide (x > (0 : Int)) = true →
 (2 : Int) ≠ 0 ∧
 ∃ vk_1 : Nat, vk_1 < vk ∧ vI (IntKind.i64.wrap (Int.tdiv x 2)) (IntKind.i64.wrap (i + 1)) vk_1 w3) ∧
 (decide (x > (0 : Int)) = false →
 R (.int .i64 x) w3)) ∧
 (decide (i < (IntKind.i64.wrap (Int.tdiv (if (0 : Int) > d then (0 : Int) else d) 8))) = false →
 R (.int .i64 x) w3)
def coadjutorref12_Clamp.vc (x : Int) (w : World) (R : Value → World → Prop) : Prop :=
 Calls Tryz.prog 167 #[(.int .i64 x), (.int .i64 (-1073741824)), (.int .i64 1073741824)] w (Ret fun v w1 => ∃ x4 : Int, v = (.int .i64 x4) ∧
 R (.int .i64 x4) w1)
def coadjutorref12_Weights.vc (lA : Option Addr) (lN : Nat) (lC : Nat) (w : World) (R : Value → World → Prop) : Prop :=
 ∀ w1 : World, w1 = w.alloc (.cells #[] 3 (0, 0)) →
 ∃ vI : Option Addr → Nat → Nat → Int → Nat → World → Prop, (∃ vk_2 : Nat, vI (some ⟨w.heap.size, 0, none⟩) 0 0 0 vk_2 w1) ∧
 ∀ (jk : Nat → Value) (outA : Option Addr) (outN : Nat) (outC : Nat) (i : Int), ∀ (vk : Nat) (w2 : World), vI outA outN outC i vk w2 →
 (decide (i < (lN : Int)) = true →
 (0 ≤ i ∧ i < (lN : Int)) ∧ someV lA fun p =>
 ∃ x17 : Int, w2.cell? (p.add (i.toNat * 1)) = some (.int .i64 x17) ∧
 Calls Tryz.prog 174 #[(.int .i64 x17)] w2 (Ret fun v w3 => ∃ x18 : Int, v = (.int .i64 x18) ∧
 ∃ vI_1 : Int → Int → Nat → World → Prop, (∃ vk_5 : Nat, vI_1 x18 0 vk_5 w3) ∧
 ∀ (jk : Nat → Value) (high : Int) (vk_6 : Int), ∀ (vk_3 : Nat) (w4 : World), vI_1 high vk_6 vk_3 w4 →
 (decide (vk_6 < (lN : Int)) = true →
 (0 ≤ vk_6 ∧ vk_6 < (lN : Int)) ∧ someV lA fun p_1 =>
 ∃ x29 : Int, w4.cell? (p_1.add (vk_6.toNat * 1)) = some (.int .i64 x29) ∧
 Calls Tryz.prog 174 #[(.int .i64 x29)] w4 (Ret fun v_1 w5 => ∃ x30 : Int, v_1 = (.int .i64 x30) ∧
 ∃ vk_4 : Nat, vk_4 < vk_3 ∧ vI_1 (if x30 > high then x30 else high) (IntKind.i64.wrap (vk_6 + 1)) vk_4 w5)) ∧
 (decide (vk_6 < (lN : Int)) = false →
 (0 ≤ i ∧ i < (lN : Int)) ∧ someV lA fun p_2 =>
 ∃ x37 : Int, w4.cell? (p_2.add (i.toNat * 1)) = some (.int .i64 x37) ∧
 Calls Tryz.prog 174 #[(.int .i64 x37)] w4 (Ret fun v_2 w6 => ∃ x38 : Int, v_2 = (.int .i64 x38) ∧
 Calls Tryz.prog 175 #[(.int .i64 (IntKind.i64.wrap (high - x38)))] w6 (Ret fun v_3 w7 => ∃ x40 : Int, v_3 = (.int .i64 x40) ∧
 ∀ w8 : World, w8 = w7.alloc (.cells #[(.int .i64 x40)] 3 (0, 0)) →
 ∃ (x42A : Option Addr) (x42N x42C : Nat), ∃ w9 : World, (Builtin.append_ #[35, 35] 35 #[(.slice outA outN outC), (.slice (some ⟨w7.heap.size, 0, none⟩) 1 1)]).run Tryz.prog w8 = .ok (.slice x42A x42N x42C) w9 ∧
 ∃ vk_1 : Nat, vk_1 < vk ∧ vI x42A x42N x42C (IntKind.i64.wrap (i + 1)) vk_1 w9))))) ∧
 (decide (i < (lN : Int)) = false →
 R (.slice outA outN outC) w2)
def coadjutorref12_Mix.vc (weightsA : Option Addr) (weightsN : Nat) (weightsC : Nat) (rowsA : Option Addr) (rowsN : Nat) (rowsC : Nat) (w : World) (R : Value → World → Prop) : Prop :=
 ∀ w1 : World, w1 = w.alloc (.cells #[] 3 (0, 0)) →
 (((rowsN : Int) == (0 : Int)) = true →
 R (.slice (some ⟨w.heap.size, 0, none⟩) 0 0) w1) ∧
 (((rowsN : Int) == (0 : Int)) = false →
 (((weightsN : Int) != (rowsN : Int)) = true →
 R (.slice (some ⟨w.heap.size, 0, none⟩) 0 0) w1) ∧
 (((weightsN : Int) != (rowsN : Int)) = false →
 ∃ vI : Int → Int → Nat → World → Prop, (∃ vk_2 : Nat, vI 0 0 vk_2 w1) ∧
 ∀ (jk : Nat → Value) (sum : Int) (i : Int), ∀ (vk : Nat) (w2 : World), vI sum i vk w2 →
 (decide (i < (rowsN : Int)) = true →
 ∃ vS : World → Prop, ∀ w3 : World, w3 = w2.drew → vS w3 ∧
 (0 ≤ i ∧ i < (rowsN : Int)) ∧ someV rowsA fun p =>
 ∃ (x32A : Option Addr) (x32N x32C : Nat), (∀ w4, vS w4 → w4.cell? (p.add (i.toNat * 1)) = some (.slice x32A x32N x32C)) ∧
 (0 ≤ (0 : Int) ∧ (0 : Int) < (rowsN : Int)) ∧ someV rowsA fun p_1 =>
 ∃ (x36A : Option Addr) (x36N x36C : Nat), (∀ w5, vS w5 → w5.cell? p_1 = some (.slice x36A x36N x36C)) ∧
 (((x32N : Int) != (x36N : Int)) = true →
 R (.slice (some ⟨w.heap.size, 0, none⟩) 0 0) w3) ∧
 (((x32N : Int) != (x36N : Int)) = false →
 (0 ≤ i ∧ i < (weightsN : Int)) ∧ someV weightsA fun p_2 =>
 ∃ x43 : Int, (∀ w6, vS w6 → w6.cell? (p_2.add (i.toNat * 1)) = some (.int .i64 x43)) ∧
 (decide (x43 < (0 : Int)) = true →
 R (.slice (some ⟨w.heap.size, 0, none⟩) 0 0) w3) ∧
 (decide (x43 < (0 : Int)) = false →
 (0 ≤ i ∧ i < (weightsN : Int)) ∧ someV weightsA fun p_3 =>
 ∃ x50 : Int, (∀ w7, vS w7 → w7.cell? (p_3.add (i.toNat * 1)) = some (.int .i64 x50)) ∧
 (decide (x50 > (65536 : Int)) = true →
 R (.slice (some ⟨w.heap.size, 0, none⟩) 0 0) w3) ∧
 (decide (x50 > (65536 : Int)) = false →
 (0 ≤ i ∧ i < (weightsN : Int)) ∧ someV weightsA fun p_4 =>
 ∃ x58 : Int, w3.cell? (p_4.add (i.toNat * 1)) = some (.int .i64 x58) ∧
 ∃ vk_1 : Nat, vk_1 < vk ∧ vI (IntKind.i64.wrap (sum + x58)) (IntKind.i64.wrap (i + 1)) vk_1 w3)))) ∧
 (decide (i < (rowsN : Int)) = false →
 ∃ vI_1 : Option Addr → Nat → Nat → Int → Nat → World → Prop, (∃ vk_5 : Nat, vI_1 (some ⟨w.heap.size, 0, none⟩) 0 0 0 vk_5 w2) ∧
 ∀ (jk : Nat → Value) (outA : Option Addr) (outN : Nat) (outC : Nat) (vk_6 : Int), ∀ (vk_3 : Nat) (w8 : World), vI_1 outA outN outC vk_6 vk_3 w8 →
 (decide (sum > (0 : Int)) = true →
 (0 ≤ (0 : Int) ∧ (0 : Int) < (rowsN : Int)) ∧ someV rowsA fun p_5 =>
 ∃ (x66A : Option Addr) (x66N x66C : Nat), w8.cell? p_5 = some (.slice x66A x66N x66C) ∧
 (decide (vk_6 < (x66N : Int)) = true →
 ∃ vI_2 : Int → Int → Nat → World → Prop, (∃ vk_9 : Nat, vI_2 0 0 vk_9 w8) ∧
 ∀ (jk : Nat → Value) (x : Int) (i_1 : Int), ∀ (vk_7 : Nat) (w9 : World), vI_2 x i_1 vk_7 w9 →
 (decide (i_1 < (rowsN : Int)) = true →
 ∃ vS_1 : World → Prop, ∀ w10 : World, w10 = w9.drew → vS_1 w10 ∧
 (0 ≤ i_1 ∧ i_1 < (weightsN : Int)) ∧ someV weightsA fun p_6 =>
 ∃ x82 : Int, (∀ w11, vS_1 w11 → w11.cell? (p_6.add (i_1.toNat * 1)) = some (.int .i64 x82)) ∧
 (0 ≤ i_1 ∧ i_1 < (rowsN : Int)) ∧ someV rowsA fun p_7 =>
 ∃ (x86A : Option Addr) (x86N x86C : Nat), (∀ w12, vS_1 w12 → w12.cell? (p_7.add (i_1.toNat * 1)) = some (.slice x86A x86N x86C)) ∧
 (0 ≤ vk_6 ∧ vk_6 < (x86N : Int)) ∧ someV x86A fun p_8 =>
 ∃ x89 : Int, (∀ w13, vS_1 w13 → w13.cell? (p_8.add (vk_6.toNat * 1)) = some (.int .i64 x89)) ∧
 Calls Tryz.prog 174 #[(.int .i64 x89)] w10 (Ret fun v w14 => ∃ x90 : Int, v = (.int .i64 x90) ∧
 vS_1 w14 ∧
 ∃ vk_8 : Nat, vk_8 < vk_7 ∧ vI_2 (IntKind.i64.wrap (x + (IntKind.i64.wrap (x82 * x90)))) (IntKind.i64.wrap (i_1 + 1)) vk_8 w14)) ∧
 (decide (i_1 < (rowsN : Int)) = false →
 sum ≠ 0 ∧
 Calls Tryz.prog 132 #[(.int .i64 (IntKind.i64.wrap (Int.tdiv x sum)))] w9 (Ret fun v_1 w15 => ∃ x97 : Int, v_1 = (.int .i64 x97) ∧
 ∀ w16 : World, w16 = w15.alloc (.cells #[(.int .i64 x97)] 3 (0, 0)) →
 ∃ (x99A : Option Addr) (x99N x99C : Nat), ∃ w17 : World, (Builtin.append_ #[35, 35] 35 #[(.slice outA outN outC), (.slice (some ⟨w15.heap.size, 0, none⟩) 1 1)]).run Tryz.prog w16 = .ok (.slice x99A x99N x99C) w17 ∧
 ∃ vk_4 : Nat, vk_4 < vk_3 ∧ vI_1 x99A x99N x99C (IntKind.i64.wrap (vk_6 + 1)) vk_4 w17))) ∧
 (decide (vk_6 < (x66N : Int)) = false →
 R (.slice outA outN outC) w8)) ∧
 (decide (sum > (0 : Int)) = false →
 R (.slice outA outN outC) w8))))
def coadjutorref12_Choose.vc (draw : Int) (weightsA : Option Addr) (weightsN : Nat) (weightsC : Nat) (w : World) (R : Value → World → Prop) : Prop :=
 ∃ vI : Int → Int → Nat → World → Prop, (∃ vk_2 : Nat, vI 0 0 vk_2 w) ∧
 ∀ (jk : Nat → Value) (sum : Int) (i : Int), ∀ (vk : Nat) (w1 : World), vI sum i vk w1 →
 (decide (i < (weightsN : Int)) = true →
 (0 ≤ i ∧ i < (weightsN : Int)) ∧ someV weightsA fun p =>
 ∃ x18 : Int, w1.cell? (p.add (i.toNat * 1)) = some (.int .i64 x18) ∧
 (decide (x18 < (0 : Int)) = true →
 R (.int .i64 (-1)) w1) ∧
 (decide (x18 < (0 : Int)) = false →
 (0 ≤ i ∧ i < (weightsN : Int)) ∧ someV weightsA fun p_1 =>
 ∃ x24 : Int, w1.cell? (p_1.add (i.toNat * 1)) = some (.int .i64 x24) ∧
 (decide (x24 > (1048576 : Int)) = true →
 R (.int .i64 (-1)) w1) ∧
 (decide (x24 > (1048576 : Int)) = false →
 (decide ((weightsN : Int) > (64 : Int)) = true →
 R (.int .i64 (-1)) w1) ∧
 (decide ((weightsN : Int) > (64 : Int)) = false →
 (0 ≤ i ∧ i < (weightsN : Int)) ∧ someV weightsA fun p_2 =>
 ∃ x36 : Int, w1.cell? (p_2.add (i.toNat * 1)) = some (.int .i64 x36) ∧
 ∃ vk_1 : Nat, vk_1 < vk ∧ vI (IntKind.i64.wrap (sum + x36)) (IntKind.i64.wrap (i + 1)) vk_1 w1)))) ∧
 (decide (i < (weightsN : Int)) = false →
 ((sum == (0 : Int)) = true →
 R (.int .i64 (-1)) w1) ∧
 ((sum == (0 : Int)) = false →
 sum ≠ 0 ∧
 ∃ J : Int → World → Prop, ((decide ((Int.tmod draw sum) < (0 : Int)) = true →
 J (IntKind.i64.wrap ((Int.tmod draw sum) + sum)) w1) ∧
 (decide ((Int.tmod draw sum) < (0 : Int)) = false →
 J (Int.tmod draw sum) w1)) ∧
 ∀ (jk : Nat → Value) (d : Int), ∀ w2 : World, J d w2 →
 ∃ vI_1 : Int → Int → Nat → World → Prop, (∃ vk_5 : Nat, vI_1 d 0 vk_5 w2) ∧
 ∀ (jk : Nat → Value) (d_1 : Int) (i_1 : Int), ∀ (vk_3 : Nat) (w3 : World), vI_1 d_1 i_1 vk_3 w3 →
 (decide (i_1 < (weightsN : Int)) = true →
 (0 ≤ i_1 ∧ i_1 < (weightsN : Int)) ∧ someV weightsA fun p_3 =>
 ∃ x58 : Int, w3.cell? (p_3.add (i_1.toNat * 1)) = some (.int .i64 x58) ∧
 (decide (d_1 < x58) = true →
 R (.int .i64 i_1) w3) ∧
 (decide (d_1 < x58) = false →
 (0 ≤ i_1 ∧ i_1 < (weightsN : Int)) ∧ someV weightsA fun p_4 =>
 ∃ x65 : Int, w3.cell? (p_4.add (i_1.toNat * 1)) = some (.int .i64 x65) ∧
 ∃ vk_4 : Nat, vk_4 < vk_3 ∧ vI_1 (IntKind.i64.wrap (d_1 - x65)) (IntKind.i64.wrap (i_1 + 1)) vk_4 w3)) ∧
 (decide (i_1 < (weightsN : Int)) = false →
 R (.int .i64 (-1)) w3)))
def coadjutorref12_Best.vc (lA : Option Addr) (lN : Nat) (lC : Nat) (w : World) (R : Value → World → Prop) : Prop :=
 ∃ vI : Int → Int → Nat → World → Prop, (∃ vk_2 : Nat, vI (-1) 0 vk_2 w) ∧
 ∀ (jk : Nat → Value) (vat : Int) (i : Int), ∀ (vk : Nat) (w1 : World), vI vat i vk w1 →
 (decide (i < (lN : Int)) = true →
 ∃ vS : World → Prop, ∀ w2 : World, w2 = w1.drew → vS w2 ∧
 (decide (vat < (0 : Int)) = true →
 ∃ vk_1 : Nat, vk_1 < vk ∧ vI i (IntKind.i64.wrap (i + 1)) vk_1 w2) ∧
 (decide (vat < (0 : Int)) = false →
 (0 ≤ i ∧ i < (lN : Int)) ∧ someV lA fun p =>
 ∃ x17 : Int, (∀ w3, vS w3 → w3.cell? (p.add (i.toNat * 1)) = some (.int .i64 x17)) ∧
 (0 ≤ vat ∧ vat < (lN : Int)) ∧ someV lA fun p_1 =>
 ∃ x21 : Int, (∀ w4, vS w4 → w4.cell? (p_1.add (vat.toNat * 1)) = some (.int .i64 x21)) ∧
 (decide (x17 > x21) = true →
 ∃ vk_1 : Nat, vk_1 < vk ∧ vI i (IntKind.i64.wrap (i + 1)) vk_1 w2) ∧
 (decide (x17 > x21) = false →
 ∃ vk_1 : Nat, vk_1 < vk ∧ vI vat (IntKind.i64.wrap (i + 1)) vk_1 w2))) ∧
 (decide (i < (lN : Int)) = false →
 R (.int .i64 vat) w1)
theorem coadjutorref12_Best.calls (lA : Option Addr) (lN : Nat) (lC : Nat) {w : World} {R : Value → World → Prop} (h : coadjutorref12_Best.vc lA lN lC w R) : Calls Tryz.prog 98 #[(.slice lA lN lC)] w (Ret R) :=
 calls_V fit Tryz.func98 (.lp ([(3, some (.int .i64)), (4, some (.int .i64))] ++ nn 5 20) (.c (.tk 0 (.tk 1 (.tks 2 (.tk 3 (.tk 4 (.tk 5 (.tk 6 (.tk 7 (.tk 8 (.tk 9 (.tk 10 (.tk 11 (.tk 12 (.fin (.k .nil)))))))))))) (.tk 3 (.tk 4 (.tk 5 (.tk 6 (.tk 7 (.tk 8 (.tk 9 (.tk 10 (.tk 11 (.tk 12 (.fin (.c .nil .nil))))))))))))))) .nil)) (Eq.mpr (by kernel_rfl) h)
def slices_Max.vc (xA : Option Addr) (xN : Nat) (xC : Nat) (w : World) (R : Value → World → Prop) : Prop :=
 (decide ((xN : Int) < (1 : Int)) = true →
 False) ∧
 (decide ((xN : Int) < (1 : Int)) = false →
 (0 ≤ (0 : Int) ∧ (0 : Int) < (xN : Int)) ∧ someV xA fun p =>
 ∃ x11 : Int, w.cell? p = some (.int .i64 x11) ∧
 ∃ vI : Int → Int → Nat → World → Prop, (∃ vk_2 : Nat, vI x11 1 vk_2 w) ∧
 ∀ (jk : Nat → Value) (m : Int) (i : Int), ∀ (vk : Nat) (w1 : World), vI m i vk w1 →
 (decide (i < (xN : Int)) = true →
 (0 ≤ i ∧ i < (xN : Int)) ∧ someV xA fun p_1 =>
 ∃ x22 : Int, w1.cell? (p_1.add (i.toNat * 1)) = some (.int .i64 x22) ∧
 ∃ vk_1 : Nat, vk_1 < vk ∧ vI (if x22 > m then x22 else m) (IntKind.i64.wrap (i + 1)) vk_1 w1) ∧
 (decide (i < (xN : Int)) = false →
 R (.int .i64 m) w1))
theorem slices_Max.calls (xA : Option Addr) (xN : Nat) (xC : Nat) {w : World} {R : Value → World → Prop} (h : slices_Max.vc xA xN xC w R) : Calls Tryz.prog 127 #[(.slice xA xN xC)] w (Ret R) :=
 calls_V fit Tryz.func127 (.c .nil (.lp ([(3, some (.int .i64)), (4, some (.int .i64))] ++ nn 12 12) (.c .nil .nil))) (Eq.mpr (by kernel_rfl) h)
def slices_Index.vc (sA : Option Addr) (sN : Nat) (sC : Nat) (v : Int) (w : World) (R : Value → World → Prop) : Prop :=
 ∃ vI : Int → Nat → World → Prop, (∃ vk_2 : Nat, vI 0 vk_2 w) ∧
 ∀ (jk : Nat → Value) (x8 : Int), ∀ (vk : Nat) (w1 : World), vI x8 vk w1 →
 (decide (x8 < (sN : Int)) = true →
 (0 ≤ x8 ∧ x8 < (sN : Int)) ∧ someV sA fun p =>
 ∃ x15 : Int, w1.cell? (p.add (x8.toNat * 1)) = some (.int .i64 x15) ∧
 ((v == x15) = true →
 R (.int .i64 x8) w1) ∧
 ((v == x15) = false →
 ∃ vk_1 : Nat, vk_1 < vk ∧ vI (IntKind.i64.wrap (x8 + 1)) vk_1 w1)) ∧
 (decide (x8 < (sN : Int)) = false →
 R (.int .i64 (-1)) w1)
end Go.Proofs.YtkbikekbaboclaaGreat.Vc
set_option linter.unusedVariables false
set_option maxRecDepth 100000
namespace Go.Proofs.YtkbikekbaboclaaGreat.Vc
open Go Go.Proofs V
def conf_within.vc (n : Int) (vfrom : Int) (to : Int) (w : World) (R : Value → World → Prop) : Prop :=
 (decide (n ≥ vfrom) = true →
 R (.bool (decide (n ≤ to))) w) ∧
 (decide (n ≥ vfrom) = false →
 R (.bool false) w)
theorem conf_within.calls (n : Int) (vfrom : Int) (to : Int) {w : World} {R : Value → World → Prop} (h : conf_within.vc n vfrom to w R) : Calls Tryz.prog 100 #[(.int .i64 n), (.int .i64 vfrom), (.int .i64 to)] w (Ret R) :=
 calls_V fit Tryz.func100 (.at_ 1 3 .nil .nil) (Eq.mpr (by kernel_rfl) h)
def conf_Shape_side.vc (s0 : Int) (s1 : Int) (s2 : Int) (s3 : Int) (s4 : Int) (s5 : Int) (part : Int) (w : World) (R : Value → World → Prop) : Prop :=
 ∀ w1 : World, w1 = w.alloc (.cells #[(.int .i64 s0), (.int .i64 s1), (.int .i64 s2), (.int .i64 s3), (.int .i64 s4), (.int .i64 s5)] 112 (0, 0)) →
 ((part == (0 : Int)) = true →
 ∃ vS : World → Prop, ∀ w2 : World, w2 = w1.drew → vS w2 ∧
 ∃ x11 : Int, (∀ w3, vS w3 → w3.cell? ⟨w.heap.size, 0, none⟩ = some (.int .i64 x11)) ∧
 ∃ x14 : Int, (∀ w4, vS w4 → w4.cell? ⟨w.heap.size, 1, none⟩ = some (.int .i64 x14)) ∧
 R (.tuple #[(.int .i64 x11), (.int .i64 x14)]) w2) ∧
 ((part == (0 : Int)) = false →
 ((part == (1 : Int)) = true →
 ∃ vS_1 : World → Prop, ∀ w5 : World, w5 = w1.drew → vS_1 w5 ∧
 ∃ x19 : Int, (∀ w6, vS_1 w6 → w6.cell? ⟨w.heap.size, 5, none⟩ = some (.int .i64 x19)) ∧
 ∃ x22 : Int, (∀ w7, vS_1 w7 → w7.cell? ⟨w.heap.size, 1, none⟩ = some (.int .i64 x22)) ∧
 R (.tuple #[(.int .i64 x19), (.int .i64 x22)]) w5) ∧
 ((part == (1 : Int)) = false →
 ((part == (2 : Int)) = true →
 (part == (2 : Int)) = true ∧
 ∃ vS_2 : World → Prop, ∀ w8 : World, w8 = w1.drew → vS_2 w8 ∧
 ∃ x29 : Int, (∀ w9, vS_2 w9 → w9.cell? ⟨w.heap.size, 1, none⟩ = some (.int .i64 x29)) ∧
 R (.tuple #[(.int .i64 1), (.int .i64 x29)]) w8) ∧
 ((part == (2 : Int)) = false →
 ((part == (7 : Int)) = true →
 (part == (7 : Int)) = true ∧
 ∃ vS_3 : World → Prop, ∀ w10 : World, w10 = w1.drew → vS_3 w10 ∧
 ∃ x29_1 : Int, (∀ w11, vS_3 w11 → w11.cell? ⟨w.heap.size, 1, none⟩ = some (.int .i64 x29_1)) ∧
 R (.tuple #[(.int .i64 1), (.int .i64 x29_1)]) w10) ∧
 ((part == (7 : Int)) = false →
 ((part == (11 : Int)) = true →
 ∃ vS_4 : World → Prop, ∀ w12 : World, w12 = w1.drew → vS_4 w12 ∧
 ∃ x29_2 : Int, (∀ w13, vS_4 w13 → w13.cell? ⟨w.heap.size, 1, none⟩ = some (.int .i64 x29_2)) ∧
 R (.tuple #[(.int .i64 1), (.int .i64 x29_2)]) w12) ∧
 ((part == (11 : Int)) = false →
 ((part == (3 : Int)) = true →
 (part == (3 : Int)) = true ∧
 ∃ vS_5 : World → Prop, ∀ w14 : World, w14 = w1.drew → vS_5 w14 ∧
 ∃ x37 : Int, (∀ w15, vS_5 w15 → w15.cell? ⟨w.heap.size, 1, none⟩ = some (.int .i64 x37)) ∧
 ∃ x40 : Int, (∀ w16, vS_5 w16 → w16.cell? ⟨w.heap.size, 1, none⟩ = some (.int .i64 x40)) ∧
 R (.tuple #[(.int .i64 x37), (.int .i64 x40)]) w14) ∧
 ((part == (3 : Int)) = false →
 ((part == (4 : Int)) = true →
 (part == (4 : Int)) = true ∧
 ∃ vS_6 : World → Prop, ∀ w17 : World, w17 = w1.drew → vS_6 w17 ∧
 ∃ x37_1 : Int, (∀ w18, vS_6 w18 → w18.cell? ⟨w.heap.size, 1, none⟩ = some (.int .i64 x37_1)) ∧
 ∃ x40_1 : Int, (∀ w19, vS_6 w19 → w19.cell? ⟨w.heap.size, 1, none⟩ = some (.int .i64 x40_1)) ∧
 R (.tuple #[(.int .i64 x37_1), (.int .i64 x40_1)]) w17) ∧
 ((part == (4 : Int)) = false →
 ((part == (5 : Int)) = true →
 (part == (5 : Int)) = true ∧
 ∃ vS_7 : World → Prop, ∀ w20 : World, w20 = w1.drew → vS_7 w20 ∧
 ∃ x37_2 : Int, (∀ w21, vS_7 w21 → w21.cell? ⟨w.heap.size, 1, none⟩ = some (.int .i64 x37_2)) ∧
 ∃ x40_2 : Int, (∀ w22, vS_7 w22 → w22.cell? ⟨w.heap.size, 1, none⟩ = some (.int .i64 x40_2)) ∧
 R (.tuple #[(.int .i64 x37_2), (.int .i64 x40_2)]) w20) ∧
 ((part == (5 : Int)) = false →
 ((part == (6 : Int)) = true →
 ∃ vS_8 : World → Prop, ∀ w23 : World, w23 = w1.drew → vS_8 w23 ∧
 ∃ x37_3 : Int, (∀ w24, vS_8 w24 → w24.cell? ⟨w.heap.size, 1, none⟩ = some (.int .i64 x37_3)) ∧
 ∃ x40_3 : Int, (∀ w25, vS_8 w25 → w25.cell? ⟨w.heap.size, 1, none⟩ = some (.int .i64 x40_3)) ∧
 R (.tuple #[(.int .i64 x37_3), (.int .i64 x40_3)]) w23) ∧
 ((part == (6 : Int)) = false →
 ((part == (8 : Int)) = true →
 (part == (8 : Int)) = true ∧
 ∃ vS_9 : World → Prop, ∀ w26 : World, w26 = w1.drew → vS_9 w26 ∧
 ∃ x46 : Int, (∀ w27, vS_9 w27 → w27.cell? ⟨w.heap.size, 4, none⟩ = some (.int .i64 x46)) ∧
 ∃ x49 : Int, (∀ w28, vS_9 w28 → w28.cell? ⟨w.heap.size, 1, none⟩ = some (.int .i64 x49)) ∧
 R (.tuple #[(.int .i64 x46), (.int .i64 x49)]) w26) ∧
 ((part == (8 : Int)) = false →
 ((part == (9 : Int)) = true →
 ∃ vS_10 : World → Prop, ∀ w29 : World, w29 = w1.drew → vS_10 w29 ∧
 ∃ x46_1 : Int, (∀ w30, vS_10 w30 → w30.cell? ⟨w.heap.size, 4, none⟩ = some (.int .i64 x46_1)) ∧
 ∃ x49_1 : Int, (∀ w31, vS_10 w31 → w31.cell? ⟨w.heap.size, 1, none⟩ = some (.int .i64 x49_1)) ∧
 R (.tuple #[(.int .i64 x46_1), (.int .i64 x49_1)]) w29) ∧
 ((part == (9 : Int)) = false →
 ((part == (10 : Int)) = true →
 ∃ vS_11 : World → Prop, ∀ w32 : World, w32 = w1.drew → vS_11 w32 ∧
 ∃ x54 : Int, (∀ w33, vS_11 w33 → w33.cell? ⟨w.heap.size, 1, none⟩ = some (.int .i64 x54)) ∧
 ∃ x57 : Int, (∀ w34, vS_11 w34 → w34.cell? ⟨w.heap.size, 4, none⟩ = some (.int .i64 x57)) ∧
 R (.tuple #[(.int .i64 x54), (.int .i64 x57)]) w32) ∧
 ((part == (10 : Int)) = false →
 R (.tuple #[(.int .i64 0), (.int .i64 0)]) w1))))))))))))
theorem conf_Shape_side.calls (s0 : Int) (s1 : Int) (s2 : Int) (s3 : Int) (s4 : Int) (s5 : Int) (part : Int) {w : World} {R : Value → World → Prop} (h : conf_Shape_side.vc s0 s1 s2 s3 s4 s5 part w R) : Calls Tryz.prog 176 #[(.agg #[(.int .i64 s0), (.int .i64 s1), (.int .i64 s2), (.int .i64 s3), (.int .i64 s4), (.int .i64 s5)]), (.int .i64 part)] w (Ret R) :=
 calls_V fit Tryz.func176 (.c (.tk 0 (.tk 1 (.tk 2 (.tk 3 (.tk 4 (.tk 5 (.tk 6 (.tk 7 (.fin .nil))))))))) (.c (.tk 0 (.tk 1 (.tk 2 (.tk 3 (.tk 4 (.tk 5 (.tk 6 (.tk 7 (.fin .nil))))))))) (.c (.y (.tk 0 (.tk 1 (.tk 2 (.tk 3 (.tk 4 (.fin .nil))))))) (.c (.y (.tk 0 (.tk 1 (.tk 2 (.tk 3 (.tk 4 (.fin .nil))))))) (.c (.tk 0 (.tk 1 (.tk 2 (.tk 3 (.tk 4 (.fin .nil)))))) (.c (.y (.tk 0 (.tk 1 (.tk 2 (.tk 3 (.tk 4 (.tk 5 (.tk 6 (.tk 7 (.fin .nil)))))))))) (.c (.y (.tk 0 (.tk 1 (.tk 2 (.tk 3 (.tk 4 (.tk 5 (.tk 6 (.tk 7 (.fin .nil)))))))))) (.c (.y (.tk 0 (.tk 1 (.tk 2 (.tk 3 (.tk 4 (.tk 5 (.tk 6 (.tk 7 (.fin .nil)))))))))) (.c (.tk 0 (.tk 1 (.tk 2 (.tk 3 (.tk 4 (.tk 5 (.tk 6 (.tk 7 (.fin .nil))))))))) (.c (.y (.tk 0 (.tk 1 (.tk 2 (.tk 3 (.tk 4 (.tk 5 (.tk 6 (.tk 7 (.fin .nil)))))))))) (.c (.tk 0 (.tk 1 (.tk 2 (.tk 3 (.tk 4 (.tk 5 (.tk 6 (.tk 7 (.fin .nil))))))))) (.c (.tk 0 (.tk 1 (.tk 2 (.tk 3 (.tk 4 (.tk 5 (.tk 6 (.tk 7 (.fin .nil))))))))) .nil)))))))))))) (Eq.mpr (by kernel_rfl) h)
def conf_Shape_span.vc (s0 : Int) (s1 : Int) (s2 : Int) (s3 : Int) (s4 : Int) (s5 : Int) (vfrom : Int) (to : Int) (w : World) (R : Value → World → Prop) : Prop :=
 ∀ w1 : World, w1 = w.alloc (.cells #[(.int .i64 s0), (.int .i64 s1), (.int .i64 s2), (.int .i64 s3), (.int .i64 s4), (.int .i64 s5)] 112 (0, 0)) →
 ∃ vI : Int → Int → Nat → World → Prop, (∃ vk_2 : Nat, vI 0 vfrom vk_2 w1) ∧
 ∀ (jk : Nat → Value) (n : Int) (part : Int), ∀ (vk : Nat) (w2 : World), vI n part vk w2 →
 (decide (part ≤ to) = true →
 ∃ x180 x181 x182 x183 x184 x185 : Int, (w2.cell? ⟨w.heap.size, 0, none⟩ = some (.int .i64 x180) ∧ w2.cell? ⟨w.heap.size, 1, none⟩ = some (.int .i64 x181) ∧ w2.cell? ⟨w.heap.size, 2, none⟩ = some (.int .i64 x182) ∧ w2.cell? ⟨w.heap.size, 3, none⟩ = some (.int .i64 x183) ∧ w2.cell? ⟨w.heap.size, 4, none⟩ = some (.int .i64 x184) ∧ w2.cell? ⟨w.heap.size, 5, none⟩ = some (.int .i64 x185)) ∧
 Calls Tryz.prog 176 #[(.agg #[(.int .i64 x180), (.int .i64 x181), (.int .i64 x182), (.int .i64 x183), (.int .i64 x184), (.int .i64 x185)]), (.int .i64 part)] w2 (Ret fun v w3 => ∃ x20_0 x20_1 : Int, v = (.tuple #[(.int .i64 x20_0), (.int .i64 x20_1)]) ∧
 ∃ vk_1 : Nat, vk_1 < vk ∧ vI (IntKind.i64.wrap (n + (IntKind.i64.wrap (x20_0 * x20_1)))) (IntKind.i64.wrap (part + 1)) vk_1 w3)) ∧
 (decide (part ≤ to) = false →
 R (.int .i64 n) w2)
theorem conf_Shape_span.calls (s0 : Int) (s1 : Int) (s2 : Int) (s3 : Int) (s4 : Int) (s5 : Int) (vfrom : Int) (to : Int) {w : World} {R : Value → World → Prop} (h : conf_Shape_span.vc s0 s1 s2 s3 s4 s5 vfrom to w R) : Calls Tryz.prog 143 #[(.agg #[(.int .i64 s0), (.int .i64 s1), (.int .i64 s2), (.int .i64 s3), (.int .i64 s4), (.int .i64 s5)]), (.int .i64 vfrom), (.int .i64 to)] w (Ret R) :=
 calls_V fit Tryz.func143 (.lp ([(7, some (.int .i64)), (8, some (.int .i64)), (9, none), (10, none)] ++ nn 12 16) (.c .nil .nil)) (Eq.mpr (by kernel_rfl) h)
def conf_Shape_all.vc (s0 : Int) (s1 : Int) (s2 : Int) (s3 : Int) (s4 : Int) (s5 : Int) (w : World) (R : Value → World → Prop) : Prop :=
 ∀ w1 : World, w1 = w.alloc (.cells #[(.int .i64 s0), (.int .i64 s1), (.int .i64 s2), (.int .i64 s3), (.int .i64 s4), (.int .i64 s5)] 112 (0, 0)) →
 ∃ vS : World → Prop, ∀ w2 : World, w2 = w1.drew → vS w2 ∧
 ∃ x30 x31 x32 x33 x34 x35 : Int, ((∀ w3, vS w3 → w3.cell? ⟨w.heap.size, 0, none⟩ = some (.int .i64 x30)) ∧ (∀ w3, vS w3 → w3.cell? ⟨w.heap.size, 1, none⟩ = some (.int .i64 x31)) ∧ (∀ w3, vS w3 → w3.cell? ⟨w.heap.size, 2, none⟩ = some (.int .i64 x32)) ∧ (∀ w3, vS w3 → w3.cell? ⟨w.heap.size, 3, none⟩ = some (.int .i64 x33)) ∧ (∀ w3, vS w3 → w3.cell? ⟨w.heap.size, 4, none⟩ = some (.int .i64 x34)) ∧ (∀ w3, vS w3 → w3.cell? ⟨w.heap.size, 5, none⟩ = some (.int .i64 x35))) ∧
 ∃ x7 : Int, (∀ w4, vS w4 → w4.cell? ⟨w.heap.size, 3, none⟩ = some (.int .i64 x7)) ∧
 ∃ x80 x81 x82 x83 x84 x85 : Int, ((∀ w5, vS w5 → w5.cell? ⟨w.heap.size, 0, none⟩ = some (.int .i64 x80)) ∧ (∀ w5, vS w5 → w5.cell? ⟨w.heap.size, 1, none⟩ = some (.int .i64 x81)) ∧ (∀ w5, vS w5 → w5.cell? ⟨w.heap.size, 2, none⟩ = some (.int .i64 x82)) ∧ (∀ w5, vS w5 → w5.cell? ⟨w.heap.size, 3, none⟩ = some (.int .i64 x83)) ∧ (∀ w5, vS w5 → w5.cell? ⟨w.heap.size, 4, none⟩ = some (.int .i64 x84)) ∧ (∀ w5, vS w5 → w5.cell? ⟨w.heap.size, 5, none⟩ = some (.int .i64 x85))) ∧
 ∃ x120 x121 x122 x123 x124 x125 : Int, ((∀ w6, vS w6 → w6.cell? ⟨w.heap.size, 0, none⟩ = some (.int .i64 x120)) ∧ (∀ w6, vS w6 → w6.cell? ⟨w.heap.size, 1, none⟩ = some (.int .i64 x121)) ∧ (∀ w6, vS w6 → w6.cell? ⟨w.heap.size, 2, none⟩ = some (.int .i64 x122)) ∧ (∀ w6, vS w6 → w6.cell? ⟨w.heap.size, 3, none⟩ = some (.int .i64 x123)) ∧ (∀ w6, vS w6 → w6.cell? ⟨w.heap.size, 4, none⟩ = some (.int .i64 x124)) ∧ (∀ w6, vS w6 → w6.cell? ⟨w.heap.size, 5, none⟩ = some (.int .i64 x125))) ∧
 Calls Tryz.prog 143 #[(.agg #[(.int .i64 x30), (.int .i64 x31), (.int .i64 x32), (.int .i64 x33), (.int .i64 x34), (.int .i64 x35)]), (.int .i64 0), (.int .i64 1)] w2 (Ret fun v w7 => ∃ x4 : Int, v = (.int .i64 x4) ∧
 vS w7 ∧
 Calls Tryz.prog 143 #[(.agg #[(.int .i64 x80), (.int .i64 x81), (.int .i64 x82), (.int .i64 x83), (.int .i64 x84), (.int .i64 x85)]), (.int .i64 2), (.int .i64 10)] w7 (Ret fun v_1 w8 => ∃ x9 : Int, v_1 = (.int .i64 x9) ∧
 vS w8 ∧
 Calls Tryz.prog 143 #[(.agg #[(.int .i64 x120), (.int .i64 x121), (.int .i64 x122), (.int .i64 x123), (.int .i64 x124), (.int .i64 x125)]), (.int .i64 11), (.int .i64 11)] w8 (Ret fun v_2 w9 => ∃ x13 : Int, v_2 = (.int .i64 x13) ∧
 vS w9 ∧
 R (.int .i64 (IntKind.i64.wrap ((IntKind.i64.wrap (x4 + (IntKind.i64.wrap (x7 * x9)))) + x13))) w9)))
theorem conf_Shape_all.calls (s0 : Int) (s1 : Int) (s2 : Int) (s3 : Int) (s4 : Int) (s5 : Int) {w : World} {R : Value → World → Prop} (h : conf_Shape_all.vc s0 s1 s2 s3 s4 s5 w R) : Calls Tryz.prog 101 #[(.agg #[(.int .i64 s0), (.int .i64 s1), (.int .i64 s2), (.int .i64 s3), (.int .i64 s4), (.int .i64 s5)])] w (Ret R) :=
 calls_V fit Tryz.func101 (.tk 0 (.tk 2 (.tk 3 (.tk 4 (.tk 5 (.tk 9 (.alt 1 (.alt 6 (.tk 7 (.tk 8 (.alt 10 (.tk 11 (.tk 12 (.fin .nil))) .nil))) .nil) .nil))))))) (Eq.mpr (by kernel_rfl) h)
def conf_Good.vc (c0 : Int) (c1 : Int) (c2 : Int) (c3 : Int) (c4 : Int) (c5 : Int) (w : World) (R : Value → World → Prop) : Prop :=
 ∀ w1 : World, w1 = w.alloc (.cells #[(.int .i64 c0), (.int .i64 c1), (.int .i64 c2), (.int .i64 c3), (.int .i64 c4), (.int .i64 c5)] 27 (0, 0)) →
 ∃ x4 : Int, w1.cell? ⟨w.heap.size, 0, none⟩ = some (.int .i64 x4) ∧
 Calls Tryz.prog 100 #[(.int .i64 x4), (.int .i64 2), (.int .i64 32)] w1 (Ret fun v w2 => ∃ x5 : Bool, v = (.bool x5) ∧
 ((!x5) = true →
 R (.bool false) w2) ∧
 ((!x5) = false →
 ∃ x9 : Int, w2.cell? ⟨w.heap.size, 1, none⟩ = some (.int .i64 x9) ∧
 Calls Tryz.prog 100 #[(.int .i64 x9), (.int .i64 1), (.int .i64 16)] w2 (Ret fun v_1 w3 => ∃ x10 : Bool, v_1 = (.bool x10) ∧
 ((!x10) = true →
 R (.bool false) w3) ∧
 ((!x10) = false →
 ∃ x15 : Int, w3.cell? ⟨w.heap.size, 2, none⟩ = some (.int .i64 x15) ∧
 Calls Tryz.prog 100 #[(.int .i64 x15), (.int .i64 1), (.int .i64 4)] w3 (Ret fun v_2 w4 => ∃ x16 : Bool, v_2 = (.bool x16) ∧
 ((!x16) = true →
 R (.bool false) w4) ∧
 ((!x16) = false →
 ∃ x20 : Int, w4.cell? ⟨w.heap.size, 3, none⟩ = some (.int .i64 x20) ∧
 Calls Tryz.prog 100 #[(.int .i64 x20), (.int .i64 1), (.int .i64 3)] w4 (Ret fun v_3 w5 => ∃ x21 : Bool, v_3 = (.bool x21) ∧
 ((!x21) = true →
 R (.bool false) w5) ∧
 ((!x21) = false →
 ∃ x25 : Int, w5.cell? ⟨w.heap.size, 4, none⟩ = some (.int .i64 x25) ∧
 Calls Tryz.prog 100 #[(.int .i64 x25), (.int .i64 1), (.int .i64 32)] w5 (Ret fun v_4 w6 => ∃ x26 : Bool, v_4 = (.bool x26) ∧
 ((!x26) = true →
 R (.bool false) w6) ∧
 ((!x26) = false →
 ∃ x31 : Int, w6.cell? ⟨w.heap.size, 5, none⟩ = some (.int .i64 x31) ∧
 Calls Tryz.prog 100 #[(.int .i64 x31), (.int .i64 1), (.int .i64 32)] w6 (Ret fun v_5 w7 => ∃ x32 : Bool, v_5 = (.bool x32) ∧
 ((!x32) = true →
 R (.bool false) w7) ∧
 ((!x32) = false →
 ∃ x36 : Int, w7.cell? ⟨w.heap.size, 1, none⟩ = some (.int .i64 x36) ∧
 ∃ x38 : Int, w7.cell? ⟨w.heap.size, 2, none⟩ = some (.int .i64 x38) ∧
 x38 ≠ 0 ∧
 (((Int.tmod x36 x38) == (0 : Int)) = true →
 ∃ x420 x421 x422 x423 x424 x425 : Int, (w7.cell? ⟨w.heap.size, 0, none⟩ = some (.int .i64 x420) ∧ w7.cell? ⟨w.heap.size, 1, none⟩ = some (.int .i64 x421) ∧ w7.cell? ⟨w.heap.size, 2, none⟩ = some (.int .i64 x422) ∧ w7.cell? ⟨w.heap.size, 3, none⟩ = some (.int .i64 x423) ∧ w7.cell? ⟨w.heap.size, 4, none⟩ = some (.int .i64 x424) ∧ w7.cell? ⟨w.heap.size, 5, none⟩ = some (.int .i64 x425)) ∧
 Calls Tryz.prog 101 #[(.agg #[(.int .i64 x420), (.int .i64 x421), (.int .i64 x422), (.int .i64 x423), (.int .i64 x424), (.int .i64 x425)])] w7 (Ret fun v_6 w8 => ∃ x44 : Int, v_6 = (.int .i64 x44) ∧
 R (.bool (decide (x44 ≤ (8192 : Int)))) w8)) ∧
 (((Int.tmod x36 x38) == (0 : Int)) = false →
 R (.bool false) w7)))))))))))))
theorem conf_Good.calls (c0 : Int) (c1 : Int) (c2 : Int) (c3 : Int) (c4 : Int) (c5 : Int) {w : World} {R : Value → World → Prop} (h : conf_Good.vc c0 c1 c2 c3 c4 c5 w R) : Calls Tryz.prog 66 #[(.agg #[(.int .i64 c0), (.int .i64 c1), (.int .i64 c2), (.int .i64 c3), (.int .i64 c4), (.int .i64 c5)])] w (Ret R) :=
 calls_V fit Tryz.func66 (.at_ 1 4 (.k .nil) (.at_ 1 10 (.k .nil) (.c .nil (.at_ 3 4 (.k .nil) (.at_ 3 10 (.k .nil) (.c .nil (.at_ 5 6 .nil .nil))))))) (Eq.mpr (by kernel_rfl) h)
def conf_Shape_Size.vc (s0 : Int) (s1 : Int) (s2 : Int) (s3 : Int) (s4 : Int) (s5 : Int) (w : World) (R : Value → World → Prop) : Prop :=
 ∀ w1 : World, w1 = w.alloc (.cells #[(.int .i64 s0), (.int .i64 s1), (.int .i64 s2), (.int .i64 s3), (.int .i64 s4), (.int .i64 s5)] 112 (0, 0)) →
 ∃ x40 x41 x42 x43 x44 x45 : Int, (w1.cell? ⟨w.heap.size, 0, none⟩ = some (.int .i64 x40) ∧ w1.cell? ⟨w.heap.size, 1, none⟩ = some (.int .i64 x41) ∧ w1.cell? ⟨w.heap.size, 2, none⟩ = some (.int .i64 x42) ∧ w1.cell? ⟨w.heap.size, 3, none⟩ = some (.int .i64 x43) ∧ w1.cell? ⟨w.heap.size, 4, none⟩ = some (.int .i64 x44) ∧ w1.cell? ⟨w.heap.size, 5, none⟩ = some (.int .i64 x45)) ∧
 Calls Tryz.prog 66 #[(.agg #[(.int .i64 x40), (.int .i64 x41), (.int .i64 x42), (.int .i64 x43), (.int .i64 x44), (.int .i64 x45)])] w1 (Ret fun v w2 => ∃ x5 : Bool, v = (.bool x5) ∧
 ((!x5) = true →
 R (.int .i64 0) w2) ∧
 ((!x5) = false →
 ∃ x70 x71 x72 x73 x74 x75 : Int, (w2.cell? ⟨w.heap.size, 0, none⟩ = some (.int .i64 x70) ∧ w2.cell? ⟨w.heap.size, 1, none⟩ = some (.int .i64 x71) ∧ w2.cell? ⟨w.heap.size, 2, none⟩ = some (.int .i64 x72) ∧ w2.cell? ⟨w.heap.size, 3, none⟩ = some (.int .i64 x73) ∧ w2.cell? ⟨w.heap.size, 4, none⟩ = some (.int .i64 x74) ∧ w2.cell? ⟨w.heap.size, 5, none⟩ = some (.int .i64 x75)) ∧
 Calls Tryz.prog 101 #[(.agg #[(.int .i64 x70), (.int .i64 x71), (.int .i64 x72), (.int .i64 x73), (.int .i64 x74), (.int .i64 x75)])] w2 (Ret fun v_1 w3 => ∃ x8 : Int, v_1 = (.int .i64 x8) ∧
 R (.int .i64 x8) w3)))
theorem conf_Shape_Size.calls (s0 : Int) (s1 : Int) (s2 : Int) (s3 : Int) (s4 : Int) (s5 : Int) {w : World} {R : Value → World → Prop} (h : conf_Shape_Size.vc s0 s1 s2 s3 s4 s5 w R) : Calls Tryz.prog 67 #[(.agg #[(.int .i64 s0), (.int .i64 s1), (.int .i64 s2), (.int .i64 s3), (.int .i64 s4), (.int .i64 s5)])] w (Ret R) :=
 calls_V fit Tryz.func67 (.c .nil .nil) (Eq.mpr (by kernel_rfl) h)
def brain_Of.vc (c0 : Int) (c1 : Int) (c2 : Int) (c3 : Int) (c4 : Int) (c5 : Int) (weights : ByteArray) (w : World) (R : Value → World → Prop) : Prop :=
 ∀ w1 : World, w1 = w.alloc (.cells #[(.int .i64 c0), (.int .i64 c1), (.int .i64 c2), (.int .i64 c3), (.int .i64 c4), (.int .i64 c5)] 27 (0, 0)) →
 ∃ x70 x71 x72 x73 x74 x75 : Int, (w1.cell? ⟨w.heap.size, 0, none⟩ = some (.int .i64 x70) ∧ w1.cell? ⟨w.heap.size, 1, none⟩ = some (.int .i64 x71) ∧ w1.cell? ⟨w.heap.size, 2, none⟩ = some (.int .i64 x72) ∧ w1.cell? ⟨w.heap.size, 3, none⟩ = some (.int .i64 x73) ∧ w1.cell? ⟨w.heap.size, 4, none⟩ = some (.int .i64 x74) ∧ w1.cell? ⟨w.heap.size, 5, none⟩ = some (.int .i64 x75)) ∧
 ∀ w2 : World, w2 = w1.alloc (.cells #[(.int .i64 0), (.int .i64 0), (.int .i64 0), (.int .i64 0), (.int .i64 0), (.int .i64 0)] 112 (0, 0)) →
 (Okc w2 ⟨w1.heap.size, 0, none⟩ ∧ Okc w2 ⟨w1.heap.size, 1, none⟩ ∧ Okc w2 ⟨w1.heap.size, 2, none⟩ ∧ Okc w2 ⟨w1.heap.size, 3, none⟩ ∧ Okc w2 ⟨w1.heap.size, 4, none⟩ ∧ Okc w2 ⟨w1.heap.size, 5, none⟩) ∧ ∀ w3 : World, w3 = ((((((w2.setCell ⟨w1.heap.size, 0, none⟩ (.int .i64 x70)).setCell ⟨w1.heap.size, 1, none⟩ (.int .i64 x71)).setCell ⟨w1.heap.size, 2, none⟩ (.int .i64 x72)).setCell ⟨w1.heap.size, 3, none⟩ (.int .i64 x73)).setCell ⟨w1.heap.size, 4, none⟩ (.int .i64 x74)).setCell ⟨w1.heap.size, 5, none⟩ (.int .i64 x75)) →
 ∃ x100 x101 x102 x103 x104 x105 : Int, (w3.cell? ⟨w.heap.size, 0, none⟩ = some (.int .i64 x100) ∧ w3.cell? ⟨w.heap.size, 1, none⟩ = some (.int .i64 x101) ∧ w3.cell? ⟨w.heap.size, 2, none⟩ = some (.int .i64 x102) ∧ w3.cell? ⟨w.heap.size, 3, none⟩ = some (.int .i64 x103) ∧ w3.cell? ⟨w.heap.size, 4, none⟩ = some (.int .i64 x104) ∧ w3.cell? ⟨w.heap.size, 5, none⟩ = some (.int .i64 x105)) ∧
 Calls Tryz.prog 66 #[(.agg #[(.int .i64 x100), (.int .i64 x101), (.int .i64 x102), (.int .i64 x103), (.int .i64 x104), (.int .i64 x105)])] w3 (Ret fun v w4 => ∃ x11 : Bool, v = (.bool x11) ∧
 ((!x11) = true →
 R (.tuple #[(.pointer none), (.int .i64 1)]) w4) ∧
 ((!x11) = false →
 ∃ x160 x161 x162 x163 x164 x165 : Int, (w4.cell? ⟨w1.heap.size, 0, none⟩ = some (.int .i64 x160) ∧ w4.cell? ⟨w1.heap.size, 1, none⟩ = some (.int .i64 x161) ∧ w4.cell? ⟨w1.heap.size, 2, none⟩ = some (.int .i64 x162) ∧ w4.cell? ⟨w1.heap.size, 3, none⟩ = some (.int .i64 x163) ∧ w4.cell? ⟨w1.heap.size, 4, none⟩ = some (.int .i64 x164) ∧ w4.cell? ⟨w1.heap.size, 5, none⟩ = some (.int .i64 x165)) ∧
 Calls Tryz.prog 67 #[(.agg #[(.int .i64 x160), (.int .i64 x161), (.int .i64 x162), (.int .i64 x163), (.int .i64 x164), (.int .i64 x165)])] w4 (Ret fun v_1 w5 => ∃ x17 : Int, v_1 = (.int .i64 x17) ∧
 (((weights.size : Int) != x17) = true →
 R (.tuple #[(.pointer none), (.int .i64 5)]) w5) ∧
 (((weights.size : Int) != x17) = false →
 ∃ x190 x191 x192 x193 x194 x195 : Int, (w5.cell? ⟨w1.heap.size, 0, none⟩ = some (.int .i64 x190) ∧ w5.cell? ⟨w1.heap.size, 1, none⟩ = some (.int .i64 x191) ∧ w5.cell? ⟨w1.heap.size, 2, none⟩ = some (.int .i64 x192) ∧ w5.cell? ⟨w1.heap.size, 3, none⟩ = some (.int .i64 x193) ∧ w5.cell? ⟨w1.heap.size, 4, none⟩ = some (.int .i64 x194) ∧ w5.cell? ⟨w1.heap.size, 5, none⟩ = some (.int .i64 x195)) ∧
 ∀ w6 : World, w6 = w5.alloc (.cells #[(.int .i64 x190), (.int .i64 x191), (.int .i64 x192), (.int .i64 x193), (.int .i64 x194), (.int .i64 x195), (.string weights)] 114 (0, 0)) →
 R (.tuple #[(.pointer (some ⟨w5.heap.size, 0, none⟩)), (.int .i64 0)]) w6))))
theorem brain_Of.calls (c0 : Int) (c1 : Int) (c2 : Int) (c3 : Int) (c4 : Int) (c5 : Int) (weights : ByteArray) {w : World} {R : Value → World → Prop} (h : brain_Of.vc c0 c1 c2 c3 c4 c5 weights w R) : Calls Tryz.prog 34 #[(.agg #[(.int .i64 c0), (.int .i64 c1), (.int .i64 c2), (.int .i64 c3), (.int .i64 c4), (.int .i64 c5)]), (.string weights)] w (Ret R) :=
 calls_V fit Tryz.func34 (.c .nil (.c .nil .nil)) (Eq.mpr (by kernel_rfl) h)
def conf_Shape_Range.vc (s0 : Int) (s1 : Int) (s2 : Int) (s3 : Int) (s4 : Int) (s5 : Int) (part : Int) (block : Int) (w : World) (R : Value → World → Prop) : Prop :=
 ∀ w1 : World, w1 = w.alloc (.cells #[(.int .i64 s0), (.int .i64 s1), (.int .i64 s2), (.int .i64 s3), (.int .i64 s4), (.int .i64 s5)] 112 (0, 0)) →
 ∃ x13 : Int, w1.cell? ⟨w.heap.size, 3, none⟩ = some (.int .i64 x13) ∧
 (decide (part < (2 : Int)) = true →
 ∃ x210 x211 x212 x213 x214 x215 : Int, (w1.cell? ⟨w.heap.size, 0, none⟩ = some (.int .i64 x210) ∧ w1.cell? ⟨w.heap.size, 1, none⟩ = some (.int .i64 x211) ∧ w1.cell? ⟨w.heap.size, 2, none⟩ = some (.int .i64 x212) ∧ w1.cell? ⟨w.heap.size, 3, none⟩ = some (.int .i64 x213) ∧ w1.cell? ⟨w.heap.size, 4, none⟩ = some (.int .i64 x214) ∧ w1.cell? ⟨w.heap.size, 5, none⟩ = some (.int .i64 x215)) ∧
 Calls Tryz.prog 66 #[(.agg #[(.int .i64 x210), (.int .i64 x211), (.int .i64 x212), (.int .i64 x213), (.int .i64 x214), (.int .i64 x215)])] w1 (Ret fun v w2 => ∃ x22 : Bool, v = (.bool x22) ∧
 ((!x22) = true →
 R (.tuple #[(.int .i64 0), (.int .i64 0), (.bool false)]) w2) ∧
 ((!x22) = false →
 (decide (part < (0 : Int)) = true →
 R (.tuple #[(.int .i64 0), (.int .i64 0), (.bool false)]) w2) ∧
 (decide (part < (0 : Int)) = false →
 (decide (part > (11 : Int)) = true →
 R (.tuple #[(.int .i64 0), (.int .i64 0), (.bool false)]) w2) ∧
 (decide (part > (11 : Int)) = false →
 (decide (block < (0 : Int)) = true →
 R (.tuple #[(.int .i64 0), (.int .i64 0), (.bool false)]) w2) ∧
 (decide (block < (0 : Int)) = false →
 (decide (block ≥ (1 : Int)) = true →
 R (.tuple #[(.int .i64 0), (.int .i64 0), (.bool false)]) w2) ∧
 (decide (block ≥ (1 : Int)) = false →
 ∃ x410 x411 x412 x413 x414 x415 : Int, (w2.cell? ⟨w.heap.size, 0, none⟩ = some (.int .i64 x410) ∧ w2.cell? ⟨w.heap.size, 1, none⟩ = some (.int .i64 x411) ∧ w2.cell? ⟨w.heap.size, 2, none⟩ = some (.int .i64 x412) ∧ w2.cell? ⟨w.heap.size, 3, none⟩ = some (.int .i64 x413) ∧ w2.cell? ⟨w.heap.size, 4, none⟩ = some (.int .i64 x414) ∧ w2.cell? ⟨w.heap.size, 5, none⟩ = some (.int .i64 x415)) ∧
 Calls Tryz.prog 143 #[(.agg #[(.int .i64 x410), (.int .i64 x411), (.int .i64 x412), (.int .i64 x413), (.int .i64 x414), (.int .i64 x415)]), (.int .i64 part), (.int .i64 part)] w2 (Ret fun v_1 w3 => ∃ x44 : Int, v_1 = (.int .i64 x44) ∧
 decide (part < (2 : Int)) = true ∧
 ∃ x480 x481 x482 x483 x484 x485 : Int, (w3.cell? ⟨w.heap.size, 0, none⟩ = some (.int .i64 x480) ∧ w3.cell? ⟨w.heap.size, 1, none⟩ = some (.int .i64 x481) ∧ w3.cell? ⟨w.heap.size, 2, none⟩ = some (.int .i64 x482) ∧ w3.cell? ⟨w.heap.size, 3, none⟩ = some (.int .i64 x483) ∧ w3.cell? ⟨w.heap.size, 4, none⟩ = some (.int .i64 x484) ∧ w3.cell? ⟨w.heap.size, 5, none⟩ = some (.int .i64 x485)) ∧
 Calls Tryz.prog 143 #[(.agg #[(.int .i64 x480), (.int .i64 x481), (.int .i64 x482), (.int .i64 x483), (.int .i64 x484), (.int .i64 x485)]), (.int .i64 0), (.int .i64 (IntKind.i64.wrap (part - 1)))] w3 (Ret fun v_2 w4 => ∃ x51 : Int, v_2 = (.int .i64 x51) ∧
 R (.tuple #[(.int .i64 x51), (.int .i64 x44), (.bool true)]) w4))))))))) ∧
 (decide (part < (2 : Int)) = false →
 ((part == (11 : Int)) = true →
 ∃ x210_1 x211_1 x212_1 x213_1 x214_1 x215_1 : Int, (w1.cell? ⟨w.heap.size, 0, none⟩ = some (.int .i64 x210_1) ∧ w1.cell? ⟨w.heap.size, 1, none⟩ = some (.int .i64 x211_1) ∧ w1.cell? ⟨w.heap.size, 2, none⟩ = some (.int .i64 x212_1) ∧ w1.cell? ⟨w.heap.size, 3, none⟩ = some (.int .i64 x213_1) ∧ w1.cell? ⟨w.heap.size, 4, none⟩ = some (.int .i64 x214_1) ∧ w1.cell? ⟨w.heap.size, 5, none⟩ = some (.int .i64 x215_1)) ∧
 Calls Tryz.prog 66 #[(.agg #[(.int .i64 x210_1), (.int .i64 x211_1), (.int .i64 x212_1), (.int .i64 x213_1), (.int .i64 x214_1), (.int .i64 x215_1)])] w1 (Ret fun v_3 w5 => ∃ x22_1 : Bool, v_3 = (.bool x22_1) ∧
 ((!x22_1) = true →
 R (.tuple #[(.int .i64 0), (.int .i64 0), (.bool false)]) w5) ∧
 ((!x22_1) = false →
 (decide (part < (0 : Int)) = true →
 R (.tuple #[(.int .i64 0), (.int .i64 0), (.bool false)]) w5) ∧
 (decide (part < (0 : Int)) = false →
 (decide (part > (11 : Int)) = true →
 R (.tuple #[(.int .i64 0), (.int .i64 0), (.bool false)]) w5) ∧
 (decide (part > (11 : Int)) = false →
 (decide (block < (0 : Int)) = true →
 R (.tuple #[(.int .i64 0), (.int .i64 0), (.bool false)]) w5) ∧
 (decide (block < (0 : Int)) = false →
 (decide (block ≥ (1 : Int)) = true →
 R (.tuple #[(.int .i64 0), (.int .i64 0), (.bool false)]) w5) ∧
 (decide (block ≥ (1 : Int)) = false →
 ∃ x410_1 x411_1 x412_1 x413_1 x414_1 x415_1 : Int, (w5.cell? ⟨w.heap.size, 0, none⟩ = some (.int .i64 x410_1) ∧ w5.cell? ⟨w.heap.size, 1, none⟩ = some (.int .i64 x411_1) ∧ w5.cell? ⟨w.heap.size, 2, none⟩ = some (.int .i64 x412_1) ∧ w5.cell? ⟨w.heap.size, 3, none⟩ = some (.int .i64 x413_1) ∧ w5.cell? ⟨w.heap.size, 4, none⟩ = some (.int .i64 x414_1) ∧ w5.cell? ⟨w.heap.size, 5, none⟩ = some (.int .i64 x415_1)) ∧
 Calls Tryz.prog 143 #[(.agg #[(.int .i64 x410_1), (.int .i64 x411_1), (.int .i64 x412_1), (.int .i64 x413_1), (.int .i64 x414_1), (.int .i64 x415_1)]), (.int .i64 part), (.int .i64 part)] w5 (Ret fun v_4 w6 => ∃ x44_1 : Int, v_4 = (.int .i64 x44_1) ∧
 decide (part < (2 : Int)) = false ∧
 (part == (11 : Int)) = true ∧
 ∃ x560 x561 x562 x563 x564 x565 : Int, (w6.cell? ⟨w.heap.size, 0, none⟩ = some (.int .i64 x560) ∧ w6.cell? ⟨w.heap.size, 1, none⟩ = some (.int .i64 x561) ∧ w6.cell? ⟨w.heap.size, 2, none⟩ = some (.int .i64 x562) ∧ w6.cell? ⟨w.heap.size, 3, none⟩ = some (.int .i64 x563) ∧ w6.cell? ⟨w.heap.size, 4, none⟩ = some (.int .i64 x564) ∧ w6.cell? ⟨w.heap.size, 5, none⟩ = some (.int .i64 x565)) ∧
 Calls Tryz.prog 101 #[(.agg #[(.int .i64 x560), (.int .i64 x561), (.int .i64 x562), (.int .i64 x563), (.int .i64 x564), (.int .i64 x565)])] w6 (Ret fun v_5 w7 => ∃ x57 : Int, v_5 = (.int .i64 x57) ∧
 R (.tuple #[(.int .i64 (IntKind.i64.wrap (x57 - x44_1))), (.int .i64 x44_1), (.bool true)]) w7))))))))) ∧
 ((part == (11 : Int)) = false →
 ∃ x210_2 x211_2 x212_2 x213_2 x214_2 x215_2 : Int, (w1.cell? ⟨w.heap.size, 0, none⟩ = some (.int .i64 x210_2) ∧ w1.cell? ⟨w.heap.size, 1, none⟩ = some (.int .i64 x211_2) ∧ w1.cell? ⟨w.heap.size, 2, none⟩ = some (.int .i64 x212_2) ∧ w1.cell? ⟨w.heap.size, 3, none⟩ = some (.int .i64 x213_2) ∧ w1.cell? ⟨w.heap.size, 4, none⟩ = some (.int .i64 x214_2) ∧ w1.cell? ⟨w.heap.size, 5, none⟩ = some (.int .i64 x215_2)) ∧
 Calls Tryz.prog 66 #[(.agg #[(.int .i64 x210_2), (.int .i64 x211_2), (.int .i64 x212_2), (.int .i64 x213_2), (.int .i64 x214_2), (.int .i64 x215_2)])] w1 (Ret fun v_6 w8 => ∃ x22_2 : Bool, v_6 = (.bool x22_2) ∧
 ((!x22_2) = true →
 R (.tuple #[(.int .i64 0), (.int .i64 0), (.bool false)]) w8) ∧
 ((!x22_2) = false →
 (decide (part < (0 : Int)) = true →
 R (.tuple #[(.int .i64 0), (.int .i64 0), (.bool false)]) w8) ∧
 (decide (part < (0 : Int)) = false →
 (decide (part > (11 : Int)) = true →
 R (.tuple #[(.int .i64 0), (.int .i64 0), (.bool false)]) w8) ∧
 (decide (part > (11 : Int)) = false →
 (decide (block < (0 : Int)) = true →
 R (.tuple #[(.int .i64 0), (.int .i64 0), (.bool false)]) w8) ∧
 (decide (block < (0 : Int)) = false →
 (decide (block ≥ x13) = true →
 R (.tuple #[(.int .i64 0), (.int .i64 0), (.bool false)]) w8) ∧
 (decide (block ≥ x13) = false →
 ∃ x410_2 x411_2 x412_2 x413_2 x414_2 x415_2 : Int, (w8.cell? ⟨w.heap.size, 0, none⟩ = some (.int .i64 x410_2) ∧ w8.cell? ⟨w.heap.size, 1, none⟩ = some (.int .i64 x411_2) ∧ w8.cell? ⟨w.heap.size, 2, none⟩ = some (.int .i64 x412_2) ∧ w8.cell? ⟨w.heap.size, 3, none⟩ = some (.int .i64 x413_2) ∧ w8.cell? ⟨w.heap.size, 4, none⟩ = some (.int .i64 x414_2) ∧ w8.cell? ⟨w.heap.size, 5, none⟩ = some (.int .i64 x415_2)) ∧
 Calls Tryz.prog 143 #[(.agg #[(.int .i64 x410_2), (.int .i64 x411_2), (.int .i64 x412_2), (.int .i64 x413_2), (.int .i64 x414_2), (.int .i64 x415_2)]), (.int .i64 part), (.int .i64 part)] w8 (Ret fun v_7 w9 => ∃ x44_2 : Int, v_7 = (.int .i64 x44_2) ∧
 decide (part < (2 : Int)) = false ∧
 (part == (11 : Int)) = false ∧
 ∃ vS : World → Prop, ∀ w10 : World, w10 = w9.drew → vS w10 ∧
 ∃ x610 x611 x612 x613 x614 x615 : Int, ((∀ w11, vS w11 → w11.cell? ⟨w.heap.size, 0, none⟩ = some (.int .i64 x610)) ∧ (∀ w11, vS w11 → w11.cell? ⟨w.heap.size, 1, none⟩ = some (.int .i64 x611)) ∧ (∀ w11, vS w11 → w11.cell? ⟨w.heap.size, 2, none⟩ = some (.int .i64 x612)) ∧ (∀ w11, vS w11 → w11.cell? ⟨w.heap.size, 3, none⟩ = some (.int .i64 x613)) ∧ (∀ w11, vS w11 → w11.cell? ⟨w.heap.size, 4, none⟩ = some (.int .i64 x614)) ∧ (∀ w11, vS w11 → w11.cell? ⟨w.heap.size, 5, none⟩ = some (.int .i64 x615))) ∧
 ∃ x640 x641 x642 x643 x644 x645 : Int, ((∀ w12, vS w12 → w12.cell? ⟨w.heap.size, 0, none⟩ = some (.int .i64 x640)) ∧ (∀ w12, vS w12 → w12.cell? ⟨w.heap.size, 1, none⟩ = some (.int .i64 x641)) ∧ (∀ w12, vS w12 → w12.cell? ⟨w.heap.size, 2, none⟩ = some (.int .i64 x642)) ∧ (∀ w12, vS w12 → w12.cell? ⟨w.heap.size, 3, none⟩ = some (.int .i64 x643)) ∧ (∀ w12, vS w12 → w12.cell? ⟨w.heap.size, 4, none⟩ = some (.int .i64 x644)) ∧ (∀ w12, vS w12 → w12.cell? ⟨w.heap.size, 5, none⟩ = some (.int .i64 x645))) ∧
 ∃ x680 x681 x682 x683 x684 x685 : Int, ((∀ w13, vS w13 → w13.cell? ⟨w.heap.size, 0, none⟩ = some (.int .i64 x680)) ∧ (∀ w13, vS w13 → w13.cell? ⟨w.heap.size, 1, none⟩ = some (.int .i64 x681)) ∧ (∀ w13, vS w13 → w13.cell? ⟨w.heap.size, 2, none⟩ = some (.int .i64 x682)) ∧ (∀ w13, vS w13 → w13.cell? ⟨w.heap.size, 3, none⟩ = some (.int .i64 x683)) ∧ (∀ w13, vS w13 → w13.cell? ⟨w.heap.size, 4, none⟩ = some (.int .i64 x684)) ∧ (∀ w13, vS w13 → w13.cell? ⟨w.heap.size, 5, none⟩ = some (.int .i64 x685))) ∧
 Calls Tryz.prog 143 #[(.agg #[(.int .i64 x610), (.int .i64 x611), (.int .i64 x612), (.int .i64 x613), (.int .i64 x614), (.int .i64 x615)]), (.int .i64 0), (.int .i64 1)] w10 (Ret fun v_8 w14 => ∃ x62 : Int, v_8 = (.int .i64 x62) ∧
 vS w14 ∧
 Calls Tryz.prog 143 #[(.agg #[(.int .i64 x640), (.int .i64 x641), (.int .i64 x642), (.int .i64 x643), (.int .i64 x644), (.int .i64 x645)]), (.int .i64 2), (.int .i64 10)] w14 (Ret fun v_9 w15 => ∃ x65 : Int, v_9 = (.int .i64 x65) ∧
 vS w15 ∧
 Calls Tryz.prog 143 #[(.agg #[(.int .i64 x680), (.int .i64 x681), (.int .i64 x682), (.int .i64 x683), (.int .i64 x684), (.int .i64 x685)]), (.int .i64 2), (.int .i64 (IntKind.i64.wrap (part - 1)))] w15 (Ret fun v_10 w16 => ∃ x71 : Int, v_10 = (.int .i64 x71) ∧
 vS w16 ∧
 R (.tuple #[(.int .i64 (IntKind.i64.wrap ((IntKind.i64.wrap (x62 + (IntKind.i64.wrap (block * x65)))) + x71))), (.int .i64 x44_2), (.bool true)]) w16))))))))))))
theorem conf_Shape_Range.calls (s0 : Int) (s1 : Int) (s2 : Int) (s3 : Int) (s4 : Int) (s5 : Int) (part : Int) (block : Int) {w : World} {R : Value → World → Prop} (h : conf_Shape_Range.vc s0 s1 s2 s3 s4 s5 part block w R) : Calls Tryz.prog 179 #[(.agg #[(.int .i64 s0), (.int .i64 s1), (.int .i64 s2), (.int .i64 s3), (.int .i64 s4), (.int .i64 s5)]), (.int .i64 part), (.int .i64 block)] w (Ret R) :=
 calls_V fit Tryz.func179 (.at_ 2 2 (.k (.at_ 4 4 (.k .nil) (.at_ 4 8 (.k .nil) (.at_ 4 12 (.k .nil) (.at_ 4 16 (.k .nil) (.c .nil (.y .nil))))))) (.c (.at_ 4 4 (.k .nil) (.at_ 4 8 (.k .nil) (.at_ 4 12 (.k .nil) (.at_ 4 16 (.k .nil) (.c .nil (.n (.y .nil))))))) (.at_ 4 4 (.k .nil) (.at_ 4 8 (.k .nil) (.at_ 4 12 (.k .nil) (.at_ 4 16 (.k .nil) (.c .nil (.n (.n (.tk 0 (.tk 2 (.tk 3 (.tk 7 (.tk 8 (.tk 9 (.tk 12 (.alt 1 (.alt 4 (.tk 5 (.tk 6 (.alt 10 (.tk 11 (.tk 13 (.tk 14 (.tk 15 (.fin .nil))))) .nil))) .nil) .nil))))))))))))))))) (Eq.mpr (by kernel_rfl) h)
def conf_Shape_Side.vc (s0 : Int) (s1 : Int) (s2 : Int) (s3 : Int) (s4 : Int) (s5 : Int) (part : Int) (w : World) (R : Value → World → Prop) : Prop :=
 ∀ w1 : World, w1 = w.alloc (.cells #[(.int .i64 s0), (.int .i64 s1), (.int .i64 s2), (.int .i64 s3), (.int .i64 s4), (.int .i64 s5)] 112 (0, 0)) →
 ∃ x70 x71 x72 x73 x74 x75 : Int, (w1.cell? ⟨w.heap.size, 0, none⟩ = some (.int .i64 x70) ∧ w1.cell? ⟨w.heap.size, 1, none⟩ = some (.int .i64 x71) ∧ w1.cell? ⟨w.heap.size, 2, none⟩ = some (.int .i64 x72) ∧ w1.cell? ⟨w.heap.size, 3, none⟩ = some (.int .i64 x73) ∧ w1.cell? ⟨w.heap.size, 4, none⟩ = some (.int .i64 x74) ∧ w1.cell? ⟨w.heap.size, 5, none⟩ = some (.int .i64 x75)) ∧
 Calls Tryz.prog 66 #[(.agg #[(.int .i64 x70), (.int .i64 x71), (.int .i64 x72), (.int .i64 x73), (.int .i64 x74), (.int .i64 x75)])] w1 (Ret fun v w2 => ∃ x8 : Bool, v = (.bool x8) ∧
 ((!x8) = true →
 R (.tuple #[(.int .i64 0), (.int .i64 0)]) w2) ∧
 ((!x8) = false →
 ∃ x100 x101 x102 x103 x104 x105 : Int, (w2.cell? ⟨w.heap.size, 0, none⟩ = some (.int .i64 x100) ∧ w2.cell? ⟨w.heap.size, 1, none⟩ = some (.int .i64 x101) ∧ w2.cell? ⟨w.heap.size, 2, none⟩ = some (.int .i64 x102) ∧ w2.cell? ⟨w.heap.size, 3, none⟩ = some (.int .i64 x103) ∧ w2.cell? ⟨w.heap.size, 4, none⟩ = some (.int .i64 x104) ∧ w2.cell? ⟨w.heap.size, 5, none⟩ = some (.int .i64 x105)) ∧
 Calls Tryz.prog 176 #[(.agg #[(.int .i64 x100), (.int .i64 x101), (.int .i64 x102), (.int .i64 x103), (.int .i64 x104), (.int .i64 x105)]), (.int .i64 part)] w2 (Ret fun v_1 w3 => ∃ x12_0 x12_1 : Int, v_1 = (.tuple #[(.int .i64 x12_0), (.int .i64 x12_1)]) ∧
 R (.tuple #[(.int .i64 x12_0), (.int .i64 x12_1)]) w3)))
theorem conf_Shape_Side.calls (s0 : Int) (s1 : Int) (s2 : Int) (s3 : Int) (s4 : Int) (s5 : Int) (part : Int) {w : World} {R : Value → World → Prop} (h : conf_Shape_Side.vc s0 s1 s2 s3 s4 s5 part w R) : Calls Tryz.prog 180 #[(.agg #[(.int .i64 s0), (.int .i64 s1), (.int .i64 s2), (.int .i64 s3), (.int .i64 s4), (.int .i64 s5)]), (.int .i64 part)] w (Ret R) :=
 calls_V fit Tryz.func180 (.c .nil .nil) (Eq.mpr (by kernel_rfl) h)
def conf_Shape_HeadDim.vc (s0 : Int) (s1 : Int) (s2 : Int) (s3 : Int) (s4 : Int) (s5 : Int) (w : World) (R : Value → World → Prop) : Prop :=
 ∀ w1 : World, w1 = w.alloc (.cells #[(.int .i64 s0), (.int .i64 s1), (.int .i64 s2), (.int .i64 s3), (.int .i64 s4), (.int .i64 s5)] 112 (0, 0)) →
 ∃ x40 x41 x42 x43 x44 x45 : Int, (w1.cell? ⟨w.heap.size, 0, none⟩ = some (.int .i64 x40) ∧ w1.cell? ⟨w.heap.size, 1, none⟩ = some (.int .i64 x41) ∧ w1.cell? ⟨w.heap.size, 2, none⟩ = some (.int .i64 x42) ∧ w1.cell? ⟨w.heap.size, 3, none⟩ = some (.int .i64 x43) ∧ w1.cell? ⟨w.heap.size, 4, none⟩ = some (.int .i64 x44) ∧ w1.cell? ⟨w.heap.size, 5, none⟩ = some (.int .i64 x45)) ∧
 Calls Tryz.prog 66 #[(.agg #[(.int .i64 x40), (.int .i64 x41), (.int .i64 x42), (.int .i64 x43), (.int .i64 x44), (.int .i64 x45)])] w1 (Ret fun v w2 => ∃ x5 : Bool, v = (.bool x5) ∧
 ((!x5) = true →
 R (.int .i64 0) w2) ∧
 ((!x5) = false →
 ∃ x9 : Int, w2.cell? ⟨w.heap.size, 1, none⟩ = some (.int .i64 x9) ∧
 ∃ x12 : Int, w2.cell? ⟨w.heap.size, 2, none⟩ = some (.int .i64 x12) ∧
 x12 ≠ 0 ∧
 R (.int .i64 (IntKind.i64.wrap (Int.tdiv x9 x12))) w2))
theorem conf_Shape_HeadDim.calls (s0 : Int) (s1 : Int) (s2 : Int) (s3 : Int) (s4 : Int) (s5 : Int) {w : World} {R : Value → World → Prop} (h : conf_Shape_HeadDim.vc s0 s1 s2 s3 s4 s5 w R) : Calls Tryz.prog 157 #[(.agg #[(.int .i64 s0), (.int .i64 s1), (.int .i64 s2), (.int .i64 s3), (.int .i64 s4), (.int .i64 s5)])] w (Ret R) :=
 calls_V fit Tryz.func157 (.c .nil .nil) (Eq.mpr (by kernel_rfl) h)
def brain_Brain_Table.vc (bB : Nat) (part : Int) (block : Int) (w : World) (R : Value → World → Prop) : Prop :=
 ∀ w1 : World, w1 = w.alloc (.cells #[(.int .i64 0), (.int .i64 0), (.slice none 0 0)] 213 (0, 0)) →
 ∃ x220 x221 x222 x223 x224 x225 : Int, (w1.cell? ⟨bB, 0, none⟩ = some (.int .i64 x220) ∧ w1.cell? ⟨bB, 1, none⟩ = some (.int .i64 x221) ∧ w1.cell? ⟨bB, 2, none⟩ = some (.int .i64 x222) ∧ w1.cell? ⟨bB, 3, none⟩ = some (.int .i64 x223) ∧ w1.cell? ⟨bB, 4, none⟩ = some (.int .i64 x224) ∧ w1.cell? ⟨bB, 5, none⟩ = some (.int .i64 x225)) ∧
 Calls Tryz.prog 179 #[(.agg #[(.int .i64 x220), (.int .i64 x221), (.int .i64 x222), (.int .i64 x223), (.int .i64 x224), (.int .i64 x225)]), (.int .i64 part), (.int .i64 block)] w1 (Ret fun v w2 => ∃ (x25_0 x25_1 : Int) (x25_2 : Bool), v = (.tuple #[(.int .i64 x25_0), (.int .i64 x25_1), (.bool x25_2)]) ∧
 ((!x25_2) = true →
 (Okc w2 ⟨w.heap.size, 0, none⟩ ∧ Okc w2 ⟨w.heap.size, 1, none⟩ ∧ Okc w2 ⟨w.heap.size, 2, none⟩) ∧ ∀ w3 : World, w3 = (((w2.setCell ⟨w.heap.size, 0, none⟩ (.int .i64 0)).setCell ⟨w.heap.size, 1, none⟩ (.int .i64 0)).setCell ⟨w.heap.size, 2, none⟩ (.slice none 0 0)) →
 ∃ (r00 r01 : Int) (r02A : Option Addr) (r02N r02C : Nat), (w3.cell? ⟨w.heap.size, 0, none⟩ = some (.int .i64 r00) ∧ w3.cell? ⟨w.heap.size, 1, none⟩ = some (.int .i64 r01) ∧ w3.cell? ⟨w.heap.size, 2, none⟩ = some (.slice r02A r02N r02C)) ∧
 R (.tuple #[(.agg #[(.int .i64 r00), (.int .i64 r01), (.slice r02A r02N r02C)]), (.bool false)]) w3) ∧
 ((!x25_2) = false →
 ∃ x360 x361 x362 x363 x364 x365 : Int, (w2.cell? ⟨bB, 0, none⟩ = some (.int .i64 x360) ∧ w2.cell? ⟨bB, 1, none⟩ = some (.int .i64 x361) ∧ w2.cell? ⟨bB, 2, none⟩ = some (.int .i64 x362) ∧ w2.cell? ⟨bB, 3, none⟩ = some (.int .i64 x363) ∧ w2.cell? ⟨bB, 4, none⟩ = some (.int .i64 x364) ∧ w2.cell? ⟨bB, 5, none⟩ = some (.int .i64 x365)) ∧
 Calls Tryz.prog 180 #[(.agg #[(.int .i64 x360), (.int .i64 x361), (.int .i64 x362), (.int .i64 x363), (.int .i64 x364), (.int .i64 x365)]), (.int .i64 part)] w2 (Ret fun v_1 w4 => ∃ x38_0 x38_1 : Int, v_1 = (.tuple #[(.int .i64 x38_0), (.int .i64 x38_1)]) ∧
 ∃ x47 : ByteArray, w4.cell? ⟨bB, 6, none⟩ = some (.string x47) ∧
 (0 ≤ x25_0 ∧ x25_0 ≤ (IntKind.i64.wrap (x25_0 + x25_1)) ∧ (IntKind.i64.wrap (x25_0 + x25_1)) ≤ (x47.size : Int)) ∧
 Calls Tryz.prog 181 #[(.int .i64 x38_0), (.int .i64 x38_1), (.string (x47.extract x25_0.toNat (IntKind.i64.wrap (x25_0 + x25_1)).toNat))] w4 (Ret fun v_2 w5 => ∃ (x53_00 x53_01 : Int) (x53_02A : Option Addr) (x53_02N x53_02C : Nat) (x53_1 : Int), v_2 = (.tuple #[(.agg #[(.int .i64 x53_00), (.int .i64 x53_01), (.slice x53_02A x53_02N x53_02C)]), (.int .i64 x53_1)]) ∧
 ∀ w6 : World, w6 = w5.alloc (.cells #[(.int .i64 0), (.int .i64 0), (.slice none 0 0)] 213 (0, 0)) →
 (Okc w6 ⟨w5.heap.size, 0, none⟩ ∧ Okc w6 ⟨w5.heap.size, 1, none⟩ ∧ Okc w6 ⟨w5.heap.size, 2, none⟩) ∧ ∀ w7 : World, w7 = (((w6.setCell ⟨w5.heap.size, 0, none⟩ (.int .i64 x53_00)).setCell ⟨w5.heap.size, 1, none⟩ (.int .i64 x53_01)).setCell ⟨w5.heap.size, 2, none⟩ (.slice x53_02A x53_02N x53_02C)) →
 ∃ (x560 x561 : Int) (x562A : Option Addr) (x562N x562C : Nat), (w7.cell? ⟨w5.heap.size, 0, none⟩ = some (.int .i64 x560) ∧ w7.cell? ⟨w5.heap.size, 1, none⟩ = some (.int .i64 x561) ∧ w7.cell? ⟨w5.heap.size, 2, none⟩ = some (.slice x562A x562N x562C)) ∧
 (Okc w7 ⟨w.heap.size, 0, none⟩ ∧ Okc w7 ⟨w.heap.size, 1, none⟩ ∧ Okc w7 ⟨w.heap.size, 2, none⟩) ∧ ∀ w8 : World, w8 = (((w7.setCell ⟨w.heap.size, 0, none⟩ (.int .i64 x560)).setCell ⟨w.heap.size, 1, none⟩ (.int .i64 x561)).setCell ⟨w.heap.size, 2, none⟩ (.slice x562A x562N x562C)) →
 ∃ (r00_1 r01_1 : Int) (r02A_1 : Option Addr) (r02N_1 r02C_1 : Nat), (w8.cell? ⟨w.heap.size, 0, none⟩ = some (.int .i64 r00_1) ∧ w8.cell? ⟨w.heap.size, 1, none⟩ = some (.int .i64 r01_1) ∧ w8.cell? ⟨w.heap.size, 2, none⟩ = some (.slice r02A_1 r02N_1 r02C_1)) ∧
 R (.tuple #[(.agg #[(.int .i64 r00_1), (.int .i64 r01_1), (.slice r02A_1 r02N_1 r02C_1)]), (.bool (x53_1 == (0 : Int)))]) w8))))
theorem brain_Brain_Table.calls (bB : Nat) (part : Int) (block : Int) {w : World} {R : Value → World → Prop} (h : brain_Brain_Table.vc bB part block w R) : Calls Tryz.prog 151 #[(.pointer (some (⟨bB, 0, none⟩ : Addr))), (.int .i64 part), (.int .i64 block)] w (Ret R) :=
 calls_V fit Tryz.func151 (.k (.c .nil .nil)) (Eq.mpr (by kernel_rfl) h)
def brain_Brain_Row.vc (bB : Nat) (part : Int) (block : Int) (vat : Int) (w : World) (R : Value → World → Prop) : Prop :=
 Calls Tryz.prog 151 #[(.pointer (some ⟨bB, 0, none⟩)), (.int .i64 part), (.int .i64 block)] w (Ret fun v w1 => ∃ (x15_00 x15_01 : Int) (x15_02A : Option Addr) (x15_02N x15_02C : Nat) (x15_1 : Bool), v = (.tuple #[(.agg #[(.int .i64 x15_00), (.int .i64 x15_01), (.slice x15_02A x15_02N x15_02C)]), (.bool x15_1)]) ∧
 ∀ w2 : World, w2 = w1.alloc (.cells #[(.int .i64 0), (.int .i64 0), (.slice none 0 0)] 213 (0, 0)) →
 (Okc w2 ⟨w1.heap.size, 0, none⟩ ∧ Okc w2 ⟨w1.heap.size, 1, none⟩ ∧ Okc w2 ⟨w1.heap.size, 2, none⟩) ∧ ∀ w3 : World, w3 = (((w2.setCell ⟨w1.heap.size, 0, none⟩ (.int .i64 x15_00)).setCell ⟨w1.heap.size, 1, none⟩ (.int .i64 x15_01)).setCell ⟨w1.heap.size, 2, none⟩ (.slice x15_02A x15_02N x15_02C)) →
 ((!x15_1) = true →
 R (.slice none 0 0) w3) ∧
 ((!x15_1) = false →
 ∃ (x200 x201 : Int) (x202A : Option Addr) (x202N x202C : Nat), (w3.cell? ⟨w1.heap.size, 0, none⟩ = some (.int .i64 x200) ∧ w3.cell? ⟨w1.heap.size, 1, none⟩ = some (.int .i64 x201) ∧ w3.cell? ⟨w1.heap.size, 2, none⟩ = some (.slice x202A x202N x202C)) ∧
 Calls Tryz.prog 152 #[(.agg #[(.int .i64 x200), (.int .i64 x201), (.slice x202A x202N x202C)]), (.int .i64 vat)] w3 (Ret fun v_1 w4 => ∃ (x22A : Option Addr) (x22N x22C : Nat), v_1 = (.slice x22A x22N x22C) ∧
 R (.slice x22A x22N x22C) w4)))
theorem brain_Brain_Row.calls (bB : Nat) (part : Int) (block : Int) (vat : Int) {w : World} {R : Value → World → Prop} (h : brain_Brain_Row.vc bB part block vat w R) : Calls Tryz.prog 114 #[(.pointer (some (⟨bB, 0, none⟩ : Addr))), (.int .i64 part), (.int .i64 block), (.int .i64 vat)] w (Ret R) :=
 calls_V fit Tryz.func114 (.c .nil .nil) (Eq.mpr (by kernel_rfl) h)
end Go.Proofs.YtkbikekbaboclaaGreat.Vc
set_option linter.unusedVariables false
set_option maxRecDepth 100000
namespace Go.Proofs.YtkbikekbaboclaaGreat.Vc
open Go Go.Proofs V
def coadjutorlaw25_ints.vc (aA : Option Addr) (aN : Nat) (aC : Nat) (bA : Option Addr) (bN : Nat) (bC : Nat) (w : World) (R : Value → World → Prop) : Prop :=
 (((aN : Int) != (bN : Int)) = true →
 R (.bool false) w) ∧
 (((aN : Int) != (bN : Int)) = false →
 ∃ vI : Int → Nat → World → Prop, (∃ vk_2 : Nat, vI 0 vk_2 w) ∧
 ∀ (jk : Nat → Value) (i : Int), ∀ (vk : Nat) (w1 : World), vI i vk w1 →
 (decide (i < (aN : Int)) = true →
 ∃ vS : World → Prop, ∀ w2 : World, w2 = w1.drew → vS w2 ∧
 (0 ≤ i ∧ i < (aN : Int)) ∧ someV aA fun p =>
 ∃ x20 : Int, (∀ w3, vS w3 → w3.cell? (p.add (i.toNat * 1)) = some (.int .i64 x20)) ∧
 (0 ≤ i ∧ i < (bN : Int)) ∧ someV bA fun p_1 =>
 ∃ x24 : Int, (∀ w4, vS w4 → w4.cell? (p_1.add (i.toNat * 1)) = some (.int .i64 x24)) ∧
 ((x20 != x24) = true →
 R (.bool false) w2) ∧
 ((x20 != x24) = false →
 ∃ vk_1 : Nat, vk_1 < vk ∧ vI (IntKind.i64.wrap (i + 1)) vk_1 w2)) ∧
 (decide (i < (aN : Int)) = false →
 R (.bool true) w1))
theorem coadjutorlaw25_ints.calls (aA : Option Addr) (aN : Nat) (aC : Nat) (bA : Option Addr) (bN : Nat) (bC : Nat) {w : World} {R : Value → World → Prop} (h : coadjutorlaw25_ints.vc aA aN aC bA bN bC w R) : Calls Tryz.prog 19 #[(.slice aA aN aC), (.slice bA bN bC)] w (Ret R) :=
 calls_V fit Tryz.func19 (.c .nil (.lp ([(4, none), (5, some (.int .i64))] ++ nn 11 15) (.c (.tk 0 (.tk 1 (.tk 2 (.tk 3 (.tk 4 (.tk 5 (.tk 6 (.tk 7 (.tk 8 (.fin (.c .nil .nil))))))))))) .nil))) (Eq.mpr (by kernel_rfl) h)
end Go.Proofs.YtkbikekbaboclaaGreat.Vc
set_option linter.unusedVariables false
set_option maxRecDepth 100000
namespace Go.Proofs.YtkbikekbaboclaaGreat.Vc
open Go Go.Proofs V
def slices_Clone.vc (sA : Option Addr) (sN : Nat) (sC : Nat) (w : World) (R : Value → World → Prop) : Prop :=
 (sA.isNone = true →
 R (.slice none 0 0) w) ∧
 (sA.isNone = false →
 ∀ w1 : World, w1 = w.alloc (.cells #[] 3 (0, 0)) →
 ∃ (x7A : Option Addr) (x7N x7C : Nat), ∃ w2 : World, (Builtin.append_ #[35, 35] 35 #[(.slice (some ⟨w.heap.size, 0, none⟩) 0 0), (.slice sA sN sC)]).run Tryz.prog w1 = .ok (.slice x7A x7N x7C) w2 ∧
 R (.slice x7A x7N x7C) w2)
theorem slices_Clone.calls (sA : Option Addr) (sN : Nat) (sC : Nat) {w : World} {R : Value → World → Prop} (h : slices_Clone.vc sA sN sC w R) : Calls Tryz.prog 51 #[(.slice sA sN sC)] w (Ret R) :=
 calls_V fit Tryz.func51 (.c .nil .nil) (Eq.mpr (by kernel_rfl) h)
def step_copied.vc (listA : Option Addr) (listN : Nat) (listC : Nat) (w : World) (R : Value → World → Prop) : Prop :=
 ∃ vI : Option Addr → Nat → Nat → Int → Nat → World → Prop, (∃ vk_2 : Nat, vI none 0 0 0 vk_2 w) ∧
 ∀ (jk : Nat → Value) (outA : Option Addr) (outN : Nat) (outC : Nat) (x7 : Int), ∀ (vk : Nat) (w1 : World), vI outA outN outC x7 vk w1 →
 (decide (x7 < (listN : Int)) = true →
 (0 ≤ x7 ∧ x7 < (listN : Int)) ∧ someV listA fun p =>
 ∃ (x10A : Option Addr) (x10N x10C : Nat), w1.cell? (p.add (x7.toNat * 1)) = some (.slice x10A x10N x10C) ∧
 Calls Tryz.prog 51 #[(.slice x10A x10N x10C)] w1 (Ret fun v w2 => ∃ (x13A : Option Addr) (x13N x13C : Nat), v = (.slice x13A x13N x13C) ∧
 ∀ w3 : World, w3 = w2.alloc (.cells #[(.slice x13A x13N x13C)] 35 (0, 0)) →
 ∃ (x15A : Option Addr) (x15N x15C : Nat), ∃ w4 : World, (Builtin.append_ #[120, 120] 120 #[(.slice outA outN outC), (.slice (some ⟨w2.heap.size, 0, none⟩) 1 1)]).run Tryz.prog w3 = .ok (.slice x15A x15N x15C) w4 ∧
 ∃ vk_1 : Nat, vk_1 < vk ∧ vI x15A x15N x15C (IntKind.i64.wrap (x7 + 1)) vk_1 w4)) ∧
 (decide (x7 < (listN : Int)) = false →
 R (.slice outA outN outC) w1)
theorem step_copied.calls (listA : Option Addr) (listN : Nat) (listC : Nat) {w : World} {R : Value → World → Prop} (h : step_copied.vc listA listN listC w R) : Calls Tryz.prog 162 #[(.slice listA listN listC)] w (Ret R) :=
 calls_V fit Tryz.func162 (.lp ([(2, some (.slice)), (4, none), (7, some (.int .i64))] ++ nn 8 9) (.c .nil .nil)) (Eq.mpr (by kernel_rfl) h)
def step_Copy.vc (e0A : Option Addr) (e0N : Nat) (e0C : Nat) (e1A : Option Addr) (e1N : Nat) (e1C : Nat) (w : World) (R : Value → World → Prop) : Prop :=
 ∀ w1 : World, w1 = w.alloc (.cells #[(.slice e0A e0N e0C), (.slice e1A e1N e1C)] 157 (0, 0)) →
 ∀ w2 : World, w2 = w1.alloc (.cells #[(.slice none 0 0), (.slice none 0 0)] 157 (0, 0)) →
 ∃ vS : World → Prop, ∀ w3 : World, w3 = w2.drew → vS w3 ∧
 ∃ (x4A : Option Addr) (x4N x4C : Nat), (∀ w4, vS w4 → w4.cell? ⟨w.heap.size, 0, none⟩ = some (.slice x4A x4N x4C)) ∧
 ∃ (x7A : Option Addr) (x7N x7C : Nat), (∀ w5, vS w5 → w5.cell? ⟨w.heap.size, 1, none⟩ = some (.slice x7A x7N x7C)) ∧
 Calls Tryz.prog 162 #[(.slice x4A x4N x4C)] w3 (Ret fun v w6 => ∃ (x5A : Option Addr) (x5N x5C : Nat), v = (.slice x5A x5N x5C) ∧
 vS w6 ∧
 Calls Tryz.prog 162 #[(.slice x7A x7N x7C)] w6 (Ret fun v_1 w7 => ∃ (x8A : Option Addr) (x8N x8C : Nat), v_1 = (.slice x8A x8N x8C) ∧
 vS w7 ∧
 (Okc w7 ⟨w1.heap.size, 0, none⟩ ∧ Okc w7 ⟨w1.heap.size, 1, none⟩) ∧ ∀ w8 : World, w8 = ((w7.setCell ⟨w1.heap.size, 0, none⟩ (.slice x5A x5N x5C)).setCell ⟨w1.heap.size, 1, none⟩ (.slice x8A x8N x8C)) →
 vS w8 ∧
 ∃ (r00A : Option Addr) (r00N r00C : Nat) (r01A : Option Addr) (r01N r01C : Nat), (w8.cell? ⟨w1.heap.size, 0, none⟩ = some (.slice r00A r00N r00C) ∧ w8.cell? ⟨w1.heap.size, 1, none⟩ = some (.slice r01A r01N r01C)) ∧
 R (.agg #[(.slice r00A r00N r00C), (.slice r01A r01N r01C)]) w8))
theorem step_Copy.calls (e0A : Option Addr) (e0N : Nat) (e0C : Nat) (e1A : Option Addr) (e1N : Nat) (e1C : Nat) {w : World} {R : Value → World → Prop} (h : step_Copy.vc e0A e0N e0C e1A e1N e1C w R) : Calls Tryz.prog 119 #[(.agg #[(.slice e0A e0N e0C), (.slice e1A e1N e1C)])] w (Ret R) :=
 calls_V fit Tryz.func119 (.tk 0 (.tk 1 (.tk 3 (.tk 4 (.alt 2 (.alt 5 (.tk 6 (.alt 7 (.fin .nil) .nil)) .nil) .nil))))) (Eq.mpr (by kernel_rfl) h)
def slices_Equal.vc (s1A : Option Addr) (s1N : Nat) (s1C : Nat) (s2A : Option Addr) (s2N : Nat) (s2C : Nat) (w : World) (R : Value → World → Prop) : Prop :=
 (((s1N : Int) != (s2N : Int)) = true →
 R (.bool false) w) ∧
 (((s1N : Int) != (s2N : Int)) = false →
 ∃ vI : Int → Nat → World → Prop, (∃ vk_2 : Nat, vI 0 vk_2 w) ∧
 ∀ (jk : Nat → Value) (x13 : Int), ∀ (vk : Nat) (w1 : World), vI x13 vk w1 →
 (decide (x13 < (s1N : Int)) = true →
 ∃ vS : World → Prop, ∀ w2 : World, w2 = w1.drew → vS w2 ∧
 (0 ≤ x13 ∧ x13 < (s1N : Int)) ∧ someV s1A fun p =>
 ∃ x19 : Int, (∀ w3, vS w3 → w3.cell? (p.add (x13.toNat * 1)) = some (.int .i64 x19)) ∧
 (0 ≤ x13 ∧ x13 < (s2N : Int)) ∧ someV s2A fun p_1 =>
 ∃ x23 : Int, (∀ w4, vS w4 → w4.cell? (p_1.add (x13.toNat * 1)) = some (.int .i64 x23)) ∧
 ((x19 != x23) = true →
 R (.bool false) w2) ∧
 ((x19 != x23) = false →
 ∃ vk_1 : Nat, vk_1 < vk ∧ vI (IntKind.i64.wrap (x13 + 1)) vk_1 w2)) ∧
 (decide (x13 < (s1N : Int)) = false →
 R (.bool true) w1))
theorem slices_Equal.calls (s1A : Option Addr) (s1N : Nat) (s1C : Nat) (s2A : Option Addr) (s2N : Nat) (s2C : Nat) {w : World} {R : Value → World → Prop} (h : slices_Equal.vc s1A s1N s1C s2A s2N s2C w R) : Calls Tryz.prog 105 #[(.slice s1A s1N s1C), (.slice s2A s2N s2C)] w (Ret R) :=
 calls_V fit Tryz.func105 (.c .nil (.lp ([(4, none), (5, none), (13, some (.int .i64))] ++ nn 14 12) (.c (.tk 0 (.tk 1 (.tk 2 (.tk 3 (.tk 4 (.tk 5 (.tk 6 (.tk 7 (.tk 8 (.fin (.c .nil .nil))))))))))) .nil))) (Eq.mpr (by kernel_rfl) h)
end Go.Proofs.YtkbikekbaboclaaGreat.Vc
set_option linter.unusedVariables false
set_option maxRecDepth 100000
namespace Go.Proofs.YtkbikekbaboclaaGreat.Vc
open Go Go.Proofs V
def step_Run_c1.vc (n : Int) (c0B : Nat) (w : World) (R : Value → World → Prop) : Prop :=
 ∃ x4 : Option Addr, w.cell? ⟨c0B, 0, none⟩ = some (.pointer x4) ∧
 Calls Tryz.prog 113 #[(.pointer x4), (.int .i64 n)] w (Ret fun v w1 => ∃ x6 : Bool, v = (.bool x6) ∧
 R (.bool (!x6)) w1)
theorem step_Run_c1.calls (n : Int) (c0B : Nat) {w : World} {R : Value → World → Prop} (h : step_Run_c1.vc n c0B w R) : Calls Tryz.prog 122 #[(.int .i64 n), (.pointer (some (⟨c0B, 0, none⟩ : Addr)))] w (Ret R) :=
 calls_V fit Tryz.func122 .nil (Eq.mpr (by kernel_rfl) h)
def slices_ContainsFunc.vc_rn (sA : Option Addr) (sN : Nat) (sC : Nat) (c0B : Nat) (w : World) (R : Value → World → Prop) : Prop :=
 Calls Tryz.prog 91 #[(.slice sA sN sC), (.func (.func 122) #[] #[(.pointer (some ⟨c0B, 0, none⟩))])] w (Ret fun v w1 => ∃ x7 : Int, v = (.int .i64 x7) ∧
 R (.bool (decide (x7 ≥ (0 : Int)))) w1)
theorem slices_ContainsFunc.calls_rn (sA : Option Addr) (sN : Nat) (sC : Nat) (c0B : Nat) {w : World} {R : Value → World → Prop} (h : slices_ContainsFunc.vc_rn sA sN sC c0B w R) : Calls Tryz.prog 52 #[(.slice sA sN sC), (.func (.func 122) #[] #[(.pointer (some (⟨c0B, 0, none⟩ : Addr)))])] w (Ret R) :=
 calls_V fit Tryz.func52 .nil (Eq.mpr (by kernel_rfl) h)
def slices_IndexFunc.vc_rn (sA : Option Addr) (sN : Nat) (sC : Nat) (c0B : Nat) (w : World) (R : Value → World → Prop) : Prop :=
 ∃ vI : Int → Nat → World → Prop, (∃ vk_2 : Nat, vI 0 vk_2 w) ∧
 ∀ (jk : Nat → Value) (x8 : Int), ∀ (vk : Nat) (w1 : World), vI x8 vk w1 →
 (decide (x8 < (sN : Int)) = true →
 (0 ≤ x8 ∧ x8 < (sN : Int)) ∧ someV sA fun p =>
 ∃ x15 : Int, w1.cell? (p.add (x8.toNat * 1)) = some (.int .i64 x15) ∧
 Calls Tryz.prog 122 #[(.int .i64 x15), (.pointer (some ⟨c0B, 0, none⟩))] w1 (Ret fun v w2 => ∃ x16 : Bool, v = (.bool x16) ∧
 (x16 = true →
 R (.int .i64 x8) w2) ∧
 (x16 = false →
 ∃ vk_1 : Nat, vk_1 < vk ∧ vI (IntKind.i64.wrap (x8 + 1)) vk_1 w2))) ∧
 (decide (x8 < (sN : Int)) = false →
 R (.int .i64 (-1)) w1)
theorem slices_IndexFunc.calls_rn (sA : Option Addr) (sN : Nat) (sC : Nat) (c0B : Nat) {w : World} {R : Value → World → Prop} (h : slices_IndexFunc.vc_rn sA sN sC c0B w R) : Calls Tryz.prog 91 #[(.slice sA sN sC), (.func (.func 122) #[] #[(.pointer (some (⟨c0B, 0, none⟩ : Addr)))])] w (Ret R) :=
 calls_V fit Tryz.func91 (.lp ([(4, none), (5, none), (8, some (.int .i64))] ++ nn 9 10) (.c (.c .nil .nil) .nil)) (Eq.mpr (by kernel_rfl) h)
def step_Run.vc (bB : Nat) (pastA : Option Addr) (pastN : Nat) (pastC : Nat) (tokensA : Option Addr) (tokensN : Nat) (tokensC : Nat) (w : World) (R : Value → World → Prop) : Prop :=
 ∀ w1 : World, w1 = w.alloc (.cells #[(.pointer (some ⟨bB, 0, none⟩))] 24 (0, 0)) →
 ∃ x17 : Option Addr, w1.cell? ⟨w.heap.size, 0, none⟩ = some (.pointer x17) ∧
 Calls Tryz.prog 112 #[(.pointer x17), (.slice pastA pastN pastC)] w1 (Ret fun v w2 => ∃ x19 : Int, v = (.int .i64 x19) ∧
 ((x19 != (0 : Int)) = true →
 R (.tuple #[(.slice none 0 0), (.slice none 0 0), (.int .i64 x19)]) w2) ∧
 ((x19 != (0 : Int)) = false →
 (((tokensN : Int) == (0 : Int)) = true →
 R (.tuple #[(.slice none 0 0), (.slice none 0 0), (.int .i64 1)]) w2) ∧
 (((tokensN : Int) == (0 : Int)) = false →
 Calls Tryz.prog 52 #[(.slice tokensA tokensN tokensC), (.func (.func 122) #[] #[(.pointer (some ⟨w.heap.size, 0, none⟩))])] w2 (Ret fun v_1 w3 => ∃ x30 : Bool, v_1 = (.bool x30) ∧
 (x30 = true →
 R (.tuple #[(.slice none 0 0), (.slice none 0 0), (.int .i64 3)]) w3) ∧
 (x30 = false →
 ∃ x37 : Option Addr, w3.cell? ⟨w.heap.size, 0, none⟩ = some (.pointer x37) ∧
 someV x37 fun p =>
 ∃ x42 : Int, w3.cell? (p.add 5) = some (.int .i64 x42) ∧
 (decide ((IntKind.i64.wrap ((tokensN : Int) + (pastN : Int))) > x42) = true →
 R (.tuple #[(.slice none 0 0), (.slice none 0 0), (.int .i64 12)]) w3) ∧
 (decide ((IntKind.i64.wrap ((tokensN : Int) + (pastN : Int))) > x42) = false →
 Calls Tryz.prog 123 #[(.slice pastA pastN pastC)] w3 (Ret fun v_2 w4 => ∃ (x45A : Option Addr) (x45N x45C : Nat), v_2 = (.slice x45A x45N x45C) ∧
 ∃ vI : Option Addr → Nat → Nat → Option Addr → Nat → Nat → Int → Nat → World → Prop, (∃ vk_2 : Nat, vI none 0 0 x45A x45N x45C 0 vk_2 w4) ∧
 ∀ (jk : Nat → Value) (scoresA : Option Addr) (scoresN : Nat) (scoresC : Nat) (allA : Option Addr) (allN : Nat) (allC : Nat) (x48 : Int), ∀ (vk : Nat) (w5 : World), vI scoresA scoresN scoresC allA allN allC x48 vk w5 →
 (decide (x48 < (tokensN : Int)) = true →
 (0 ≤ x48 ∧ x48 < (tokensN : Int)) ∧ someV tokensA fun p_1 =>
 ∃ x51 : Int, w5.cell? (p_1.add (x48.toNat * 1)) = some (.int .i64 x51) ∧
 ∃ x53 : Option Addr, w5.cell? ⟨w.heap.size, 0, none⟩ = some (.pointer x53) ∧
 Calls Tryz.prog 79 #[(.pointer x53), (.slice allA allN allC), (.int .i64 x51)] w5 (Ret fun v_3 w6 => ∃ (x56_00A : Option Addr) (x56_00N x56_00C : Nat) (x56_01A : Option Addr) (x56_01N x56_01C : Nat) (x56_1A : Option Addr) (x56_1N x56_1C : Nat) (x56_2 : Int), v_3 = (.tuple #[(.agg #[(.slice x56_00A x56_00N x56_00C), (.slice x56_01A x56_01N x56_01C)]), (.slice x56_1A x56_1N x56_1C), (.int .i64 x56_2)]) ∧
 ∀ w7 : World, w7 = w6.alloc (.cells #[(.slice none 0 0), (.slice none 0 0)] 157 (0, 0)) →
 (Okc w7 ⟨w6.heap.size, 0, none⟩ ∧ Okc w7 ⟨w6.heap.size, 1, none⟩) ∧ ∀ w8 : World, w8 = ((w7.setCell ⟨w6.heap.size, 0, none⟩ (.slice x56_00A x56_00N x56_00C)).setCell ⟨w6.heap.size, 1, none⟩ (.slice x56_01A x56_01N x56_01C)) →
 ((x56_2 != (0 : Int)) = true →
 R (.tuple #[(.slice none 0 0), (.slice none 0 0), (.int .i64 x56_2)]) w8) ∧
 ((x56_2 != (0 : Int)) = false →
 ∃ (x640A : Option Addr) (x640N x640C : Nat) (x641A : Option Addr) (x641N x641C : Nat), (w8.cell? ⟨w6.heap.size, 0, none⟩ = some (.slice x640A x640N x640C) ∧ w8.cell? ⟨w6.heap.size, 1, none⟩ = some (.slice x641A x641N x641C)) ∧
 ∀ w9 : World, w9 = w8.alloc (.cells #[(.slice x640A x640N x640C), (.slice x641A x641N x641C)] 157 (0, 0)) →
 ∃ (x66A : Option Addr) (x66N x66C : Nat), ∃ w10 : World, (Builtin.append_ #[160, 160] 160 #[(.slice allA allN allC), (.slice (some ⟨w8.heap.size, 0, none⟩) 1 1)]).run Tryz.prog w9 = .ok (.slice x66A x66N x66C) w10 ∧
 ∃ vk_1 : Nat, vk_1 < vk ∧ vI x56_1A x56_1N x56_1C x66A x66N x66C (IntKind.i64.wrap (x48 + 1)) vk_1 w10))) ∧
 (decide (x48 < (tokensN : Int)) = false →
 (0 ≤ (pastN : Int) ∧ (pastN : Int) ≤ (allN : Int)) ∧
 R (.tuple #[(.slice (if allC = (pastN : Int).toNat then allA else allA.map (·.add ((pastN : Int).toNat * 2))) (allN - (pastN : Int).toNat) (allC - (pastN : Int).toNat)), (.slice scoresA scoresN scoresC), (.int .i64 0)]) w5))))))))
theorem step_Run.calls (bB : Nat) (pastA : Option Addr) (pastN : Nat) (pastC : Nat) (tokensA : Option Addr) (tokensN : Nat) (tokensC : Nat) {w : World} {R : Value → World → Prop} (h : step_Run.vc bB pastA pastN pastC tokensA tokensN tokensC w R) : Calls Tryz.prog 88 #[(.pointer (some (⟨bB, 0, none⟩ : Addr))), (.slice pastA pastN pastC), (.slice tokensA tokensN tokensC)] w (Ret R) :=
 calls_V fit Tryz.func88 (.c .nil (.c .nil (.c .nil (.c .nil (.lp (nn 6 3 ++ [(10, some (.slice)), (11, some (.slice))] ++ nn 13 4 ++ [(48, some (.int .i64))] ++ nn 49 20) (.c (.c .nil .nil) .nil)))))) (Eq.mpr (by kernel_rfl) h)
end Go.Proofs.YtkbikekbaboclaaGreat.Vc
set_option linter.unusedVariables false
set_option maxRecDepth 100000
namespace Go.Proofs.YtkbikekbaboclaaGreat.Vc
open Go Go.Proofs V
end Go.Proofs.YtkbikekbaboclaaGreat.Vc
