import Derived.Test.YtfhnegfoglngoaaVc
import Derived.Test.YtfhnegfoglngoaaH
import Derived.Test.YtfhnegfoglngoaaProg
import Derived.KernelRfl
set_option linter.unusedVariables false
set_option maxRecDepth 100000
namespace Go.Proofs.Ytfhnegfoglngoaa.Vc
open Go Go.Proofs Go.Proofs.Ytfhnegfoglngoaa.V
/-- function 27 -/
def step_check.vc_nil (pastA : Option Addr) (pastN : Nat) (pastC : Nat) (w : World) (R : Value → World → Prop) : Prop :=
  ∀ w1 : World, w1 = w.alloc (.cells #[(.pointer none)] 27 (0, 0)) →
  ∃ (x6 : Option Addr), w1.cell? (⟨w.heap.size, 0, none⟩ : Addr) = some (.pointer x6) ∧
  (x6.isNone = true →
  R (.int .i64 2) w1) ∧
  (x6.isNone = false →
  Calls Try.prog 51 #[(.slice pastA pastN pastC), (.func (.func 52) #[] #[(.pointer (some (⟨w.heap.size, 0, none⟩ : Addr)))])] w1 (Ret fun v w2 => ∃ (x11 : Bool), v = (.bool x11) ∧
  (x11 = true →
  R (.int .i64 1) w2) ∧
  (x11 = false →
  R (.int .i64 0) w2)))
theorem step_check.vc_nil_eq (pastA : Option Addr) (pastN : Nat) (pastC : Nat) (w : World) (R : Value → World → Prop) : fnV Try.prog Try.f27 (.c .nil (.c .nil .nil)) [(.pointer none), (.slice pastA pastN pastC)] w R = step_check.vc_nil pastA pastN pastC w R := by kernel_rfl
theorem step_check.calls_nil (pastA : Option Addr) (pastN : Nat) (pastC : Nat) {w : World} {R : Value → World → Prop} (h : step_check.vc_nil pastA pastN pastC w R) : Calls Try.prog 27 #[(.pointer none), (.slice pastA pastN pastC)] w (Ret R) :=
  calls_V fit Try.func27 (.c .nil (.c .nil .nil)) (by rw [show (#[(.pointer none), (.slice pastA pastN pastC)] : Array Value).toList = [(.pointer none), (.slice pastA pastN pastC)] from rfl, step_check.vc_nil_eq]; exact h)
/-- function 13 -/
def step_Step.vc_nil (pastA : Option Addr) (pastN : Nat) (pastC : Nat) (token : Int) (w : World) (R : Value → World → Prop) : Prop :=
  ∀ w1 : World, w1 = w.alloc (.cells #[(.slice none 0 0), (.slice none 0 0)] 36 (0, 0)) →
  Calls Try.prog 27 #[(.pointer none), (.slice pastA pastN pastC)] w1 (Ret fun v w2 => ∃ (x17 : Int), v = (.int .i64 x17) ∧
  ((x17 != (0 : Int)) = true →
  (((∃ u, w2.cell? (⟨w.heap.size, 0, none⟩ : Addr) = some u) ∧ w2.frozen? (⟨w.heap.size, 0, none⟩ : Addr) = false) ∧ ((∃ u, w2.cell? (⟨w.heap.size, 1, none⟩ : Addr) = some u) ∧ w2.frozen? (⟨w.heap.size, 1, none⟩ : Addr) = false)) ∧ ∀ w3 : World, w3 = ((w2.setCell (⟨w.heap.size, 0, none⟩ : Addr) (.slice none 0 0)).setCell (⟨w.heap.size, 1, none⟩ : Addr) (.slice none 0 0)) →
  ∃ (r00A : Option Addr), ∃ (r00N : Nat), ∃ (r00C : Nat), ∃ (r01A : Option Addr), ∃ (r01N : Nat), ∃ (r01C : Nat), (w3.cell? (⟨w.heap.size, 0, none⟩ : Addr) = some (.slice r00A r00N r00C) ∧ w3.cell? (⟨w.heap.size, 1, none⟩ : Addr) = some (.slice r01A r01N r01C)) ∧
  R (.tuple #[(.agg #[(.slice r00A r00N r00C), (.slice r01A r01N r01C)]), (.slice none 0 0), (.int .i64 x17)]) w3) ∧
  ((x17 != (0 : Int)) = false →
  Calls Try.prog 30 #[(.pointer none), (.int .i64 token)] w2 (Ret fun v_1 w4 => ∃ (x25 : Bool), v_1 = (.bool x25) ∧
  ((!x25) = true →
  (((∃ u, w4.cell? (⟨w.heap.size, 0, none⟩ : Addr) = some u) ∧ w4.frozen? (⟨w.heap.size, 0, none⟩ : Addr) = false) ∧ ((∃ u, w4.cell? (⟨w.heap.size, 1, none⟩ : Addr) = some u) ∧ w4.frozen? (⟨w.heap.size, 1, none⟩ : Addr) = false)) ∧ ∀ w5 : World, w5 = ((w4.setCell (⟨w.heap.size, 0, none⟩ : Addr) (.slice none 0 0)).setCell (⟨w.heap.size, 1, none⟩ : Addr) (.slice none 0 0)) →
  ∃ (r00A_1 : Option Addr), ∃ (r00N_1 : Nat), ∃ (r00C_1 : Nat), ∃ (r01A_1 : Option Addr), ∃ (r01N_1 : Nat), ∃ (r01C_1 : Nat), (w5.cell? (⟨w.heap.size, 0, none⟩ : Addr) = some (.slice r00A_1 r00N_1 r00C_1) ∧ w5.cell? (⟨w.heap.size, 1, none⟩ : Addr) = some (.slice r01A_1 r01N_1 r01C_1)) ∧
  R (.tuple #[(.agg #[(.slice r00A_1 r00N_1 r00C_1), (.slice r01A_1 r01N_1 r01C_1)]), (.slice none 0 0), (.int .i64 3)]) w5) ∧
  ((!x25) = false →
  False))))
theorem step_Step.vc_nil_eq (pastA : Option Addr) (pastN : Nat) (pastC : Nat) (token : Int) (w : World) (R : Value → World → Prop) : fnV Try.prog Try.f13 (.c .nil (.c .nil .nil)) [(.pointer none), (.slice pastA pastN pastC), (.int .i64 token)] w R = step_Step.vc_nil pastA pastN pastC token w R := by kernel_rfl
theorem step_Step.calls_nil (pastA : Option Addr) (pastN : Nat) (pastC : Nat) (token : Int) {w : World} {R : Value → World → Prop} (h : step_Step.vc_nil pastA pastN pastC token w R) : Calls Try.prog 13 #[(.pointer none), (.slice pastA pastN pastC), (.int .i64 token)] w (Ret R) :=
  calls_V fit Try.func13 (.c .nil (.c .nil .nil)) (by rw [show (#[(.pointer none), (.slice pastA pastN pastC), (.int .i64 token)] : Array Value).toList = [(.pointer none), (.slice pastA pastN pastC), (.int .i64 token)] from rfl, step_Step.vc_nil_eq]; exact h)
/-- function 12 -/
def step_Run.vc_nil (pastA : Option Addr) (pastN : Nat) (pastC : Nat) (tokensA : Option Addr) (tokensN : Nat) (tokensC : Nat) (w : World) (R : Value → World → Prop) : Prop :=
  ∀ w1 : World, w1 = w.alloc (.cells #[(.pointer none)] 27 (0, 0)) →
  ∃ (x17 : Option Addr), w1.cell? (⟨w.heap.size, 0, none⟩ : Addr) = some (.pointer x17) ∧
  Calls Try.prog 27 #[(.pointer x17), (.slice pastA pastN pastC)] w1 (Ret fun v w2 => ∃ (x19 : Int), v = (.int .i64 x19) ∧
  ((x19 != (0 : Int)) = true →
  R (.tuple #[(.slice none 0 0), (.slice none 0 0), (.int .i64 x19)]) w2) ∧
  ((x19 != (0 : Int)) = false →
  ((((tokensN : Nat) : Int) == (0 : Int)) = true →
  R (.tuple #[(.slice none 0 0), (.slice none 0 0), (.int .i64 1)]) w2) ∧
  ((((tokensN : Nat) : Int) == (0 : Int)) = false →
  Calls Try.prog 28 #[(.slice tokensA tokensN tokensC), (.func (.func 29) #[] #[(.pointer (some (⟨w.heap.size, 0, none⟩ : Addr)))])] w2 (Ret fun v_1 w3 => ∃ (x30 : Bool), v_1 = (.bool x30) ∧
  (x30 = true →
  R (.tuple #[(.slice none 0 0), (.slice none 0 0), (.int .i64 3)]) w3) ∧
  (x30 = false →
  ∃ (x37 : Option Addr), w3.cell? (⟨w.heap.size, 0, none⟩ : Addr) = some (.pointer x37) ∧
  someV x37 fun p =>
  ∃ (x42 : Int), w3.cell? (p.add 5) = some (.int .i64 x42) ∧
  (decide ((IntKind.i64.wrap (((tokensN : Nat) : Int) + ((pastN : Nat) : Int))) > x42) = true →
  R (.tuple #[(.slice none 0 0), (.slice none 0 0), (.int .i64 12)]) w3) ∧
  (decide ((IntKind.i64.wrap (((tokensN : Nat) : Int) + ((pastN : Nat) : Int))) > x42) = false →
  Calls Try.prog 31 #[(.slice pastA pastN pastC)] w3 (Ret fun v_2 w4 => ∃ (x45A : Option Addr), ∃ (x45N : Nat), ∃ (x45C : Nat), v_2 = (.slice x45A x45N x45C) ∧
  ∃ vI : Option Addr → Nat → Nat → Option Addr → Nat → Nat → Int → Nat → World → Prop, (∃ vk_2 : Nat, vI none 0 0 x45A x45N x45C 0 vk_2 w4) ∧
  ∀ (jk : Nat → Value) (scoresA : Option Addr) (scoresN : Nat) (scoresC : Nat) (allA : Option Addr) (allN : Nat) (allC : Nat) (x48 : Int), ∀ (vk : Nat) (w5 : World), vI scoresA scoresN scoresC allA allN allC x48 vk w5 →
  (decide (x48 < ((tokensN : Nat) : Int)) = true →
  (0 ≤ x48 ∧ x48 < ((tokensN : Nat) : Int)) ∧ someV tokensA fun p_1 =>
  ∃ (x51 : Int), w5.cell? (p_1.add (x48.toNat * 1)) = some (.int .i64 x51) ∧
  ∃ (x53 : Option Addr), w5.cell? (⟨w.heap.size, 0, none⟩ : Addr) = some (.pointer x53) ∧
  Calls Try.prog 13 #[(.pointer x53), (.slice allA allN allC), (.int .i64 x51)] w5 (Ret fun v_3 w6 => ∃ (x56_00A : Option Addr), ∃ (x56_00N : Nat), ∃ (x56_00C : Nat), ∃ (x56_01A : Option Addr), ∃ (x56_01N : Nat), ∃ (x56_01C : Nat), ∃ (x56_1A : Option Addr), ∃ (x56_1N : Nat), ∃ (x56_1C : Nat), ∃ (x56_2 : Int), v_3 = (.tuple #[(.agg #[(.slice x56_00A x56_00N x56_00C), (.slice x56_01A x56_01N x56_01C)]), (.slice x56_1A x56_1N x56_1C), (.int .i64 x56_2)]) ∧
  ∀ w7 : World, w7 = w6.alloc (.cells #[(.slice none 0 0), (.slice none 0 0)] 36 (0, 0)) →
  (((∃ u, w7.cell? (⟨w6.heap.size, 0, none⟩ : Addr) = some u) ∧ w7.frozen? (⟨w6.heap.size, 0, none⟩ : Addr) = false) ∧ ((∃ u, w7.cell? (⟨w6.heap.size, 1, none⟩ : Addr) = some u) ∧ w7.frozen? (⟨w6.heap.size, 1, none⟩ : Addr) = false)) ∧ ∀ w8 : World, w8 = ((w7.setCell (⟨w6.heap.size, 0, none⟩ : Addr) (.slice x56_00A x56_00N x56_00C)).setCell (⟨w6.heap.size, 1, none⟩ : Addr) (.slice x56_01A x56_01N x56_01C)) →
  ((x56_2 != (0 : Int)) = true →
  R (.tuple #[(.slice none 0 0), (.slice none 0 0), (.int .i64 x56_2)]) w8) ∧
  ((x56_2 != (0 : Int)) = false →
  ∃ (x640A : Option Addr), ∃ (x640N : Nat), ∃ (x640C : Nat), ∃ (x641A : Option Addr), ∃ (x641N : Nat), ∃ (x641C : Nat), (w8.cell? (⟨w6.heap.size, 0, none⟩ : Addr) = some (.slice x640A x640N x640C) ∧ w8.cell? (⟨w6.heap.size, 1, none⟩ : Addr) = some (.slice x641A x641N x641C)) ∧
  ∀ w9 : World, w9 = w8.alloc (.cells #[(.slice x640A x640N x640C), (.slice x641A x641N x641C)] 36 (0, 0)) →
  ∃ (x66A : Option Addr), ∃ (x66N : Nat), ∃ (x66C : Nat), ∃ w10 : World, (Builtin.append_ #[31, 31] 31 #[(.slice allA allN allC), (.slice (some (⟨w8.heap.size, 0, none⟩ : Addr)) 1 1)]).run Try.prog w9 = .ok (.slice x66A x66N x66C) w10 ∧
  ∃ vk_1 : Nat, vk_1 < vk ∧ vI x56_1A x56_1N x56_1C x66A x66N x66C (IntKind.i64.wrap (x48 + 1)) vk_1 w10))) ∧
  (decide (x48 < ((tokensN : Nat) : Int)) = false →
  (0 ≤ ((pastN : Nat) : Int) ∧ ((pastN : Nat) : Int) ≤ ((allN : Nat) : Int)) ∧
  R (.tuple #[(.slice (if allC = ((pastN : Nat) : Int).toNat then allA else allA.map (·.add (((pastN : Nat) : Int).toNat * 2))) (allN - ((pastN : Nat) : Int).toNat) (allC - ((pastN : Nat) : Int).toNat)), (.slice scoresA scoresN scoresC), (.int .i64 0)]) w5))))))))
theorem step_Run.vc_nil_eq (pastA : Option Addr) (pastN : Nat) (pastC : Nat) (tokensA : Option Addr) (tokensN : Nat) (tokensC : Nat) (w : World) (R : Value → World → Prop) : fnV Try.prog Try.f12 (.c .nil (.c .nil (.c .nil (.c .nil (.lp [(6, none), (7, none), (8, none), (10, some (.slice)), (11, some (.slice)), (13, none), (14, none), (15, none), (16, none), (48, some (.int .i64)), (49, none), (50, none), (51, none), (52, none), (53, none), (54, none), (55, none), (56, none), (57, none), (58, none), (59, none), (60, none), (61, none), (62, none), (63, none), (64, none), (65, none), (66, none), (67, none), (68, none)] (.c (.c .nil .nil) .nil)))))) [(.pointer none), (.slice pastA pastN pastC), (.slice tokensA tokensN tokensC)] w R = step_Run.vc_nil pastA pastN pastC tokensA tokensN tokensC w R := by kernel_rfl
theorem step_Run.calls_nil (pastA : Option Addr) (pastN : Nat) (pastC : Nat) (tokensA : Option Addr) (tokensN : Nat) (tokensC : Nat) {w : World} {R : Value → World → Prop} (h : step_Run.vc_nil pastA pastN pastC tokensA tokensN tokensC w R) : Calls Try.prog 12 #[(.pointer none), (.slice pastA pastN pastC), (.slice tokensA tokensN tokensC)] w (Ret R) :=
  calls_V fit Try.func12 (.c .nil (.c .nil (.c .nil (.c .nil (.lp [(6, none), (7, none), (8, none), (10, some (.slice)), (11, some (.slice)), (13, none), (14, none), (15, none), (16, none), (48, some (.int .i64)), (49, none), (50, none), (51, none), (52, none), (53, none), (54, none), (55, none), (56, none), (57, none), (58, none), (59, none), (60, none), (61, none), (62, none), (63, none), (64, none), (65, none), (66, none), (67, none), (68, none)] (.c (.c .nil .nil) .nil)))))) (by rw [show (#[(.pointer none), (.slice pastA pastN pastC), (.slice tokensA tokensN tokensC)] : Array Value).toList = [(.pointer none), (.slice pastA pastN pastC), (.slice tokensA tokensN tokensC)] from rfl, step_Run.vc_nil_eq]; exact h)
end Go.Proofs.Ytfhnegfoglngoaa.Vc
