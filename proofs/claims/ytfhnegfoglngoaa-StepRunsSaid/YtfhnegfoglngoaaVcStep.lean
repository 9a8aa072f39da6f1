import Derived.Test.YtfhnegfoglngoaaVc
import Derived.Test.YtfhnegfoglngoaaH
import Derived.Test.YtfhnegfoglngoaaProg
import Derived.KernelRfl
set_option linter.unusedVariables false
set_option maxRecDepth 100000
namespace Go.Proofs.Ytfhnegfoglngoaa.Vc
open Go Go.Proofs Go.Proofs.Ytfhnegfoglngoaa.V
/-- function 38 -/
def slices_Equal.vc (s1A : Option Addr) (s1N : Nat) (s1C : Nat) (s2A : Option Addr) (s2N : Nat) (s2C : Nat) (w : World) (R : Value → World → Prop) : Prop :=
  ((((s1N : Nat) : Int) != ((s2N : Nat) : Int)) = true →
  R (.bool false) w) ∧
  ((((s1N : Nat) : Int) != ((s2N : Nat) : Int)) = false →
  ∃ vI : Int → Nat → World → Prop, (∃ vk_2 : Nat, vI 0 vk_2 w) ∧
  ∀ (jk : Nat → Value) (x13 : Int), ∀ (vk : Nat) (w1 : World), vI x13 vk w1 →
  (decide (x13 < ((s1N : Nat) : Int)) = true →
  ∃ vS : World → Prop, ∀ w2 : World, w2 = w1.drew → vS w2 ∧
  (0 ≤ x13 ∧ x13 < ((s1N : Nat) : Int)) ∧ someV s1A fun p =>
  ∃ (x19 : Int), (∀ w3, vS w3 → w3.cell? (p.add (x13.toNat * 1)) = some (.int .i64 x19)) ∧
  (0 ≤ x13 ∧ x13 < ((s2N : Nat) : Int)) ∧ someV s2A fun p_1 =>
  ∃ (x23 : Int), (∀ w4, vS w4 → w4.cell? (p_1.add (x13.toNat * 1)) = some (.int .i64 x23)) ∧
  ((x19 != x23) = true →
  R (.bool false) w2) ∧
  ((x19 != x23) = false →
  ∃ vk_1 : Nat, vk_1 < vk ∧ vI (IntKind.i64.wrap (x13 + 1)) vk_1 w2)) ∧
  (decide (x13 < ((s1N : Nat) : Int)) = false →
  R (.bool true) w1))
theorem slices_Equal.vc_eq (s1A : Option Addr) (s1N : Nat) (s1C : Nat) (s2A : Option Addr) (s2N : Nat) (s2C : Nat) (w : World) (R : Value → World → Prop) : fnV Try.prog Try.f38 (.c .nil (.lp [(4, none), (5, none), (13, some (.int .i64)), (14, none), (15, none), (16, none), (17, none), (18, none), (19, none), (20, none), (21, none), (22, none), (23, none), (24, none), (25, none)] (.c (.tk 0 (.tk 1 (.tk 2 (.tk 3 (.tk 4 (.tk 5 (.tk 6 (.tk 7 (.tk 8 (.fin (.c .nil .nil))))))))))) .nil))) [(.slice s1A s1N s1C), (.slice s2A s2N s2C)] w R = slices_Equal.vc s1A s1N s1C s2A s2N s2C w R := by kernel_rfl
theorem slices_Equal.calls (s1A : Option Addr) (s1N : Nat) (s1C : Nat) (s2A : Option Addr) (s2N : Nat) (s2C : Nat) {w : World} {R : Value → World → Prop} (h : slices_Equal.vc s1A s1N s1C s2A s2N s2C w R) : Calls Try.prog 38 #[(.slice s1A s1N s1C), (.slice s2A s2N s2C)] w (Ret R) :=
  calls_V fit Try.func38 (.c .nil (.lp [(4, none), (5, none), (13, some (.int .i64)), (14, none), (15, none), (16, none), (17, none), (18, none), (19, none), (20, none), (21, none), (22, none), (23, none), (24, none), (25, none)] (.c (.tk 0 (.tk 1 (.tk 2 (.tk 3 (.tk 4 (.tk 5 (.tk 6 (.tk 7 (.tk 8 (.fin (.c .nil .nil))))))))))) .nil))) (by rw [show (#[(.slice s1A s1N s1C), (.slice s2A s2N s2C)] : Array Value).toList = [(.slice s1A s1N s1C), (.slice s2A s2N s2C)] from rfl, slices_Equal.vc_eq]; exact h)
/-- function 37 -/
def slices_EqualFunc.vc_sl (s1A : Option Addr) (s1N : Nat) (s1C : Nat) (s2A : Option Addr) (s2N : Nat) (s2C : Nat) (w : World) (R : Value → World → Prop) : Prop :=
  ((((s1N : Nat) : Int) != ((s2N : Nat) : Int)) = true →
  R (.bool false) w) ∧
  ((((s1N : Nat) : Int) != ((s2N : Nat) : Int)) = false →
  ∃ vI : Int → Nat → World → Prop, (∃ vk_2 : Nat, vI 0 vk_2 w) ∧
  ∀ (jk : Nat → Value) (x17 : Int), ∀ (vk : Nat) (w1 : World), vI x17 vk w1 →
  (decide (x17 < ((s1N : Nat) : Int)) = true →
  (0 ≤ x17 ∧ x17 < ((s1N : Nat) : Int)) ∧ someV s1A fun p =>
  ∃ (x21A : Option Addr), ∃ (x21N : Nat), ∃ (x21C : Nat), w1.cell? (p.add (x17.toNat * 1)) = some (.slice x21A x21N x21C) ∧
  (0 ≤ x17 ∧ x17 < ((s2N : Nat) : Int)) ∧ someV s2A fun p_1 =>
  ∃ (x25A : Option Addr), ∃ (x25N : Nat), ∃ (x25C : Nat), w1.cell? (p_1.add (x17.toNat * 1)) = some (.slice x25A x25N x25C) ∧
  Calls Try.prog 38 #[(.slice x21A x21N x21C), (.slice x25A x25N x25C)] w1 (Ret fun v w2 => ∃ (x29 : Bool), v = (.bool x29) ∧
  ((!x29) = true →
  R (.bool false) w2) ∧
  ((!x29) = false →
  ∃ vk_1 : Nat, vk_1 < vk ∧ vI (IntKind.i64.wrap (x17 + 1)) vk_1 w2))) ∧
  (decide (x17 < ((s1N : Nat) : Int)) = false →
  R (.bool true) w1))
theorem slices_EqualFunc.vc_sl_eq (s1A : Option Addr) (s1N : Nat) (s1C : Nat) (s2A : Option Addr) (s2N : Nat) (s2C : Nat) (w : World) (R : Value → World → Prop) : fnV Try.prog Try.f37 (.c .nil (.lp [(6, none), (7, none), (8, none), (9, none), (17, some (.int .i64)), (18, none), (19, none), (20, none), (21, none), (22, none), (23, none), (24, none), (25, none), (26, none), (27, none), (28, none), (29, none), (30, none), (31, none)] (.c (.c .nil .nil) .nil))) [(.slice s1A s1N s1C), (.slice s2A s2N s2C), (.func (.func 38) #[] #[])] w R = slices_EqualFunc.vc_sl s1A s1N s1C s2A s2N s2C w R := by kernel_rfl
theorem slices_EqualFunc.calls_sl (s1A : Option Addr) (s1N : Nat) (s1C : Nat) (s2A : Option Addr) (s2N : Nat) (s2C : Nat) {w : World} {R : Value → World → Prop} (h : slices_EqualFunc.vc_sl s1A s1N s1C s2A s2N s2C w R) : Calls Try.prog 37 #[(.slice s1A s1N s1C), (.slice s2A s2N s2C), (.func (.func 38) #[] #[])] w (Ret R) :=
  calls_V fit Try.func37 (.c .nil (.lp [(6, none), (7, none), (8, none), (9, none), (17, some (.int .i64)), (18, none), (19, none), (20, none), (21, none), (22, none), (23, none), (24, none), (25, none), (26, none), (27, none), (28, none), (29, none), (30, none), (31, none)] (.c (.c .nil .nil) .nil))) (by rw [show (#[(.slice s1A s1N s1C), (.slice s2A s2N s2C), (.func (.func 38) #[] #[])] : Array Value).toList = [(.slice s1A s1N s1C), (.slice s2A s2N s2C), (.func (.func 38) #[] #[])] from rfl, slices_EqualFunc.vc_sl_eq]; exact h)
/-- function 14 -/
def step_Same.vc (a0A : Option Addr) (a0N : Nat) (a0C : Nat) (a1A : Option Addr) (a1N : Nat) (a1C : Nat) (b0A : Option Addr) (b0N : Nat) (b0C : Nat) (b1A : Option Addr) (b1N : Nat) (b1C : Nat) (w : World) (R : Value → World → Prop) : Prop :=
  ∀ w1 : World, w1 = w.alloc (.cells #[(.slice a0A a0N a0C), (.slice a1A a1N a1C)] 36 (0, 0)) →
  ∀ w2 : World, w2 = w1.alloc (.cells #[(.slice b0A b0N b0C), (.slice b1A b1N b1C)] 36 (0, 0)) →
  ∃ (x6A : Option Addr), ∃ (x6N : Nat), ∃ (x6C : Nat), w2.cell? (⟨w.heap.size, 0, none⟩ : Addr) = some (.slice x6A x6N x6C) ∧
  ∃ (x8A : Option Addr), ∃ (x8N : Nat), ∃ (x8C : Nat), w2.cell? (⟨w1.heap.size, 0, none⟩ : Addr) = some (.slice x8A x8N x8C) ∧
  Calls Try.prog 37 #[(.slice x6A x6N x6C), (.slice x8A x8N x8C), (.func (.func 38) #[] #[])] w2 (Ret fun v w3 => ∃ (x9 : Bool), v = (.bool x9) ∧
  (x9 = true →
  ∃ (x12A : Option Addr), ∃ (x12N : Nat), ∃ (x12C : Nat), w3.cell? (⟨w.heap.size, 1, none⟩ : Addr) = some (.slice x12A x12N x12C) ∧
  ∃ (x14A : Option Addr), ∃ (x14N : Nat), ∃ (x14C : Nat), w3.cell? (⟨w1.heap.size, 1, none⟩ : Addr) = some (.slice x14A x14N x14C) ∧
  Calls Try.prog 37 #[(.slice x12A x12N x12C), (.slice x14A x14N x14C), (.func (.func 38) #[] #[])] w3 (Ret fun v_1 w4 => ∃ (x15 : Bool), v_1 = (.bool x15) ∧
  R (.bool x15) w4)) ∧
  (x9 = false →
  R (.bool false) w3))
theorem step_Same.vc_eq (a0A : Option Addr) (a0N : Nat) (a0C : Nat) (a1A : Option Addr) (a1N : Nat) (a1C : Nat) (b0A : Option Addr) (b0N : Nat) (b0C : Nat) (b1A : Option Addr) (b1N : Nat) (b1C : Nat) (w : World) (R : Value → World → Prop) : fnV Try.prog Try.f14 (.at_ 1 5 .nil .nil) [(.agg #[(.slice a0A a0N a0C), (.slice a1A a1N a1C)]), (.agg #[(.slice b0A b0N b0C), (.slice b1A b1N b1C)])] w R = step_Same.vc a0A a0N a0C a1A a1N a1C b0A b0N b0C b1A b1N b1C w R := by kernel_rfl
theorem step_Same.calls (a0A : Option Addr) (a0N : Nat) (a0C : Nat) (a1A : Option Addr) (a1N : Nat) (a1C : Nat) (b0A : Option Addr) (b0N : Nat) (b0C : Nat) (b1A : Option Addr) (b1N : Nat) (b1C : Nat) {w : World} {R : Value → World → Prop} (h : step_Same.vc a0A a0N a0C a1A a1N a1C b0A b0N b0C b1A b1N b1C w R) : Calls Try.prog 14 #[(.agg #[(.slice a0A a0N a0C), (.slice a1A a1N a1C)]), (.agg #[(.slice b0A b0N b0C), (.slice b1A b1N b1C)])] w (Ret R) :=
  calls_V fit Try.func14 (.at_ 1 5 .nil .nil) (by rw [show (#[(.agg #[(.slice a0A a0N a0C), (.slice a1A a1N a1C)]), (.agg #[(.slice b0A b0N b0C), (.slice b1A b1N b1C)])] : Array Value).toList = [(.agg #[(.slice a0A a0N a0C), (.slice a1A a1N a1C)]), (.agg #[(.slice b0A b0N b0C), (.slice b1A b1N b1C)])] from rfl, step_Same.vc_eq]; exact h)
end Go.Proofs.Ytfhnegfoglngoaa.Vc
