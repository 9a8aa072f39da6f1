import Derived.Test.YtpcddfhfchempaaVc
import Derived.Test.YtpcddfhfchempaaH
import Derived.Test.YtpcddfhfchempaaProg
import Derived.KernelRfl
set_option linter.unusedVariables false
set_option maxRecDepth 100000
namespace Go.Proofs.Ytpcddfhfchempaa.Vc
open Go Go.Proofs Go.Proofs.Ytpcddfhfchempaa.V
/-- function 66 -/
def slices_Clone.vc (sA : Option Addr) (sN : Nat) (sC : Nat) (w : World) (R : Value → World → Prop) : Prop :=
  (sA.isNone = true →
  R (.slice none 0 0) w) ∧
  (sA.isNone = false →
  ∀ w1 : World, w1 = w.alloc (.cells #[] 3 (0, 0)) →
  ∃ (x7A : Option Addr), ∃ (x7N : Nat), ∃ (x7C : Nat), ∃ w2 : World, (Builtin.append_ #[27, 27] 27 #[(.slice (some (⟨w.heap.size, 0, none⟩ : Addr)) 0 0), (.slice sA sN sC)]).run Try.prog w1 = .ok (.slice x7A x7N x7C) w2 ∧
  R (.slice x7A x7N x7C) w2)
theorem slices_Clone.vc_eq (sA : Option Addr) (sN : Nat) (sC : Nat) (w : World) (R : Value → World → Prop) : fnV Try.prog Try.f66 (.c .nil .nil) [(.slice sA sN sC)] w R = slices_Clone.vc sA sN sC w R := by kernel_rfl
theorem slices_Clone.calls (sA : Option Addr) (sN : Nat) (sC : Nat) {w : World} {R : Value → World → Prop} (h : slices_Clone.vc sA sN sC w R) : Calls Try.prog 66 #[(.slice sA sN sC)] w (Ret R) :=
  calls_V fit Try.func66 (.c .nil .nil) (by rw [show (#[(.slice sA sN sC)] : Array Value).toList = [(.slice sA sN sC)] from rfl, slices_Clone.vc_eq]; exact h)
/-- function 98 -/
def step_copied.vc (listA : Option Addr) (listN : Nat) (listC : Nat) (w : World) (R : Value → World → Prop) : Prop :=
  ∃ vI : Option Addr → Nat → Nat → Int → Nat → World → Prop, (∃ vk_2 : Nat, vI none 0 0 0 vk_2 w) ∧
  ∀ (jk : Nat → Value) (outA : Option Addr) (outN : Nat) (outC : Nat) (x7 : Int), ∀ (vk : Nat) (w1 : World), vI outA outN outC x7 vk w1 →
  (decide (x7 < ((listN : Nat) : Int)) = true →
  (0 ≤ x7 ∧ x7 < ((listN : Nat) : Int)) ∧ someV listA fun p =>
  ∃ (x10A : Option Addr), ∃ (x10N : Nat), ∃ (x10C : Nat), w1.cell? (p.add (x7.toNat * 1)) = some (.slice x10A x10N x10C) ∧
  Calls Try.prog 66 #[(.slice x10A x10N x10C)] w1 (Ret fun v w2 => ∃ (x13A : Option Addr), ∃ (x13N : Nat), ∃ (x13C : Nat), v = (.slice x13A x13N x13C) ∧
  ∀ w3 : World, w3 = w2.alloc (.cells #[(.slice x13A x13N x13C)] 27 (0, 0)) →
  ∃ (x15A : Option Addr), ∃ (x15N : Nat), ∃ (x15C : Nat), ∃ w4 : World, (Builtin.append_ #[33, 33] 33 #[(.slice outA outN outC), (.slice (some (⟨w2.heap.size, 0, none⟩ : Addr)) 1 1)]).run Try.prog w3 = .ok (.slice x15A x15N x15C) w4 ∧
  ∃ vk_1 : Nat, vk_1 < vk ∧ vI x15A x15N x15C (IntKind.i64.wrap (x7 + 1)) vk_1 w4)) ∧
  (decide (x7 < ((listN : Nat) : Int)) = false →
  R (.slice outA outN outC) w1)
theorem step_copied.vc_eq (listA : Option Addr) (listN : Nat) (listC : Nat) (w : World) (R : Value → World → Prop) : fnV Try.prog Try.f98 (.lp [(2, some (.slice)), (4, none), (7, some (.int .i64)), (8, none), (9, none), (10, none), (11, none), (12, none), (13, none), (14, none), (15, none), (16, none)] (.c .nil .nil)) [(.slice listA listN listC)] w R = step_copied.vc listA listN listC w R := by kernel_rfl
theorem step_copied.calls (listA : Option Addr) (listN : Nat) (listC : Nat) {w : World} {R : Value → World → Prop} (h : step_copied.vc listA listN listC w R) : Calls Try.prog 98 #[(.slice listA listN listC)] w (Ret R) :=
  calls_V fit Try.func98 (.lp [(2, some (.slice)), (4, none), (7, some (.int .i64)), (8, none), (9, none), (10, none), (11, none), (12, none), (13, none), (14, none), (15, none), (16, none)] (.c .nil .nil)) (by rw [show (#[(.slice listA listN listC)] : Array Value).toList = [(.slice listA listN listC)] from rfl, step_copied.vc_eq]; exact h)
/-- function 59 -/
def step_Copy.vc (e0A : Option Addr) (e0N : Nat) (e0C : Nat) (e1A : Option Addr) (e1N : Nat) (e1C : Nat) (w : World) (R : Value → World → Prop) : Prop :=
  ∀ w1 : World, w1 = w.alloc (.cells #[(.slice e0A e0N e0C), (.slice e1A e1N e1C)] 35 (0, 0)) →
  ∀ w2 : World, w2 = w1.alloc (.cells #[(.slice none 0 0), (.slice none 0 0)] 35 (0, 0)) →
  ∃ vS : World → Prop, ∀ w3 : World, w3 = w2.drew → vS w3 ∧
  ∃ (x4A : Option Addr), ∃ (x4N : Nat), ∃ (x4C : Nat), (∀ w4, vS w4 → w4.cell? (⟨w.heap.size, 0, none⟩ : Addr) = some (.slice x4A x4N x4C)) ∧
  ∃ (x7A : Option Addr), ∃ (x7N : Nat), ∃ (x7C : Nat), (∀ w5, vS w5 → w5.cell? (⟨w.heap.size, 1, none⟩ : Addr) = some (.slice x7A x7N x7C)) ∧
  Calls Try.prog 98 #[(.slice x4A x4N x4C)] w3 (Ret fun v w6 => ∃ (x5A : Option Addr), ∃ (x5N : Nat), ∃ (x5C : Nat), v = (.slice x5A x5N x5C) ∧
  vS w6 ∧
  Calls Try.prog 98 #[(.slice x7A x7N x7C)] w6 (Ret fun v_1 w7 => ∃ (x8A : Option Addr), ∃ (x8N : Nat), ∃ (x8C : Nat), v_1 = (.slice x8A x8N x8C) ∧
  vS w7 ∧
  (((∃ u, w7.cell? (⟨w1.heap.size, 0, none⟩ : Addr) = some u) ∧ w7.frozen? (⟨w1.heap.size, 0, none⟩ : Addr) = false) ∧ ((∃ u, w7.cell? (⟨w1.heap.size, 1, none⟩ : Addr) = some u) ∧ w7.frozen? (⟨w1.heap.size, 1, none⟩ : Addr) = false)) ∧ ∀ w8 : World, w8 = ((w7.setCell (⟨w1.heap.size, 0, none⟩ : Addr) (.slice x5A x5N x5C)).setCell (⟨w1.heap.size, 1, none⟩ : Addr) (.slice x8A x8N x8C)) →
  vS w8 ∧
  ∃ (r00A : Option Addr), ∃ (r00N : Nat), ∃ (r00C : Nat), ∃ (r01A : Option Addr), ∃ (r01N : Nat), ∃ (r01C : Nat), (w8.cell? (⟨w1.heap.size, 0, none⟩ : Addr) = some (.slice r00A r00N r00C) ∧ w8.cell? (⟨w1.heap.size, 1, none⟩ : Addr) = some (.slice r01A r01N r01C)) ∧
  R (.agg #[(.slice r00A r00N r00C), (.slice r01A r01N r01C)]) w8))
theorem step_Copy.vc_eq (e0A : Option Addr) (e0N : Nat) (e0C : Nat) (e1A : Option Addr) (e1N : Nat) (e1C : Nat) (w : World) (R : Value → World → Prop) : fnV Try.prog Try.f59 (.tk 0 (.tk 1 (.tk 3 (.tk 4 (.alt 2 (.alt 5 (.tk 6 (.alt 7 (.fin .nil) .nil)) .nil) .nil))))) [(.agg #[(.slice e0A e0N e0C), (.slice e1A e1N e1C)])] w R = step_Copy.vc e0A e0N e0C e1A e1N e1C w R := by kernel_rfl
theorem step_Copy.calls (e0A : Option Addr) (e0N : Nat) (e0C : Nat) (e1A : Option Addr) (e1N : Nat) (e1C : Nat) {w : World} {R : Value → World → Prop} (h : step_Copy.vc e0A e0N e0C e1A e1N e1C w R) : Calls Try.prog 59 #[(.agg #[(.slice e0A e0N e0C), (.slice e1A e1N e1C)])] w (Ret R) :=
  calls_V fit Try.func59 (.tk 0 (.tk 1 (.tk 3 (.tk 4 (.alt 2 (.alt 5 (.tk 6 (.alt 7 (.fin .nil) .nil)) .nil) .nil))))) (by rw [show (#[(.agg #[(.slice e0A e0N e0C), (.slice e1A e1N e1C)])] : Array Value).toList = [(.agg #[(.slice e0A e0N e0C), (.slice e1A e1N e1C)])] from rfl, step_Copy.vc_eq]; exact h)
/-- function 63 -/
def slices_Equal.vc (s1A : Option Addr) (s1N : Nat) (s1C : Nat) (s2A : Option Addr) (s2N : Nat) (s2C : Nat) (w : World) (R : Value → World → Prop) : Prop :=
  ((((s1N : Nat) : Int) != ((s2N : Nat) : Int)) = true →
  R (.bool false) w) ∧
  ((((s1N : Nat) : Int) != ((s2N : Nat) : Int)) = false →
  ∃ vI : Int → Nat → World → Prop, (∃ vk_2 : Nat, vI 0 vk_2 w) ∧
  ∀ (jk : Nat → Value) (x13 : Int), ∀ (vk : Nat) (w1 : World), vI x13 vk w1 →
  (decide (x13 < ((s1N : Nat) : Int)) = true →
  ∃ vS : World → Prop, ∀ w2 : World, w2 = w1.drew → vS w2 ∧
  (0 ≤ x13 ∧ x13 < ((s1N : Nat) : Int)) ∧ someV s1A fun p =>
  ∃ (x19 : Int), (∀ w3, vS w3 → w3.cell? (p.add (x13.toNat * 1)) = some (.int .i64 x19)) ∧
  (0 ≤ x13 ∧ x13 < ((s2N : Nat) : Int)) ∧ someV s2A fun p_1 =>
  ∃ (x23 : Int), (∀ w4, vS w4 → w4.cell? (p_1.add (x13.toNat * 1)) = some (.int .i64 x23)) ∧
  ((x19 != x23) = true →
  R (.bool false) w2) ∧
  ((x19 != x23) = false →
  ∃ vk_1 : Nat, vk_1 < vk ∧ vI (IntKind.i64.wrap (x13 + 1)) vk_1 w2)) ∧
  (decide (x13 < ((s1N : Nat) : Int)) = false →
  R (.bool true) w1))
theorem slices_Equal.vc_eq (s1A : Option Addr) (s1N : Nat) (s1C : Nat) (s2A : Option Addr) (s2N : Nat) (s2C : Nat) (w : World) (R : Value → World → Prop) : fnV Try.prog Try.f63 (.c .nil (.lp [(4, none), (5, none), (13, some (.int .i64)), (14, none), (15, none), (16, none), (17, none), (18, none), (19, none), (20, none), (21, none), (22, none), (23, none), (24, none), (25, none)] (.c (.tk 0 (.tk 1 (.tk 2 (.tk 3 (.tk 4 (.tk 5 (.tk 6 (.tk 7 (.tk 8 (.fin (.c .nil .nil))))))))))) .nil))) [(.slice s1A s1N s1C), (.slice s2A s2N s2C)] w R = slices_Equal.vc s1A s1N s1C s2A s2N s2C w R := by kernel_rfl
theorem slices_Equal.calls (s1A : Option Addr) (s1N : Nat) (s1C : Nat) (s2A : Option Addr) (s2N : Nat) (s2C : Nat) {w : World} {R : Value → World → Prop} (h : slices_Equal.vc s1A s1N s1C s2A s2N s2C w R) : Calls Try.prog 63 #[(.slice s1A s1N s1C), (.slice s2A s2N s2C)] w (Ret R) :=
  calls_V fit Try.func63 (.c .nil (.lp [(4, none), (5, none), (13, some (.int .i64)), (14, none), (15, none), (16, none), (17, none), (18, none), (19, none), (20, none), (21, none), (22, none), (23, none), (24, none), (25, none)] (.c (.tk 0 (.tk 1 (.tk 2 (.tk 3 (.tk 4 (.tk 5 (.tk 6 (.tk 7 (.tk 8 (.fin (.c .nil .nil))))))))))) .nil))) (by rw [show (#[(.slice s1A s1N s1C), (.slice s2A s2N s2C)] : Array Value).toList = [(.slice s1A s1N s1C), (.slice s2A s2N s2C)] from rfl, slices_Equal.vc_eq]; exact h)
/-- function 62 -/
def slices_EqualFunc.vc_sl (s1A : Option Addr) (s1N : Nat) (s1C : Nat) (s2A : Option Addr) (s2N : Nat) (s2C : Nat) (w : World) (R : Value → World → Prop) : Prop :=
  ((((s1N : Nat) : Int) != ((s2N : Nat) : Int)) = true →
  R (.bool false) w) ∧
  ((((s1N : Nat) : Int) != ((s2N : Nat) : Int)) = false →
  ∃ vI : Int → Nat → World → Prop, (∃ vk_2 : Nat, vI 0 vk_2 w) ∧
  ∀ (jk : Nat → Value) (x17 : Int), ∀ (vk : Nat) (w1 : World), vI x17 vk w1 →
  (decide (x17 < ((s1N : Nat) : Int)) = true →
  (0 ≤ x17 ∧ x17 < ((s1N : Nat) : Int)) ∧ someV s1A fun p =>
  ∃ (x21A : Option Addr), ∃ (x21N : Nat), ∃ (x21C : Nat), w1.cell? (p.add (x17.toNat * 1)) = some (.slice x21A x21N x21C) ∧
  (0 ≤ x17 ∧ x17 < ((s2N : Nat) : Int)) ∧ someV s2A fun p_1 =>
  ∃ (x25A : Option Addr), ∃ (x25N : Nat), ∃ (x25C : Nat), w1.cell? (p_1.add (x17.toNat * 1)) = some (.slice x25A x25N x25C) ∧
  Calls Try.prog 63 #[(.slice x21A x21N x21C), (.slice x25A x25N x25C)] w1 (Ret fun v w2 => ∃ (x29 : Bool), v = (.bool x29) ∧
  ((!x29) = true →
  R (.bool false) w2) ∧
  ((!x29) = false →
  ∃ vk_1 : Nat, vk_1 < vk ∧ vI (IntKind.i64.wrap (x17 + 1)) vk_1 w2))) ∧
  (decide (x17 < ((s1N : Nat) : Int)) = false →
  R (.bool true) w1))
theorem slices_EqualFunc.vc_sl_eq (s1A : Option Addr) (s1N : Nat) (s1C : Nat) (s2A : Option Addr) (s2N : Nat) (s2C : Nat) (w : World) (R : Value → World → Prop) : fnV Try.prog Try.f62 (.c .nil (.lp [(6, none), (7, none), (8, none), (9, none), (17, some (.int .i64)), (18, none), (19, none), (20, none), (21, none), (22, none), (23, none), (24, none), (25, none), (26, none), (27, none), (28, none), (29, none), (30, none), (31, none)] (.c (.c .nil .nil) .nil))) [(.slice s1A s1N s1C), (.slice s2A s2N s2C), (.func (.func 63) #[] #[])] w R = slices_EqualFunc.vc_sl s1A s1N s1C s2A s2N s2C w R := by kernel_rfl
theorem slices_EqualFunc.calls_sl (s1A : Option Addr) (s1N : Nat) (s1C : Nat) (s2A : Option Addr) (s2N : Nat) (s2C : Nat) {w : World} {R : Value → World → Prop} (h : slices_EqualFunc.vc_sl s1A s1N s1C s2A s2N s2C w R) : Calls Try.prog 62 #[(.slice s1A s1N s1C), (.slice s2A s2N s2C), (.func (.func 63) #[] #[])] w (Ret R) :=
  calls_V fit Try.func62 (.c .nil (.lp [(6, none), (7, none), (8, none), (9, none), (17, some (.int .i64)), (18, none), (19, none), (20, none), (21, none), (22, none), (23, none), (24, none), (25, none), (26, none), (27, none), (28, none), (29, none), (30, none), (31, none)] (.c (.c .nil .nil) .nil))) (by rw [show (#[(.slice s1A s1N s1C), (.slice s2A s2N s2C), (.func (.func 63) #[] #[])] : Array Value).toList = [(.slice s1A s1N s1C), (.slice s2A s2N s2C), (.func (.func 63) #[] #[])] from rfl, slices_EqualFunc.vc_sl_eq]; exact h)
/-- function 22 -/
def step_Same.vc (a0A : Option Addr) (a0N : Nat) (a0C : Nat) (a1A : Option Addr) (a1N : Nat) (a1C : Nat) (b0A : Option Addr) (b0N : Nat) (b0C : Nat) (b1A : Option Addr) (b1N : Nat) (b1C : Nat) (w : World) (R : Value → World → Prop) : Prop :=
  ∀ w1 : World, w1 = w.alloc (.cells #[(.slice a0A a0N a0C), (.slice a1A a1N a1C)] 35 (0, 0)) →
  ∀ w2 : World, w2 = w1.alloc (.cells #[(.slice b0A b0N b0C), (.slice b1A b1N b1C)] 35 (0, 0)) →
  ∃ (x6A : Option Addr), ∃ (x6N : Nat), ∃ (x6C : Nat), w2.cell? (⟨w.heap.size, 0, none⟩ : Addr) = some (.slice x6A x6N x6C) ∧
  ∃ (x8A : Option Addr), ∃ (x8N : Nat), ∃ (x8C : Nat), w2.cell? (⟨w1.heap.size, 0, none⟩ : Addr) = some (.slice x8A x8N x8C) ∧
  Calls Try.prog 62 #[(.slice x6A x6N x6C), (.slice x8A x8N x8C), (.func (.func 63) #[] #[])] w2 (Ret fun v w3 => ∃ (x9 : Bool), v = (.bool x9) ∧
  (x9 = true →
  ∃ (x12A : Option Addr), ∃ (x12N : Nat), ∃ (x12C : Nat), w3.cell? (⟨w.heap.size, 1, none⟩ : Addr) = some (.slice x12A x12N x12C) ∧
  ∃ (x14A : Option Addr), ∃ (x14N : Nat), ∃ (x14C : Nat), w3.cell? (⟨w1.heap.size, 1, none⟩ : Addr) = some (.slice x14A x14N x14C) ∧
  Calls Try.prog 62 #[(.slice x12A x12N x12C), (.slice x14A x14N x14C), (.func (.func 63) #[] #[])] w3 (Ret fun v_1 w4 => ∃ (x15 : Bool), v_1 = (.bool x15) ∧
  R (.bool x15) w4)) ∧
  (x9 = false →
  R (.bool false) w3))
theorem step_Same.vc_eq (a0A : Option Addr) (a0N : Nat) (a0C : Nat) (a1A : Option Addr) (a1N : Nat) (a1C : Nat) (b0A : Option Addr) (b0N : Nat) (b0C : Nat) (b1A : Option Addr) (b1N : Nat) (b1C : Nat) (w : World) (R : Value → World → Prop) : fnV Try.prog Try.f22 (.at_ 1 5 .nil .nil) [(.agg #[(.slice a0A a0N a0C), (.slice a1A a1N a1C)]), (.agg #[(.slice b0A b0N b0C), (.slice b1A b1N b1C)])] w R = step_Same.vc a0A a0N a0C a1A a1N a1C b0A b0N b0C b1A b1N b1C w R := by kernel_rfl
theorem step_Same.calls (a0A : Option Addr) (a0N : Nat) (a0C : Nat) (a1A : Option Addr) (a1N : Nat) (a1C : Nat) (b0A : Option Addr) (b0N : Nat) (b0C : Nat) (b1A : Option Addr) (b1N : Nat) (b1C : Nat) {w : World} {R : Value → World → Prop} (h : step_Same.vc a0A a0N a0C a1A a1N a1C b0A b0N b0C b1A b1N b1C w R) : Calls Try.prog 22 #[(.agg #[(.slice a0A a0N a0C), (.slice a1A a1N a1C)]), (.agg #[(.slice b0A b0N b0C), (.slice b1A b1N b1C)])] w (Ret R) :=
  calls_V fit Try.func22 (.at_ 1 5 .nil .nil) (by rw [show (#[(.agg #[(.slice a0A a0N a0C), (.slice a1A a1N a1C)]), (.agg #[(.slice b0A b0N b0C), (.slice b1A b1N b1C)])] : Array Value).toList = [(.agg #[(.slice a0A a0N a0C), (.slice a1A a1N a1C)]), (.agg #[(.slice b0A b0N b0C), (.slice b1A b1N b1C)])] from rfl, step_Same.vc_eq]; exact h)
end Go.Proofs.Ytpcddfhfchempaa.Vc
