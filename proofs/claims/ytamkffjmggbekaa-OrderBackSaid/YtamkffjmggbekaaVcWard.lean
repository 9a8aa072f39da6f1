import Derived.Test.YtamkffjmggbekaaVc
import Derived.Test.YtamkffjmggbekaaH
import Derived.Test.YtamkffjmggbekaaProg
import Derived.KernelRfl
set_option linter.unusedVariables false
set_option maxRecDepth 100000
namespace Go.Proofs.Ytamkffjmggbekaa.Vc
open Go Go.Proofs Go.Proofs.Ytamkffjmggbekaa.V
/-- function 54 -/
def slices_Clone.vc (sA : Option Addr) (sN : Nat) (sC : Nat) (w : World) (R : Value → World → Prop) : Prop :=
  (sA.isNone = true →
  R (.slice none 0 0) w) ∧
  (sA.isNone = false →
  ∀ w1 : World, w1 = w.alloc (.cells #[] 3 (0, 0)) →
  ∃ (x7A : Option Addr), ∃ (x7N : Nat), ∃ (x7C : Nat), ∃ w2 : World, (Builtin.append_ #[29, 29] 29 #[(.slice (some (⟨w.heap.size, 0, none⟩ : Addr)) 0 0), (.slice sA sN sC)]).run Try.prog w1 = .ok (.slice x7A x7N x7C) w2 ∧
  R (.slice x7A x7N x7C) w2)
theorem slices_Clone.vc_eq (sA : Option Addr) (sN : Nat) (sC : Nat) (w : World) (R : Value → World → Prop) : fnV Try.prog Try.f54 (.c .nil .nil) [(.slice sA sN sC)] w R = slices_Clone.vc sA sN sC w R := by kernel_rfl
theorem slices_Clone.calls (sA : Option Addr) (sN : Nat) (sC : Nat) {w : World} {R : Value → World → Prop} (h : slices_Clone.vc sA sN sC w R) : Calls Try.prog 54 #[(.slice sA sN sC)] w (Ret R) :=
  calls_V fit Try.func54 (.c .nil .nil) (by rw [show (#[(.slice sA sN sC)] : Array Value).toList = [(.slice sA sN sC)] from rfl, slices_Clone.vc_eq]; exact h)
/-- function 56 -/
def slices_Equal.vc (s1A : Option Addr) (s1N : Nat) (s1C : Nat) (s2A : Option Addr) (s2N : Nat) (s2C : Nat) (w : World) (R : Value → World → Prop) : Prop :=
  ((((s1N : Nat) : Int) != ((s2N : Nat) : Int)) = true →
  R (.bool false) w) ∧
  ((((s1N : Nat) : Int) != ((s2N : Nat) : Int)) = false →
  ∃ vI : Int → Nat → World → Prop, (∃ vk_2 : Nat, vI 0 vk_2 w) ∧
  ∀ (jk : Nat → Value) (x13 : Int), ∀ (vk : Nat) (w1 : World), vI x13 vk w1 →
  (decide (x13 < ((s1N : Nat) : Int)) = true →
  ∃ vS : World → Prop, ∀ w2 : World, w2 = w1.drew → vS w2 ∧
  (0 ≤ x13 ∧ x13 < ((s1N : Nat) : Int)) ∧ someV s1A fun p =>
  ∃ (x19 : Int), (∀ w3, vS w3 → w3.cell? (p.add (x13.toNat * 1)) = some (.int .i64 x19)) ∧
  (0 ≤ x13 ∧ x13 < ((s2N : Nat) : Int)) ∧ someV s2A fun p_1 =>
  ∃ (x23 : Int), (∀ w4, vS w4 → w4.cell? (p_1.add (x13.toNat * 1)) = some (.int .i64 x23)) ∧
  ((x19 != x23) = true →
  R (.bool false) w2) ∧
  ((x19 != x23) = false →
  ∃ vk_1 : Nat, vk_1 < vk ∧ vI (IntKind.i64.wrap (x13 + 1)) vk_1 w2)) ∧
  (decide (x13 < ((s1N : Nat) : Int)) = false →
  R (.bool true) w1))
theorem slices_Equal.vc_eq (s1A : Option Addr) (s1N : Nat) (s1C : Nat) (s2A : Option Addr) (s2N : Nat) (s2C : Nat) (w : World) (R : Value → World → Prop) : fnV Try.prog Try.f56 (.c .nil (.lp [(4, none), (5, none), (13, some (.int .i64)), (14, none), (15, none), (16, none), (17, none), (18, none), (19, none), (20, none), (21, none), (22, none), (23, none), (24, none), (25, none)] (.c (.tk 0 (.tk 1 (.tk 2 (.tk 3 (.tk 4 (.tk 5 (.tk 6 (.tk 7 (.tk 8 (.fin (.c .nil .nil))))))))))) .nil))) [(.slice s1A s1N s1C), (.slice s2A s2N s2C)] w R = slices_Equal.vc s1A s1N s1C s2A s2N s2C w R := by kernel_rfl
theorem slices_Equal.calls (s1A : Option Addr) (s1N : Nat) (s1C : Nat) (s2A : Option Addr) (s2N : Nat) (s2C : Nat) {w : World} {R : Value → World → Prop} (h : slices_Equal.vc s1A s1N s1C s2A s2N s2C w R) : Calls Try.prog 56 #[(.slice s1A s1N s1C), (.slice s2A s2N s2C)] w (Ret R) :=
  calls_V fit Try.func56 (.c .nil (.lp [(4, none), (5, none), (13, some (.int .i64)), (14, none), (15, none), (16, none), (17, none), (18, none), (19, none), (20, none), (21, none), (22, none), (23, none), (24, none), (25, none)] (.c (.tk 0 (.tk 1 (.tk 2 (.tk 3 (.tk 4 (.tk 5 (.tk 6 (.tk 7 (.tk 8 (.fin (.c .nil .nil))))))))))) .nil))) (by rw [show (#[(.slice s1A s1N s1C), (.slice s2A s2N s2C)] : Array Value).toList = [(.slice s1A s1N s1C), (.slice s2A s2N s2C)] from rfl, slices_Equal.vc_eq]; exact h)
/-- function 21 -/
def ward_Need.vc (a0 : Int) (a1 : Int) (a2A : Option Addr) (a2N : Nat) (a2C : Nat) (a3 : Int) (a4A : Option Addr) (a4N : Nat) (a4C : Nat) (w : World) (R : Value → World → Prop) : Prop :=
  ∀ w1 : World, w1 = w.alloc (.cells #[(.int .i64 a0), (.int .i64 a1), (.slice a2A a2N a2C), (.int .i64 a3), (.slice a4A a4N a4C)] 32 (0, 0)) →
  ∃ (x5 : Int), w1.cell? (⟨w.heap.size, 3, none⟩ : Addr) = some (.int .i64 x5) ∧
  (decide (x5 < (1 : Int)) = true →
  R (.int .i64 0) w1) ∧
  (decide (x5 < (1 : Int)) = false →
  ∃ (x9 : Int), w1.cell? (⟨w.heap.size, 3, none⟩ : Addr) = some (.int .i64 x9) ∧
  (decide (x9 > (32 : Int)) = true →
  R (.int .i64 0) w1) ∧
  (decide (x9 > (32 : Int)) = false →
  ∃ (x13A : Option Addr), ∃ (x13N : Nat), ∃ (x13C : Nat), w1.cell? (⟨w.heap.size, 2, none⟩ : Addr) = some (.slice x13A x13N x13C) ∧
  ∃ (x16 : Int), w1.cell? (⟨w.heap.size, 3, none⟩ : Addr) = some (.int .i64 x16) ∧
  (4 : Int) ≠ 0 ∧
  R (.int .i64 (IntKind.i64.wrap (Int.tdiv (IntKind.i64.wrap ((IntKind.i64.wrap ((IntKind.i64.wrap ((IntKind.i64.wrap (((x13N : Nat) : Int) + x16)) - 1)) + 4)) - 1)) 4))) w1))
theorem ward_Need.vc_eq (a0 : Int) (a1 : Int) (a2A : Option Addr) (a2N : Nat) (a2C : Nat) (a3 : Int) (a4A : Option Addr) (a4N : Nat) (a4C : Nat) (w : World) (R : Value → World → Prop) : fnV Try.prog Try.f21 (.at_ 1 3 (.k .nil) (.c .nil .nil)) [(.agg #[(.int .i64 a0), (.int .i64 a1), (.slice a2A a2N a2C), (.int .i64 a3), (.slice a4A a4N a4C)])] w R = ward_Need.vc a0 a1 a2A a2N a2C a3 a4A a4N a4C w R := by kernel_rfl
theorem ward_Need.calls (a0 : Int) (a1 : Int) (a2A : Option Addr) (a2N : Nat) (a2C : Nat) (a3 : Int) (a4A : Option Addr) (a4N : Nat) (a4C : Nat) {w : World} {R : Value → World → Prop} (h : ward_Need.vc a0 a1 a2A a2N a2C a3 a4A a4N a4C w R) : Calls Try.prog 21 #[(.agg #[(.int .i64 a0), (.int .i64 a1), (.slice a2A a2N a2C), (.int .i64 a3), (.slice a4A a4N a4C)])] w (Ret R) :=
  calls_V fit Try.func21 (.at_ 1 3 (.k .nil) (.c .nil .nil)) (by rw [show (#[(.agg #[(.int .i64 a0), (.int .i64 a1), (.slice a2A a2N a2C), (.int .i64 a3), (.slice a4A a4N a4C)])] : Array Value).toList = [(.agg #[(.int .i64 a0), (.int .i64 a1), (.slice a2A a2N a2C), (.int .i64 a3), (.slice a4A a4N a4C)])] from rfl, ward_Need.vc_eq]; exact h)
/-- function 13 -/
def ward_Copy.vc (a0 : Int) (a1 : Int) (a2A : Option Addr) (a2N : Nat) (a2C : Nat) (a3 : Int) (a4A : Option Addr) (a4N : Nat) (a4C : Nat) (w : World) (R : Value → World → Prop) : Prop :=
  ∀ w1 : World, w1 = w.alloc (.cells #[(.int .i64 a0), (.int .i64 a1), (.slice a2A a2N a2C), (.int .i64 a3), (.slice a4A a4N a4C)] 32 (0, 0)) →
  ∀ w2 : World, w2 = w1.alloc (.cells #[(.int .i64 0), (.int .i64 0), (.slice none 0 0), (.int .i64 0), (.slice none 0 0)] 32 (0, 0)) →
  ∃ J : World → Prop, (∃ vS : World → Prop, ∀ w3 : World, w3 = w2.drew → vS w3 ∧
  (∃ (x4A : Option Addr), ∃ (x4N : Nat), ∃ (x4C : Nat), w3.cell? (⟨w.heap.size, 2, none⟩ : Addr) = some (.slice x4A x4N x4C) ∧
  vS w3 ∧
  (Calls Try.prog 54 #[(.slice x4A x4N x4C)] w3 (Ret fun v w4 => ∃ (x5A : Option Addr), ∃ (x5N : Nat), ∃ (x5C : Nat), v = (.slice x5A x5N x5C) ∧
  vS w4 ∧
  ∃ (x7A : Option Addr), ∃ (x7N : Nat), ∃ (x7C : Nat), w4.cell? (⟨w.heap.size, 4, none⟩ : Addr) = some (.slice x7A x7N x7C) ∧
  vS w4 ∧
  Calls Try.prog 54 #[(.slice x7A x7N x7C)] w4 (Ret fun v_1 w5 => ∃ (x8A : Option Addr), ∃ (x8N : Nat), ∃ (x8C : Nat), v_1 = (.slice x8A x8N x8C) ∧
  vS w5 ∧
  (((∃ u, w5.cell? (⟨w.heap.size, 2, none⟩ : Addr) = some u) ∧ w5.frozen? (⟨w.heap.size, 2, none⟩ : Addr) = false)) ∧ ∀ w6 : World, w6 = (w5.setCell (⟨w.heap.size, 2, none⟩ : Addr) (.slice x5A x5N x5C)) →
  vS w6 ∧
  (((∃ u, w6.cell? (⟨w.heap.size, 4, none⟩ : Addr) = some u) ∧ w6.frozen? (⟨w.heap.size, 4, none⟩ : Addr) = false)) ∧ ∀ w7 : World, w7 = (w6.setCell (⟨w.heap.size, 4, none⟩ : Addr) (.slice x8A x8N x8C)) →
  vS w7 ∧
  J w7))) ∧ (∃ (x7A_1 : Option Addr), ∃ (x7N_1 : Nat), ∃ (x7C_1 : Nat), w3.cell? (⟨w.heap.size, 4, none⟩ : Addr) = some (.slice x7A_1 x7N_1 x7C_1) ∧
  vS w3 ∧
  Calls Try.prog 54 #[(.slice x4A x4N x4C)] w3 (Ret fun v_2 w8 => ∃ (x5A_1 : Option Addr), ∃ (x5N_1 : Nat), ∃ (x5C_1 : Nat), v_2 = (.slice x5A_1 x5N_1 x5C_1) ∧
  vS w8 ∧
  Calls Try.prog 54 #[(.slice x7A_1 x7N_1 x7C_1)] w8 (Ret fun v_3 w9 => ∃ (x8A_1 : Option Addr), ∃ (x8N_1 : Nat), ∃ (x8C_1 : Nat), v_3 = (.slice x8A_1 x8N_1 x8C_1) ∧
  vS w9 ∧
  (((∃ u, w9.cell? (⟨w.heap.size, 2, none⟩ : Addr) = some u) ∧ w9.frozen? (⟨w.heap.size, 2, none⟩ : Addr) = false)) ∧ ∀ w10 : World, w10 = (w9.setCell (⟨w.heap.size, 2, none⟩ : Addr) (.slice x5A_1 x5N_1 x5C_1)) →
  vS w10 ∧
  (((∃ u, w10.cell? (⟨w.heap.size, 4, none⟩ : Addr) = some u) ∧ w10.frozen? (⟨w.heap.size, 4, none⟩ : Addr) = false)) ∧ ∀ w11 : World, w11 = (w10.setCell (⟨w.heap.size, 4, none⟩ : Addr) (.slice x8A_1 x8N_1 x8C_1)) →
  vS w11 ∧
  J w11))) ∧ True) ∧ (∃ (x7A_2 : Option Addr), ∃ (x7N_2 : Nat), ∃ (x7C_2 : Nat), w3.cell? (⟨w.heap.size, 4, none⟩ : Addr) = some (.slice x7A_2 x7N_2 x7C_2) ∧
  vS w3 ∧
  ∃ (x4A_1 : Option Addr), ∃ (x4N_1 : Nat), ∃ (x4C_1 : Nat), w3.cell? (⟨w.heap.size, 2, none⟩ : Addr) = some (.slice x4A_1 x4N_1 x4C_1) ∧
  vS w3 ∧
  Calls Try.prog 54 #[(.slice x4A_1 x4N_1 x4C_1)] w3 (Ret fun v_4 w12 => ∃ (x5A_2 : Option Addr), ∃ (x5N_2 : Nat), ∃ (x5C_2 : Nat), v_4 = (.slice x5A_2 x5N_2 x5C_2) ∧
  vS w12 ∧
  Calls Try.prog 54 #[(.slice x7A_2 x7N_2 x7C_2)] w12 (Ret fun v_5 w13 => ∃ (x8A_2 : Option Addr), ∃ (x8N_2 : Nat), ∃ (x8C_2 : Nat), v_5 = (.slice x8A_2 x8N_2 x8C_2) ∧
  vS w13 ∧
  (((∃ u, w13.cell? (⟨w.heap.size, 2, none⟩ : Addr) = some u) ∧ w13.frozen? (⟨w.heap.size, 2, none⟩ : Addr) = false)) ∧ ∀ w14 : World, w14 = (w13.setCell (⟨w.heap.size, 2, none⟩ : Addr) (.slice x5A_2 x5N_2 x5C_2)) →
  vS w14 ∧
  (((∃ u, w14.cell? (⟨w.heap.size, 4, none⟩ : Addr) = some u) ∧ w14.frozen? (⟨w.heap.size, 4, none⟩ : Addr) = false)) ∧ ∀ w15 : World, w15 = (w14.setCell (⟨w.heap.size, 4, none⟩ : Addr) (.slice x8A_2 x8N_2 x8C_2)) →
  vS w15 ∧
  J w15))) ∧ True) ∧
  ∀ (jk : Nat → Value), ∀ w16 : World, J w16 →
  ∃ (x110 : Int), ∃ (x111 : Int), ∃ (x112A : Option Addr), ∃ (x112N : Nat), ∃ (x112C : Nat), ∃ (x113 : Int), ∃ (x114A : Option Addr), ∃ (x114N : Nat), ∃ (x114C : Nat), (w16.cell? (⟨w.heap.size, 0, none⟩ : Addr) = some (.int .i64 x110) ∧ w16.cell? (⟨w.heap.size, 1, none⟩ : Addr) = some (.int .i64 x111) ∧ w16.cell? (⟨w.heap.size, 2, none⟩ : Addr) = some (.slice x112A x112N x112C) ∧ w16.cell? (⟨w.heap.size, 3, none⟩ : Addr) = some (.int .i64 x113) ∧ w16.cell? (⟨w.heap.size, 4, none⟩ : Addr) = some (.slice x114A x114N x114C)) ∧
  (((∃ u, w16.cell? (⟨w1.heap.size, 0, none⟩ : Addr) = some u) ∧ w16.frozen? (⟨w1.heap.size, 0, none⟩ : Addr) = false) ∧ ((∃ u, w16.cell? (⟨w1.heap.size, 1, none⟩ : Addr) = some u) ∧ w16.frozen? (⟨w1.heap.size, 1, none⟩ : Addr) = false) ∧ ((∃ u, w16.cell? (⟨w1.heap.size, 2, none⟩ : Addr) = some u) ∧ w16.frozen? (⟨w1.heap.size, 2, none⟩ : Addr) = false) ∧ ((∃ u, w16.cell? (⟨w1.heap.size, 3, none⟩ : Addr) = some u) ∧ w16.frozen? (⟨w1.heap.size, 3, none⟩ : Addr) = false) ∧ ((∃ u, w16.cell? (⟨w1.heap.size, 4, none⟩ : Addr) = some u) ∧ w16.frozen? (⟨w1.heap.size, 4, none⟩ : Addr) = false)) ∧ ∀ w17 : World, w17 = (((((w16.setCell (⟨w1.heap.size, 0, none⟩ : Addr) (.int .i64 x110)).setCell (⟨w1.heap.size, 1, none⟩ : Addr) (.int .i64 x111)).setCell (⟨w1.heap.size, 2, none⟩ : Addr) (.slice x112A x112N x112C)).setCell (⟨w1.heap.size, 3, none⟩ : Addr) (.int .i64 x113)).setCell (⟨w1.heap.size, 4, none⟩ : Addr) (.slice x114A x114N x114C)) →
  ∃ (r00 : Int), ∃ (r01 : Int), ∃ (r02A : Option Addr), ∃ (r02N : Nat), ∃ (r02C : Nat), ∃ (r03 : Int), ∃ (r04A : Option Addr), ∃ (r04N : Nat), ∃ (r04C : Nat), (w17.cell? (⟨w1.heap.size, 0, none⟩ : Addr) = some (.int .i64 r00) ∧ w17.cell? (⟨w1.heap.size, 1, none⟩ : Addr) = some (.int .i64 r01) ∧ w17.cell? (⟨w1.heap.size, 2, none⟩ : Addr) = some (.slice r02A r02N r02C) ∧ w17.cell? (⟨w1.heap.size, 3, none⟩ : Addr) = some (.int .i64 r03) ∧ w17.cell? (⟨w1.heap.size, 4, none⟩ : Addr) = some (.slice r04A r04N r04C)) ∧
  R (.agg #[(.int .i64 r00), (.int .i64 r01), (.slice r02A r02N r02C), (.int .i64 r03), (.slice r04A r04N r04C)]) w17
theorem ward_Copy.vc_eq (a0 : Int) (a1 : Int) (a2A : Option Addr) (a2N : Nat) (a2C : Nat) (a3 : Int) (a4A : Option Addr) (a4N : Nat) (a4C : Nat) (w : World) (R : Value → World → Prop) : fnV Try.prog Try.f13 (.cut 1 [(3, none), (4, none), (5, none), (6, none), (7, none), (8, none), (9, none), (10, none)] (.tk 0 (.tk 3 (.alt 1 (.alt 2 (.alt 4 (.tk 6 (.alt 5 (.alt 7 (.tk 8 (.alt 9 (.fin .nil) .nil)) .nil) .nil)) .nil) (.alt 4 (.alt 2 (.tk 6 (.alt 5 (.alt 7 (.tk 8 (.alt 9 (.fin .nil) .nil)) .nil) .nil)) .nil) .nil)) (.alt 4 (.alt 1 (.alt 2 (.tk 6 (.alt 5 (.alt 7 (.tk 8 (.alt 9 (.fin .nil) .nil)) .nil) .nil)) .nil) .nil) .nil)))) .nil) [(.agg #[(.int .i64 a0), (.int .i64 a1), (.slice a2A a2N a2C), (.int .i64 a3), (.slice a4A a4N a4C)])] w R = ward_Copy.vc a0 a1 a2A a2N a2C a3 a4A a4N a4C w R := by kernel_rfl
theorem ward_Copy.calls (a0 : Int) (a1 : Int) (a2A : Option Addr) (a2N : Nat) (a2C : Nat) (a3 : Int) (a4A : Option Addr) (a4N : Nat) (a4C : Nat) {w : World} {R : Value → World → Prop} (h : ward_Copy.vc a0 a1 a2A a2N a2C a3 a4A a4N a4C w R) : Calls Try.prog 13 #[(.agg #[(.int .i64 a0), (.int .i64 a1), (.slice a2A a2N a2C), (.int .i64 a3), (.slice a4A a4N a4C)])] w (Ret R) :=
  calls_V fit Try.func13 (.cut 1 [(3, none), (4, none), (5, none), (6, none), (7, none), (8, none), (9, none), (10, none)] (.tk 0 (.tk 3 (.alt 1 (.alt 2 (.alt 4 (.tk 6 (.alt 5 (.alt 7 (.tk 8 (.alt 9 (.fin .nil) .nil)) .nil) .nil)) .nil) (.alt 4 (.alt 2 (.tk 6 (.alt 5 (.alt 7 (.tk 8 (.alt 9 (.fin .nil) .nil)) .nil) .nil)) .nil) .nil)) (.alt 4 (.alt 1 (.alt 2 (.tk 6 (.alt 5 (.alt 7 (.tk 8 (.alt 9 (.fin .nil) .nil)) .nil) .nil)) .nil) .nil) .nil)))) .nil) (by rw [show (#[(.agg #[(.int .i64 a0), (.int .i64 a1), (.slice a2A a2N a2C), (.int .i64 a3), (.slice a4A a4N a4C)])] : Array Value).toList = [(.agg #[(.int .i64 a0), (.int .i64 a1), (.slice a2A a2N a2C), (.int .i64 a3), (.slice a4A a4N a4C)])] from rfl, ward_Copy.vc_eq]; exact h)
/-- function 16 -/
def ward_Same.vc (a0 : Int) (a1 : Int) (a2A : Option Addr) (a2N : Nat) (a2C : Nat) (a3 : Int) (a4A : Option Addr) (a4N : Nat) (a4C : Nat) (b0 : Int) (b1 : Int) (b2A : Option Addr) (b2N : Nat) (b2C : Nat) (b3 : Int) (b4A : Option Addr) (b4N : Nat) (b4C : Nat) (w : World) (R : Value → World → Prop) : Prop :=
  ∀ w1 : World, w1 = w.alloc (.cells #[(.int .i64 a0), (.int .i64 a1), (.slice a2A a2N a2C), (.int .i64 a3), (.slice a4A a4N a4C)] 32 (0, 0)) →
  ∀ w2 : World, w2 = w1.alloc (.cells #[(.int .i64 b0), (.int .i64 b1), (.slice b2A b2N b2C), (.int .i64 b3), (.slice b4A b4N b4C)] 32 (0, 0)) →
  ∃ (x6 : Int), w2.cell? (⟨w.heap.size, 0, none⟩ : Addr) = some (.int .i64 x6) ∧
  ∃ (x8 : Int), w2.cell? (⟨w1.heap.size, 0, none⟩ : Addr) = some (.int .i64 x8) ∧
  ((x6 != x8) = true →
  R (.bool false) w2) ∧
  ((x6 != x8) = false →
  ∃ (x12 : Int), w2.cell? (⟨w.heap.size, 1, none⟩ : Addr) = some (.int .i64 x12) ∧
  ∃ (x14 : Int), w2.cell? (⟨w1.heap.size, 1, none⟩ : Addr) = some (.int .i64 x14) ∧
  ((x12 != x14) = true →
  R (.bool false) w2) ∧
  ((x12 != x14) = false →
  ∃ (x19 : Int), w2.cell? (⟨w.heap.size, 3, none⟩ : Addr) = some (.int .i64 x19) ∧
  ∃ (x21 : Int), w2.cell? (⟨w1.heap.size, 3, none⟩ : Addr) = some (.int .i64 x21) ∧
  ((x19 != x21) = true →
  R (.bool false) w2) ∧
  ((x19 != x21) = false →
  ∃ (x25A : Option Addr), ∃ (x25N : Nat), ∃ (x25C : Nat), w2.cell? (⟨w.heap.size, 2, none⟩ : Addr) = some (.slice x25A x25N x25C) ∧
  ∃ (x27A : Option Addr), ∃ (x27N : Nat), ∃ (x27C : Nat), w2.cell? (⟨w1.heap.size, 2, none⟩ : Addr) = some (.slice x27A x27N x27C) ∧
  Calls Try.prog 56 #[(.slice x25A x25N x25C), (.slice x27A x27N x27C)] w2 (Ret fun v w3 => ∃ (x28 : Bool), v = (.bool x28) ∧
  (x28 = true →
  ∃ (x31A : Option Addr), ∃ (x31N : Nat), ∃ (x31C : Nat), w3.cell? (⟨w.heap.size, 4, none⟩ : Addr) = some (.slice x31A x31N x31C) ∧
  ∃ (x33A : Option Addr), ∃ (x33N : Nat), ∃ (x33C : Nat), w3.cell? (⟨w1.heap.size, 4, none⟩ : Addr) = some (.slice x33A x33N x33C) ∧
  Calls Try.prog 56 #[(.slice x31A x31N x31C), (.slice x33A x33N x33C)] w3 (Ret fun v_1 w4 => ∃ (x34 : Bool), v_1 = (.bool x34) ∧
  R (.bool x34) w4)) ∧
  (x28 = false →
  R (.bool false) w3)))))
theorem ward_Same.vc_eq (a0 : Int) (a1 : Int) (a2A : Option Addr) (a2N : Nat) (a2C : Nat) (a3 : Int) (a4A : Option Addr) (a4N : Nat) (a4C : Nat) (b0 : Int) (b1 : Int) (b2A : Option Addr) (b2N : Nat) (b2C : Nat) (b3 : Int) (b4A : Option Addr) (b4N : Nat) (b4C : Nat) (w : World) (R : Value → World → Prop) : fnV Try.prog Try.f16 (.at_ 1 5 (.k .nil) (.at_ 1 12 (.k .nil) (.c .nil (.at_ 3 5 .nil .nil)))) [(.agg #[(.int .i64 a0), (.int .i64 a1), (.slice a2A a2N a2C), (.int .i64 a3), (.slice a4A a4N a4C)]), (.agg #[(.int .i64 b0), (.int .i64 b1), (.slice b2A b2N b2C), (.int .i64 b3), (.slice b4A b4N b4C)])] w R = ward_Same.vc a0 a1 a2A a2N a2C a3 a4A a4N a4C b0 b1 b2A b2N b2C b3 b4A b4N b4C w R := by kernel_rfl
theorem ward_Same.calls (a0 : Int) (a1 : Int) (a2A : Option Addr) (a2N : Nat) (a2C : Nat) (a3 : Int) (a4A : Option Addr) (a4N : Nat) (a4C : Nat) (b0 : Int) (b1 : Int) (b2A : Option Addr) (b2N : Nat) (b2C : Nat) (b3 : Int) (b4A : Option Addr) (b4N : Nat) (b4C : Nat) {w : World} {R : Value → World → Prop} (h : ward_Same.vc a0 a1 a2A a2N a2C a3 a4A a4N a4C b0 b1 b2A b2N b2C b3 b4A b4N b4C w R) : Calls Try.prog 16 #[(.agg #[(.int .i64 a0), (.int .i64 a1), (.slice a2A a2N a2C), (.int .i64 a3), (.slice a4A a4N a4C)]), (.agg #[(.int .i64 b0), (.int .i64 b1), (.slice b2A b2N b2C), (.int .i64 b3), (.slice b4A b4N b4C)])] w (Ret R) :=
  calls_V fit Try.func16 (.at_ 1 5 (.k .nil) (.at_ 1 12 (.k .nil) (.c .nil (.at_ 3 5 .nil .nil)))) (by rw [show (#[(.agg #[(.int .i64 a0), (.int .i64 a1), (.slice a2A a2N a2C), (.int .i64 a3), (.slice a4A a4N a4C)]), (.agg #[(.int .i64 b0), (.int .i64 b1), (.slice b2A b2N b2C), (.int .i64 b3), (.slice b4A b4N b4C)])] : Array Value).toList = [(.agg #[(.int .i64 a0), (.int .i64 a1), (.slice a2A a2N a2C), (.int .i64 a3), (.slice a4A a4N a4C)]), (.agg #[(.int .i64 b0), (.int .i64 b1), (.slice b2A b2N b2C), (.int .i64 b3), (.slice b4A b4N b4C)])] from rfl, ward_Same.vc_eq]; exact h)
/-- function 10 -/
def ward_New.vc (pages : Int) (w : World) (R : Value → World → Prop) : Prop :=
  (decide (pages < (1 : Int)) = true →
  R (.pointer none) w) ∧
  (decide (pages < (1 : Int)) = false →
  (decide (pages > (64 : Int)) = true →
  R (.pointer none) w) ∧
  (decide (pages > (64 : Int)) = false →
  ∀ w1 : World, w1 = w.alloc (.cells #[(.int .i64 pages), (.slice none 0 0)] 96 (0, 0)) →
  R (.pointer (some (⟨w.heap.size, 0, none⟩ : Addr))) w1))
theorem ward_New.vc_eq (pages : Int) (w : World) (R : Value → World → Prop) : fnV Try.prog Try.f10 (.at_ 1 2 (.k .nil) (.c .nil .nil)) [(.int .i64 pages)] w R = ward_New.vc pages w R := by kernel_rfl
theorem ward_New.calls (pages : Int) {w : World} {R : Value → World → Prop} (h : ward_New.vc pages w R) : Calls Try.prog 10 #[(.int .i64 pages)] w (Ret R) :=
  calls_V fit Try.func10 (.at_ 1 2 (.k .nil) (.c .nil .nil)) (by rw [show (#[(.int .i64 pages)] : Array Value).toList = [(.int .i64 pages)] from rfl, ward_New.vc_eq]; exact h)
/-- function 89 -/
def ward_Ward_at_c1.vc (a0 : Int) (a1 : Int) (a2A : Option Addr) (a2N : Nat) (a2C : Nat) (a3 : Int) (a4A : Option Addr) (a4N : Nat) (a4C : Nat) (c0B : Nat) (w : World) (R : Value → World → Prop) : Prop :=
  ∀ w1 : World, w1 = w.alloc (.cells #[(.int .i64 a0), (.int .i64 a1), (.slice a2A a2N a2C), (.int .i64 a3), (.slice a4A a4N a4C)] 32 (0, 0)) →
  ∃ (x5 : Int), w1.cell? (⟨w.heap.size, 0, none⟩ : Addr) = some (.int .i64 x5) ∧
  ∃ (x6 : Int), w1.cell? (⟨c0B, 0, none⟩ : Addr) = some (.int .i64 x6) ∧
  R (.bool (x5 == x6)) w1
theorem ward_Ward_at_c1.vc_eq (a0 : Int) (a1 : Int) (a2A : Option Addr) (a2N : Nat) (a2C : Nat) (a3 : Int) (a4A : Option Addr) (a4N : Nat) (a4C : Nat) (c0B : Nat) (w : World) (R : Value → World → Prop) : fnV Try.prog Try.f89 .nil [(.agg #[(.int .i64 a0), (.int .i64 a1), (.slice a2A a2N a2C), (.int .i64 a3), (.slice a4A a4N a4C)]), (.pointer (some (⟨c0B, 0, none⟩ : Addr)))] w R = ward_Ward_at_c1.vc a0 a1 a2A a2N a2C a3 a4A a4N a4C c0B w R := by kernel_rfl
theorem ward_Ward_at_c1.calls (a0 : Int) (a1 : Int) (a2A : Option Addr) (a2N : Nat) (a2C : Nat) (a3 : Int) (a4A : Option Addr) (a4N : Nat) (a4C : Nat) (c0B : Nat) {w : World} {R : Value → World → Prop} (h : ward_Ward_at_c1.vc a0 a1 a2A a2N a2C a3 a4A a4N a4C c0B w R) : Calls Try.prog 89 #[(.agg #[(.int .i64 a0), (.int .i64 a1), (.slice a2A a2N a2C), (.int .i64 a3), (.slice a4A a4N a4C)]), (.pointer (some (⟨c0B, 0, none⟩ : Addr)))] w (Ret R) :=
  calls_V fit Try.func89 .nil (by rw [show (#[(.agg #[(.int .i64 a0), (.int .i64 a1), (.slice a2A a2N a2C), (.int .i64 a3), (.slice a4A a4N a4C)]), (.pointer (some (⟨c0B, 0, none⟩ : Addr)))] : Array Value).toList = [(.agg #[(.int .i64 a0), (.int .i64 a1), (.slice a2A a2N a2C), (.int .i64 a3), (.slice a4A a4N a4C)]), (.pointer (some (⟨c0B, 0, none⟩ : Addr)))] from rfl, ward_Ward_at_c1.vc_eq]; exact h)
/-- function 88 -/
def slices_IndexFunc.vc_at (sA : Option Addr) (sN : Nat) (sC : Nat) (c0B : Nat) (w : World) (R : Value → World → Prop) : Prop :=
  ∃ vI : Int → Nat → World → Prop, (∃ vk_2 : Nat, vI 0 vk_2 w) ∧
  ∀ (jk : Nat → Value) (x8 : Int), ∀ (vk : Nat) (w1 : World), vI x8 vk w1 →
  (decide (x8 < ((sN : Nat) : Int)) = true →
  (0 ≤ x8 ∧ x8 < ((sN : Nat) : Int)) ∧ someV sA fun p =>
  ∃ (x150 : Int), ∃ (x151 : Int), ∃ (x152A : Option Addr), ∃ (x152N : Nat), ∃ (x152C : Nat), ∃ (x153 : Int), ∃ (x154A : Option Addr), ∃ (x154N : Nat), ∃ (x154C : Nat), (w1.cell? (p.add (x8.toNat * 5)) = some (.int .i64 x150) ∧ w1.cell? ((p.add (x8.toNat * 5)).add 1) = some (.int .i64 x151) ∧ w1.cell? ((p.add (x8.toNat * 5)).add 2) = some (.slice x152A x152N x152C) ∧ w1.cell? ((p.add (x8.toNat * 5)).add 3) = some (.int .i64 x153) ∧ w1.cell? ((p.add (x8.toNat * 5)).add 4) = some (.slice x154A x154N x154C)) ∧
  Calls Try.prog 89 #[(.agg #[(.int .i64 x150), (.int .i64 x151), (.slice x152A x152N x152C), (.int .i64 x153), (.slice x154A x154N x154C)]), (.pointer (some (⟨c0B, 0, none⟩ : Addr)))] w1 (Ret fun v w2 => ∃ (x16 : Bool), v = (.bool x16) ∧
  (x16 = true →
  R (.int .i64 x8) w2) ∧
  (x16 = false →
  ∃ vk_1 : Nat, vk_1 < vk ∧ vI (IntKind.i64.wrap (x8 + 1)) vk_1 w2))) ∧
  (decide (x8 < ((sN : Nat) : Int)) = false →
  R (.int .i64 (-1)) w1)
theorem slices_IndexFunc.vc_at_eq (sA : Option Addr) (sN : Nat) (sC : Nat) (c0B : Nat) (w : World) (R : Value → World → Prop) : fnV Try.prog Try.f88 (.lp [(4, none), (5, none), (8, some (.int .i64)), (9, none), (10, none), (11, none), (12, none), (13, none), (14, none), (15, none), (16, none), (17, none), (18, none)] (.c (.c .nil .nil) .nil)) [(.slice sA sN sC), (.func (.func 89) #[] #[(.pointer (some (⟨c0B, 0, none⟩ : Addr)))])] w R = slices_IndexFunc.vc_at sA sN sC c0B w R := by kernel_rfl
theorem slices_IndexFunc.calls_at (sA : Option Addr) (sN : Nat) (sC : Nat) (c0B : Nat) {w : World} {R : Value → World → Prop} (h : slices_IndexFunc.vc_at sA sN sC c0B w R) : Calls Try.prog 88 #[(.slice sA sN sC), (.func (.func 89) #[] #[(.pointer (some (⟨c0B, 0, none⟩ : Addr)))])] w (Ret R) :=
  calls_V fit Try.func88 (.lp [(4, none), (5, none), (8, some (.int .i64)), (9, none), (10, none), (11, none), (12, none), (13, none), (14, none), (15, none), (16, none), (17, none), (18, none)] (.c (.c .nil .nil) .nil)) (by rw [show (#[(.slice sA sN sC), (.func (.func 89) #[] #[(.pointer (some (⟨c0B, 0, none⟩ : Addr)))])] : Array Value).toList = [(.slice sA sN sC), (.func (.func 89) #[] #[(.pointer (some (⟨c0B, 0, none⟩ : Addr)))])] from rfl, slices_IndexFunc.vc_at_eq]; exact h)
/-- function 52 -/
def ward_Ward_at.vc (wB : Nat) (id : Int) (w : World) (R : Value → World → Prop) : Prop :=
  ∀ w1 : World, w1 = w.alloc (.cells #[(.int .i64 id)] 3 (0, 0)) →
  ∃ (x8A : Option Addr), ∃ (x8N : Nat), ∃ (x8C : Nat), w1.cell? (⟨wB, 1, none⟩ : Addr) = some (.slice x8A x8N x8C) ∧
  Calls Try.prog 88 #[(.slice x8A x8N x8C), (.func (.func 89) #[] #[(.pointer (some (⟨w.heap.size, 0, none⟩ : Addr)))])] w1 (Ret fun v w2 => ∃ (x10 : Int), v = (.int .i64 x10) ∧
  R (.int .i64 x10) w2)
theorem ward_Ward_at.vc_eq (wB : Nat) (id : Int) (w : World) (R : Value → World → Prop) : fnV Try.prog Try.f52 .nil [(.pointer (some (⟨wB, 0, none⟩ : Addr))), (.int .i64 id)] w R = ward_Ward_at.vc wB id w R := by kernel_rfl
theorem ward_Ward_at.calls (wB : Nat) (id : Int) {w : World} {R : Value → World → Prop} (h : ward_Ward_at.vc wB id w R) : Calls Try.prog 52 #[(.pointer (some (⟨wB, 0, none⟩ : Addr))), (.int .i64 id)] w (Ret R) :=
  calls_V fit Try.func52 .nil (by rw [show (#[(.pointer (some (⟨wB, 0, none⟩ : Addr))), (.int .i64 id)] : Array Value).toList = [(.pointer (some (⟨wB, 0, none⟩ : Addr))), (.int .i64 id)] from rfl, ward_Ward_at.vc_eq]; exact h)
/-- function 91 -/
def gen_Check_c1.vc (n : Int) (c0B : Nat) (w : World) (R : Value → World → Prop) : Prop :=
  (decide (n < (0 : Int)) = true →
  R (.bool true) w) ∧
  (decide (n < (0 : Int)) = false →
  ∃ (x8 : Option Addr), w.cell? (⟨c0B, 0, none⟩ : Addr) = some (.pointer x8) ∧
  someV x8 fun p =>
  ∃ (x13 : Int), w.cell? p = some (.int .i64 x13) ∧
  R (.bool (decide (n ≥ x13))) w)
theorem gen_Check_c1.vc_eq (n : Int) (c0B : Nat) (w : World) (R : Value → World → Prop) : fnV Try.prog Try.f91 (.at_ 1 2 .nil .nil) [(.int .i64 n), (.pointer (some (⟨c0B, 0, none⟩ : Addr)))] w R = gen_Check_c1.vc n c0B w R := by kernel_rfl
theorem gen_Check_c1.calls (n : Int) (c0B : Nat) {w : World} {R : Value → World → Prop} (h : gen_Check_c1.vc n c0B w R) : Calls Try.prog 91 #[(.int .i64 n), (.pointer (some (⟨c0B, 0, none⟩ : Addr)))] w (Ret R) :=
  calls_V fit Try.func91 (.at_ 1 2 .nil .nil) (by rw [show (#[(.int .i64 n), (.pointer (some (⟨c0B, 0, none⟩ : Addr)))] : Array Value).toList = [(.int .i64 n), (.pointer (some (⟨c0B, 0, none⟩ : Addr)))] from rfl, gen_Check_c1.vc_eq]; exact h)
/-- function 107 -/
def slices_IndexFunc.vc_ck (sA : Option Addr) (sN : Nat) (sC : Nat) (c0B : Nat) (w : World) (R : Value → World → Prop) : Prop :=
  ∃ vI : Int → Nat → World → Prop, (∃ vk_2 : Nat, vI 0 vk_2 w) ∧
  ∀ (jk : Nat → Value) (x8 : Int), ∀ (vk : Nat) (w1 : World), vI x8 vk w1 →
  (decide (x8 < ((sN : Nat) : Int)) = true →
  (0 ≤ x8 ∧ x8 < ((sN : Nat) : Int)) ∧ someV sA fun p =>
  ∃ (x15 : Int), w1.cell? (p.add (x8.toNat * 1)) = some (.int .i64 x15) ∧
  Calls Try.prog 91 #[(.int .i64 x15), (.pointer (some (⟨c0B, 0, none⟩ : Addr)))] w1 (Ret fun v w2 => ∃ (x16 : Bool), v = (.bool x16) ∧
  (x16 = true →
  R (.int .i64 x8) w2) ∧
  (x16 = false →
  ∃ vk_1 : Nat, vk_1 < vk ∧ vI (IntKind.i64.wrap (x8 + 1)) vk_1 w2))) ∧
  (decide (x8 < ((sN : Nat) : Int)) = false →
  R (.int .i64 (-1)) w1)
theorem slices_IndexFunc.vc_ck_eq (sA : Option Addr) (sN : Nat) (sC : Nat) (c0B : Nat) (w : World) (R : Value → World → Prop) : fnV Try.prog Try.f107 (.lp [(4, none), (5, none), (8, some (.int .i64)), (9, none), (10, none), (11, none), (12, none), (13, none), (14, none), (15, none), (16, none), (17, none), (18, none)] (.c (.c .nil .nil) .nil)) [(.slice sA sN sC), (.func (.func 91) #[] #[(.pointer (some (⟨c0B, 0, none⟩ : Addr)))])] w R = slices_IndexFunc.vc_ck sA sN sC c0B w R := by kernel_rfl
theorem slices_IndexFunc.calls_ck (sA : Option Addr) (sN : Nat) (sC : Nat) (c0B : Nat) {w : World} {R : Value → World → Prop} (h : slices_IndexFunc.vc_ck sA sN sC c0B w R) : Calls Try.prog 107 #[(.slice sA sN sC), (.func (.func 91) #[] #[(.pointer (some (⟨c0B, 0, none⟩ : Addr)))])] w (Ret R) :=
  calls_V fit Try.func107 (.lp [(4, none), (5, none), (8, some (.int .i64)), (9, none), (10, none), (11, none), (12, none), (13, none), (14, none), (15, none), (16, none), (17, none), (18, none)] (.c (.c .nil .nil) .nil)) (by rw [show (#[(.slice sA sN sC), (.func (.func 91) #[] #[(.pointer (some (⟨c0B, 0, none⟩ : Addr)))])] : Array Value).toList = [(.slice sA sN sC), (.func (.func 91) #[] #[(.pointer (some (⟨c0B, 0, none⟩ : Addr)))])] from rfl, slices_IndexFunc.vc_ck_eq]; exact h)
/-- function 90 -/
def slices_ContainsFunc.vc_ck (sA : Option Addr) (sN : Nat) (sC : Nat) (c0B : Nat) (w : World) (R : Value → World → Prop) : Prop :=
  Calls Try.prog 107 #[(.slice sA sN sC), (.func (.func 91) #[] #[(.pointer (some (⟨c0B, 0, none⟩ : Addr)))])] w (Ret fun v w1 => ∃ (x7 : Int), v = (.int .i64 x7) ∧
  R (.bool (decide (x7 ≥ (0 : Int)))) w1)
theorem slices_ContainsFunc.vc_ck_eq (sA : Option Addr) (sN : Nat) (sC : Nat) (c0B : Nat) (w : World) (R : Value → World → Prop) : fnV Try.prog Try.f90 .nil [(.slice sA sN sC), (.func (.func 91) #[] #[(.pointer (some (⟨c0B, 0, none⟩ : Addr)))])] w R = slices_ContainsFunc.vc_ck sA sN sC c0B w R := by kernel_rfl
theorem slices_ContainsFunc.calls_ck (sA : Option Addr) (sN : Nat) (sC : Nat) (c0B : Nat) {w : World} {R : Value → World → Prop} (h : slices_ContainsFunc.vc_ck sA sN sC c0B w R) : Calls Try.prog 90 #[(.slice sA sN sC), (.func (.func 91) #[] #[(.pointer (some (⟨c0B, 0, none⟩ : Addr)))])] w (Ret R) :=
  calls_V fit Try.func90 .nil (by rw [show (#[(.slice sA sN sC), (.func (.func 91) #[] #[(.pointer (some (⟨c0B, 0, none⟩ : Addr)))])] : Array Value).toList = [(.slice sA sN sC), (.func (.func 91) #[] #[(.pointer (some (⟨c0B, 0, none⟩ : Addr)))])] from rfl, slices_ContainsFunc.vc_ck_eq]; exact h)
/-- function 53 -/
def gen_Check.vc (bB : Nat) (most : Int) (promptA : Option Addr) (promptN : Nat) (promptC : Nat) (w : World) (R : Value → World → Prop) : Prop :=
  ∀ w1 : World, w1 = w.alloc (.cells #[(.pointer (some (⟨bB, 0, none⟩ : Addr)))] 26 (0, 0)) →
  ∃ (x8 : Option Addr), w1.cell? (⟨w.heap.size, 0, none⟩ : Addr) = some (.pointer x8) ∧
  (x8.isNone = true →
  R (.int .i64 2) w1) ∧
  (x8.isNone = false →
  ((((promptN : Nat) : Int) == (0 : Int)) = true →
  R (.int .i64 1) w1) ∧
  ((((promptN : Nat) : Int) == (0 : Int)) = false →
  (decide (most < (1 : Int)) = true →
  R (.int .i64 1) w1) ∧
  (decide (most < (1 : Int)) = false →
  (decide (most > (32 : Int)) = true →
  R (.int .i64 1) w1) ∧
  (decide (most > (32 : Int)) = false →
  Calls Try.prog 90 #[(.slice promptA promptN promptC), (.func (.func 91) #[] #[(.pointer (some (⟨w.heap.size, 0, none⟩ : Addr)))])] w1 (Ret fun v w2 => ∃ (x25 : Bool), v = (.bool x25) ∧
  (x25 = true →
  R (.int .i64 3) w2) ∧
  (x25 = false →
  ∃ (x31 : Option Addr), w2.cell? (⟨w.heap.size, 0, none⟩ : Addr) = some (.pointer x31) ∧
  someV x31 fun p =>
  ∃ (x36 : Int), w2.cell? (p.add 5) = some (.int .i64 x36) ∧
  (decide ((IntKind.i64.wrap (((promptN : Nat) : Int) + most)) > x36) = true →
  R (.int .i64 12) w2) ∧
  (decide ((IntKind.i64.wrap (((promptN : Nat) : Int) + most)) > x36) = false →
  R (.int .i64 0) w2)))))))
theorem gen_Check.vc_eq (bB : Nat) (most : Int) (promptA : Option Addr) (promptN : Nat) (promptC : Nat) (w : World) (R : Value → World → Prop) : fnV Try.prog Try.f53 (.c .nil (.at_ 3 3 (.k .nil) (.at_ 3 7 (.k .nil) (.c .nil (.c .nil (.c .nil .nil)))))) [(.pointer (some (⟨bB, 0, none⟩ : Addr))), (.int .i64 most), (.slice promptA promptN promptC)] w R = gen_Check.vc bB most promptA promptN promptC w R := by kernel_rfl
theorem gen_Check.calls (bB : Nat) (most : Int) (promptA : Option Addr) (promptN : Nat) (promptC : Nat) {w : World} {R : Value → World → Prop} (h : gen_Check.vc bB most promptA promptN promptC w R) : Calls Try.prog 53 #[(.pointer (some (⟨bB, 0, none⟩ : Addr))), (.int .i64 most), (.slice promptA promptN promptC)] w (Ret R) :=
  calls_V fit Try.func53 (.c .nil (.at_ 3 3 (.k .nil) (.at_ 3 7 (.k .nil) (.c .nil (.c .nil (.c .nil .nil)))))) (by rw [show (#[(.pointer (some (⟨bB, 0, none⟩ : Addr))), (.int .i64 most), (.slice promptA promptN promptC)] : Array Value).toList = [(.pointer (some (⟨bB, 0, none⟩ : Addr))), (.int .i64 most), (.slice promptA promptN promptC)] from rfl, gen_Check.vc_eq]; exact h)
/-- function 12 -/
def ward_Ward_Submit.vc (wB : Nat) (bB : Nat) (a0 : Int) (a1 : Int) (a2A : Option Addr) (a2N : Nat) (a2C : Nat) (a3 : Int) (a4A : Option Addr) (a4N : Nat) (a4C : Nat) (w : World) (R : Value → World → Prop) : Prop :=
  ∀ w1 : World, w1 = w.alloc (.cells #[(.int .i64 a0), (.int .i64 a1), (.slice a2A a2N a2C), (.int .i64 a3), (.slice a4A a4N a4C)] 32 (0, 0)) →
  ∃ (x17 : Int), w1.cell? (⟨w.heap.size, 0, none⟩ : Addr) = some (.int .i64 x17) ∧
  (decide (x17 < (1 : Int)) = true →
  R (.int .i64 1) w1) ∧
  (decide (x17 < (1 : Int)) = false →
  ∃ (x21 : Int), w1.cell? (⟨w.heap.size, 0, none⟩ : Addr) = some (.int .i64 x21) ∧
  (decide (x21 > (2147483647 : Int)) = true →
  R (.int .i64 1) w1) ∧
  (decide (x21 > (2147483647 : Int)) = false →
  ∃ (x26A : Option Addr), ∃ (x26N : Nat), ∃ (x26C : Nat), w1.cell? (⟨w.heap.size, 4, none⟩ : Addr) = some (.slice x26A x26N x26C) ∧
  (decide (((x26N : Nat) : Int) > (32 : Int)) = true →
  R (.int .i64 1) w1) ∧
  (decide (((x26N : Nat) : Int) > (32 : Int)) = false →
  ∃ (x33 : Int), w1.cell? (⟨w.heap.size, 0, none⟩ : Addr) = some (.int .i64 x33) ∧
  Calls Try.prog 52 #[(.pointer (some (⟨wB, 0, none⟩ : Addr))), (.int .i64 x33)] w1 (Ret fun v w2 => ∃ (x34 : Int), v = (.int .i64 x34) ∧
  (decide (x34 ≥ (0 : Int)) = true →
  R (.int .i64 9) w2) ∧
  (decide (x34 ≥ (0 : Int)) = false →
  ∃ (x38 : Int), w2.cell? (⟨w.heap.size, 3, none⟩ : Addr) = some (.int .i64 x38) ∧
  ∃ (x40A : Option Addr), ∃ (x40N : Nat), ∃ (x40C : Nat), w2.cell? (⟨w.heap.size, 2, none⟩ : Addr) = some (.slice x40A x40N x40C) ∧
  Calls Try.prog 53 #[(.pointer (some (⟨bB, 0, none⟩ : Addr))), (.int .i64 x38), (.slice x40A x40N x40C)] w2 (Ret fun v_1 w3 => ∃ (x41 : Int), v_1 = (.int .i64 x41) ∧
  ((x41 != (0 : Int)) = true →
  R (.int .i64 x41) w3) ∧
  ((x41 != (0 : Int)) = false →
  ∃ vS : World → Prop, ∀ w4 : World, w4 = w3.drew → vS w4 ∧
  ∃ (x460 : Int), ∃ (x461 : Int), ∃ (x462A : Option Addr), ∃ (x462N : Nat), ∃ (x462C : Nat), ∃ (x463 : Int), ∃ (x464A : Option Addr), ∃ (x464N : Nat), ∃ (x464C : Nat), ((∀ w5, vS w5 → w5.cell? (⟨w.heap.size, 0, none⟩ : Addr) = some (.int .i64 x460)) ∧ (∀ w5, vS w5 → w5.cell? (⟨w.heap.size, 1, none⟩ : Addr) = some (.int .i64 x461)) ∧ (∀ w5, vS w5 → w5.cell? (⟨w.heap.size, 2, none⟩ : Addr) = some (.slice x462A x462N x462C)) ∧ (∀ w5, vS w5 → w5.cell? (⟨w.heap.size, 3, none⟩ : Addr) = some (.int .i64 x463)) ∧ (∀ w5, vS w5 → w5.cell? (⟨w.heap.size, 4, none⟩ : Addr) = some (.slice x464A x464N x464C))) ∧
  ∃ (x51 : Int), (∀ w6, vS w6 → w6.cell? (⟨wB, 0, none⟩ : Addr) = some (.int .i64 x51)) ∧
  Calls Try.prog 21 #[(.agg #[(.int .i64 x460), (.int .i64 x461), (.slice x462A x462N x462C), (.int .i64 x463), (.slice x464A x464N x464C)])] w4 (Ret fun v_2 w7 => ∃ (x47 : Int), v_2 = (.int .i64 x47) ∧
  vS w7 ∧
  (decide (x47 > x51) = true →
  R (.int .i64 11) w7) ∧
  (decide (x47 > x51) = false →
  ∃ (x57A : Option Addr), ∃ (x57N : Nat), ∃ (x57C : Nat), w7.cell? (⟨wB, 1, none⟩ : Addr) = some (.slice x57A x57N x57C) ∧
  (decide (((x57N : Nat) : Int) ≥ (16 : Int)) = true →
  R (.int .i64 10) w7) ∧
  (decide (((x57N : Nat) : Int) ≥ (16 : Int)) = false →
  ∃ vS_1 : World → Prop, ∀ w8 : World, w8 = w7.drew → vS_1 w8 ∧
  ∃ (x64A : Option Addr), ∃ (x64N : Nat), ∃ (x64C : Nat), (∀ w9, vS_1 w9 → w9.cell? (⟨wB, 1, none⟩ : Addr) = some (.slice x64A x64N x64C)) ∧
  ∃ (x650 : Int), ∃ (x651 : Int), ∃ (x652A : Option Addr), ∃ (x652N : Nat), ∃ (x652C : Nat), ∃ (x653 : Int), ∃ (x654A : Option Addr), ∃ (x654N : Nat), ∃ (x654C : Nat), ((∀ w10, vS_1 w10 → w10.cell? (⟨w.heap.size, 0, none⟩ : Addr) = some (.int .i64 x650)) ∧ (∀ w10, vS_1 w10 → w10.cell? (⟨w.heap.size, 1, none⟩ : Addr) = some (.int .i64 x651)) ∧ (∀ w10, vS_1 w10 → w10.cell? (⟨w.heap.size, 2, none⟩ : Addr) = some (.slice x652A x652N x652C)) ∧ (∀ w10, vS_1 w10 → w10.cell? (⟨w.heap.size, 3, none⟩ : Addr) = some (.int .i64 x653)) ∧ (∀ w10, vS_1 w10 → w10.cell? (⟨w.heap.size, 4, none⟩ : Addr) = some (.slice x654A x654N x654C))) ∧
  Calls Try.prog 13 #[(.agg #[(.int .i64 x650), (.int .i64 x651), (.slice x652A x652N x652C), (.int .i64 x653), (.slice x654A x654N x654C)])] w8 (Ret fun v_3 w11 => ∃ (x660 : Int), ∃ (x661 : Int), ∃ (x662A : Option Addr), ∃ (x662N : Nat), ∃ (x662C : Nat), ∃ (x663 : Int), ∃ (x664A : Option Addr), ∃ (x664N : Nat), ∃ (x664C : Nat), v_3 = (.agg #[(.int .i64 x660), (.int .i64 x661), (.slice x662A x662N x662C), (.int .i64 x663), (.slice x664A x664N x664C)]) ∧
  vS_1 w11 ∧
  ∀ w12 : World, w12 = w11.alloc (.cells #[(.int .i64 x660), (.int .i64 x661), (.slice x662A x662N x662C), (.int .i64 x663), (.slice x664A x664N x664C)] 32 (0, 0)) →
  vS_1 w12 ∧
  ∃ (x68A : Option Addr), ∃ (x68N : Nat), ∃ (x68C : Nat), ∃ w13 : World, (Builtin.append_ #[28, 28] 28 #[(.slice x64A x64N x64C), (.slice (some (⟨w11.heap.size, 0, none⟩ : Addr)) 1 1)]).run Try.prog w12 = .ok (.slice x68A x68N x68C) w13 ∧
  vS_1 w13 ∧
  (((∃ u, w13.cell? (⟨wB, 1, none⟩ : Addr) = some u) ∧ w13.frozen? (⟨wB, 1, none⟩ : Addr) = false)) ∧ ∀ w14 : World, w14 = (w13.setCell (⟨wB, 1, none⟩ : Addr) (.slice x68A x68N x68C)) →
  R (.int .i64 0) w14)))))))))))
theorem ward_Ward_Submit.vc_eq (wB : Nat) (bB : Nat) (a0 : Int) (a1 : Int) (a2A : Option Addr) (a2N : Nat) (a2C : Nat) (a3 : Int) (a4A : Option Addr) (a4N : Nat) (a4C : Nat) (w : World) (R : Value → World → Prop) : fnV Try.prog Try.f12 (.k (.at_ 3 3 (.k .nil) (.at_ 3 8 (.k .nil) (.c .nil (.c .nil (.c .nil (.tk 0 (.tk 2 (.tk 3 (.tk 4 (.tk 5 (.alt 1 (.tk 6 (.tk 7 (.fin (.c .nil (.c .nil (.tk 0 (.tk 1 (.tk 2 (.tk 3 (.tk 4 (.tk 5 (.alt 6 (.alt 7 (.alt 8 (.tk 9 (.tk 10 (.last 11 (.fin .nil)))) .nil) .nil) .nil)))))))))))) .nil)))))))))))) [(.pointer (some (⟨wB, 0, none⟩ : Addr))), (.pointer (some (⟨bB, 0, none⟩ : Addr))), (.agg #[(.int .i64 a0), (.int .i64 a1), (.slice a2A a2N a2C), (.int .i64 a3), (.slice a4A a4N a4C)])] w R = ward_Ward_Submit.vc wB bB a0 a1 a2A a2N a2C a3 a4A a4N a4C w R := by kernel_rfl
theorem ward_Ward_Submit.calls (wB : Nat) (bB : Nat) (a0 : Int) (a1 : Int) (a2A : Option Addr) (a2N : Nat) (a2C : Nat) (a3 : Int) (a4A : Option Addr) (a4N : Nat) (a4C : Nat) {w : World} {R : Value → World → Prop} (h : ward_Ward_Submit.vc wB bB a0 a1 a2A a2N a2C a3 a4A a4N a4C w R) : Calls Try.prog 12 #[(.pointer (some (⟨wB, 0, none⟩ : Addr))), (.pointer (some (⟨bB, 0, none⟩ : Addr))), (.agg #[(.int .i64 a0), (.int .i64 a1), (.slice a2A a2N a2C), (.int .i64 a3), (.slice a4A a4N a4C)])] w (Ret R) :=
  calls_V fit Try.func12 (.k (.at_ 3 3 (.k .nil) (.at_ 3 8 (.k .nil) (.c .nil (.c .nil (.c .nil (.tk 0 (.tk 2 (.tk 3 (.tk 4 (.tk 5 (.alt 1 (.tk 6 (.tk 7 (.fin (.c .nil (.c .nil (.tk 0 (.tk 1 (.tk 2 (.tk 3 (.tk 4 (.tk 5 (.alt 6 (.alt 7 (.alt 8 (.tk 9 (.tk 10 (.last 11 (.fin .nil)))) .nil) .nil) .nil)))))))))))) .nil)))))))))))) (by rw [show (#[(.pointer (some (⟨wB, 0, none⟩ : Addr))), (.pointer (some (⟨bB, 0, none⟩ : Addr))), (.agg #[(.int .i64 a0), (.int .i64 a1), (.slice a2A a2N a2C), (.int .i64 a3), (.slice a4A a4N a4C)])] : Array Value).toList = [(.pointer (some (⟨wB, 0, none⟩ : Addr))), (.pointer (some (⟨bB, 0, none⟩ : Addr))), (.agg #[(.int .i64 a0), (.int .i64 a1), (.slice a2A a2N a2C), (.int .i64 a3), (.slice a4A a4N a4C)])] from rfl, ward_Ward_Submit.vc_eq]; exact h)
/-- function 55 -/
def slices_Delete.vc (sA : Option Addr) (sN : Nat) (sC : Nat) (i : Int) (j : Int) (w : World) (R : Value → World → Prop) : Prop :=
  (0 ≤ i ∧ i ≤ j ∧ j ≤ ((sN : Nat) : Int) ∧ ((sN : Nat) : Int) ≤ ((sC : Nat) : Int)) ∧
  ((i == j) = true →
  R (.slice sA sN sC) w) ∧
  ((i == j) = false →
  ∃ vS : World → Prop, ∀ w1 : World, w1 = w.drew → vS w1 ∧
  (0 ≤ i ∧ i ≤ ((sC : Nat) : Int)) ∧
  (0 ≤ j ∧ j ≤ ((sN : Nat) : Int)) ∧
  ∃ (x26A : Option Addr), ∃ (x26N : Nat), ∃ (x26C : Nat), ∃ w2 : World, (Builtin.append_ #[28, 28] 28 #[(.slice (if sC = 0 then sA else sA.map (·.add (0 * 5))) (i.toNat - 0) (sC - 0)), (.slice (if sC = j.toNat then sA else sA.map (·.add (j.toNat * 5))) (sN - j.toNat) (sC - j.toNat))]).run Try.prog w1 = .ok (.slice x26A x26N x26C) w2 ∧
  vS w2 ∧
  (0 ≤ ((x26N : Nat) : Int) ∧ ((x26N : Nat) : Int) ≤ ((sN : Nat) : Int) ∧ ((sN : Nat) : Int) ≤ ((x26C : Nat) : Int)) ∧
  ∃ (x : Value), ∃ w3 : World, (Builtin.clear_ #[28] 0 #[(.slice (if x26C = ((x26N : Nat) : Int).toNat then x26A else x26A.map (·.add (((x26N : Nat) : Int).toNat * 5))) (((sN : Nat) : Int).toNat - ((x26N : Nat) : Int).toNat) (x26C - ((x26N : Nat) : Int).toNat))]).run Try.prog w2 = .ok x w3 ∧
  R (.slice x26A x26N x26C) w3)
theorem slices_Delete.vc_eq (sA : Option Addr) (sN : Nat) (sC : Nat) (i : Int) (j : Int) (w : World) (R : Value → World → Prop) : fnV Try.prog Try.f55 (.c .nil (.tk 0 (.tk 1 (.tk 2 (.tk 3 (.tk 4 (.tk 5 (.alt 6 (.tk 7 (.fin .nil)) .nil)))))))) [(.slice sA sN sC), (.int .i64 i), (.int .i64 j)] w R = slices_Delete.vc sA sN sC i j w R := by kernel_rfl
theorem slices_Delete.calls (sA : Option Addr) (sN : Nat) (sC : Nat) (i : Int) (j : Int) {w : World} {R : Value → World → Prop} (h : slices_Delete.vc sA sN sC i j w R) : Calls Try.prog 55 #[(.slice sA sN sC), (.int .i64 i), (.int .i64 j)] w (Ret R) :=
  calls_V fit Try.func55 (.c .nil (.tk 0 (.tk 1 (.tk 2 (.tk 3 (.tk 4 (.tk 5 (.alt 6 (.tk 7 (.fin .nil)) .nil)))))))) (by rw [show (#[(.slice sA sN sC), (.int .i64 i), (.int .i64 j)] : Array Value).toList = [(.slice sA sN sC), (.int .i64 i), (.int .i64 j)] from rfl, slices_Delete.vc_eq]; exact h)
/-- function 15 -/
def ward_Ward_Take.vc (wB : Nat) (w : World) (R : Value → World → Prop) : Prop :=
  ∀ w1 : World, w1 = w.alloc (.cells #[(.int .i64 0), (.int .i64 0), (.slice none 0 0), (.int .i64 0), (.slice none 0 0)] 32 (0, 0)) →
  ∃ (x11A : Option Addr), ∃ (x11N : Nat), ∃ (x11C : Nat), w1.cell? (⟨wB, 1, none⟩ : Addr) = some (.slice x11A x11N x11C) ∧
  ((((x11N : Nat) : Int) == (0 : Int)) = true →
  (((∃ u, w1.cell? (⟨w.heap.size, 0, none⟩ : Addr) = some u) ∧ w1.frozen? (⟨w.heap.size, 0, none⟩ : Addr) = false) ∧ ((∃ u, w1.cell? (⟨w.heap.size, 1, none⟩ : Addr) = some u) ∧ w1.frozen? (⟨w.heap.size, 1, none⟩ : Addr) = false) ∧ ((∃ u, w1.cell? (⟨w.heap.size, 2, none⟩ : Addr) = some u) ∧ w1.frozen? (⟨w.heap.size, 2, none⟩ : Addr) = false) ∧ ((∃ u, w1.cell? (⟨w.heap.size, 3, none⟩ : Addr) = some u) ∧ w1.frozen? (⟨w.heap.size, 3, none⟩ : Addr) = false) ∧ ((∃ u, w1.cell? (⟨w.heap.size, 4, none⟩ : Addr) = some u) ∧ w1.frozen? (⟨w.heap.size, 4, none⟩ : Addr) = false)) ∧ ∀ w2 : World, w2 = (((((w1.setCell (⟨w.heap.size, 0, none⟩ : Addr) (.int .i64 0)).setCell (⟨w.heap.size, 1, none⟩ : Addr) (.int .i64 0)).setCell (⟨w.heap.size, 2, none⟩ : Addr) (.slice none 0 0)).setCell (⟨w.heap.size, 3, none⟩ : Addr) (.int .i64 0)).setCell (⟨w.heap.size, 4, none⟩ : Addr) (.slice none 0 0)) →
  ∃ (r00 : Int), ∃ (r01 : Int), ∃ (r02A : Option Addr), ∃ (r02N : Nat), ∃ (r02C : Nat), ∃ (r03 : Int), ∃ (r04A : Option Addr), ∃ (r04N : Nat), ∃ (r04C : Nat), (w2.cell? (⟨w.heap.size, 0, none⟩ : Addr) = some (.int .i64 r00) ∧ w2.cell? (⟨w.heap.size, 1, none⟩ : Addr) = some (.int .i64 r01) ∧ w2.cell? (⟨w.heap.size, 2, none⟩ : Addr) = some (.slice r02A r02N r02C) ∧ w2.cell? (⟨w.heap.size, 3, none⟩ : Addr) = some (.int .i64 r03) ∧ w2.cell? (⟨w.heap.size, 4, none⟩ : Addr) = some (.slice r04A r04N r04C)) ∧
  R (.tuple #[(.agg #[(.int .i64 r00), (.int .i64 r01), (.slice r02A r02N r02C), (.int .i64 r03), (.slice r04A r04N r04C)]), (.bool false)]) w2) ∧
  ((((x11N : Nat) : Int) == (0 : Int)) = false →
  ∃ (x19A : Option Addr), ∃ (x19N : Nat), ∃ (x19C : Nat), w1.cell? (⟨wB, 1, none⟩ : Addr) = some (.slice x19A x19N x19C) ∧
  (0 ≤ (0 : Int) ∧ (0 : Int) < ((x19N : Nat) : Int)) ∧ someV x19A fun p =>
  ∃ (x210 : Int), ∃ (x211 : Int), ∃ (x212A : Option Addr), ∃ (x212N : Nat), ∃ (x212C : Nat), ∃ (x213 : Int), ∃ (x214A : Option Addr), ∃ (x214N : Nat), ∃ (x214C : Nat), (w1.cell? p = some (.int .i64 x210) ∧ w1.cell? (p.add 1) = some (.int .i64 x211) ∧ w1.cell? (p.add 2) = some (.slice x212A x212N x212C) ∧ w1.cell? (p.add 3) = some (.int .i64 x213) ∧ w1.cell? (p.add 4) = some (.slice x214A x214N x214C)) ∧
  ∀ w3 : World, w3 = w1.alloc (.cells #[(.int .i64 0), (.int .i64 0), (.slice none 0 0), (.int .i64 0), (.slice none 0 0)] 32 (0, 0)) →
  (((∃ u, w3.cell? (⟨w1.heap.size, 0, none⟩ : Addr) = some u) ∧ w3.frozen? (⟨w1.heap.size, 0, none⟩ : Addr) = false) ∧ ((∃ u, w3.cell? (⟨w1.heap.size, 1, none⟩ : Addr) = some u) ∧ w3.frozen? (⟨w1.heap.size, 1, none⟩ : Addr) = false) ∧ ((∃ u, w3.cell? (⟨w1.heap.size, 2, none⟩ : Addr) = some u) ∧ w3.frozen? (⟨w1.heap.size, 2, none⟩ : Addr) = false) ∧ ((∃ u, w3.cell? (⟨w1.heap.size, 3, none⟩ : Addr) = some u) ∧ w3.frozen? (⟨w1.heap.size, 3, none⟩ : Addr) = false) ∧ ((∃ u, w3.cell? (⟨w1.heap.size, 4, none⟩ : Addr) = some u) ∧ w3.frozen? (⟨w1.heap.size, 4, none⟩ : Addr) = false)) ∧ ∀ w4 : World, w4 = (((((w3.setCell (⟨w1.heap.size, 0, none⟩ : Addr) (.int .i64 x210)).setCell (⟨w1.heap.size, 1, none⟩ : Addr) (.int .i64 x211)).setCell (⟨w1.heap.size, 2, none⟩ : Addr) (.slice x212A x212N x212C)).setCell (⟨w1.heap.size, 3, none⟩ : Addr) (.int .i64 x213)).setCell (⟨w1.heap.size, 4, none⟩ : Addr) (.slice x214A x214N x214C)) →
  ∃ (x26A : Option Addr), ∃ (x26N : Nat), ∃ (x26C : Nat), w4.cell? (⟨wB, 1, none⟩ : Addr) = some (.slice x26A x26N x26C) ∧
  Calls Try.prog 55 #[(.slice x26A x26N x26C), (.int .i64 0), (.int .i64 1)] w4 (Ret fun v w5 => ∃ (x27A : Option Addr), ∃ (x27N : Nat), ∃ (x27C : Nat), v = (.slice x27A x27N x27C) ∧
  (((∃ u, w5.cell? (⟨wB, 1, none⟩ : Addr) = some u) ∧ w5.frozen? (⟨wB, 1, none⟩ : Addr) = false)) ∧ ∀ w6 : World, w6 = (w5.setCell (⟨wB, 1, none⟩ : Addr) (.slice x27A x27N x27C)) →
  ∃ (x300 : Int), ∃ (x301 : Int), ∃ (x302A : Option Addr), ∃ (x302N : Nat), ∃ (x302C : Nat), ∃ (x303 : Int), ∃ (x304A : Option Addr), ∃ (x304N : Nat), ∃ (x304C : Nat), (w6.cell? (⟨w1.heap.size, 0, none⟩ : Addr) = some (.int .i64 x300) ∧ w6.cell? (⟨w1.heap.size, 1, none⟩ : Addr) = some (.int .i64 x301) ∧ w6.cell? (⟨w1.heap.size, 2, none⟩ : Addr) = some (.slice x302A x302N x302C) ∧ w6.cell? (⟨w1.heap.size, 3, none⟩ : Addr) = some (.int .i64 x303) ∧ w6.cell? (⟨w1.heap.size, 4, none⟩ : Addr) = some (.slice x304A x304N x304C)) ∧
  (((∃ u, w6.cell? (⟨w.heap.size, 0, none⟩ : Addr) = some u) ∧ w6.frozen? (⟨w.heap.size, 0, none⟩ : Addr) = false) ∧ ((∃ u, w6.cell? (⟨w.heap.size, 1, none⟩ : Addr) = some u) ∧ w6.frozen? (⟨w.heap.size, 1, none⟩ : Addr) = false) ∧ ((∃ u, w6.cell? (⟨w.heap.size, 2, none⟩ : Addr) = some u) ∧ w6.frozen? (⟨w.heap.size, 2, none⟩ : Addr) = false) ∧ ((∃ u, w6.cell? (⟨w.heap.size, 3, none⟩ : Addr) = some u) ∧ w6.frozen? (⟨w.heap.size, 3, none⟩ : Addr) = false) ∧ ((∃ u, w6.cell? (⟨w.heap.size, 4, none⟩ : Addr) = some u) ∧ w6.frozen? (⟨w.heap.size, 4, none⟩ : Addr) = false)) ∧ ∀ w7 : World, w7 = (((((w6.setCell (⟨w.heap.size, 0, none⟩ : Addr) (.int .i64 x300)).setCell (⟨w.heap.size, 1, none⟩ : Addr) (.int .i64 x301)).setCell (⟨w.heap.size, 2, none⟩ : Addr) (.slice x302A x302N x302C)).setCell (⟨w.heap.size, 3, none⟩ : Addr) (.int .i64 x303)).setCell (⟨w.heap.size, 4, none⟩ : Addr) (.slice x304A x304N x304C)) →
  ∃ (r00_1 : Int), ∃ (r01_1 : Int), ∃ (r02A_1 : Option Addr), ∃ (r02N_1 : Nat), ∃ (r02C_1 : Nat), ∃ (r03_1 : Int), ∃ (r04A_1 : Option Addr), ∃ (r04N_1 : Nat), ∃ (r04C_1 : Nat), (w7.cell? (⟨w.heap.size, 0, none⟩ : Addr) = some (.int .i64 r00_1) ∧ w7.cell? (⟨w.heap.size, 1, none⟩ : Addr) = some (.int .i64 r01_1) ∧ w7.cell? (⟨w.heap.size, 2, none⟩ : Addr) = some (.slice r02A_1 r02N_1 r02C_1) ∧ w7.cell? (⟨w.heap.size, 3, none⟩ : Addr) = some (.int .i64 r03_1) ∧ w7.cell? (⟨w.heap.size, 4, none⟩ : Addr) = some (.slice r04A_1 r04N_1 r04C_1)) ∧
  R (.tuple #[(.agg #[(.int .i64 r00_1), (.int .i64 r01_1), (.slice r02A_1 r02N_1 r02C_1), (.int .i64 r03_1), (.slice r04A_1 r04N_1 r04C_1)]), (.bool true)]) w7))
theorem ward_Ward_Take.vc_eq (wB : Nat) (w : World) (R : Value → World → Prop) : fnV Try.prog Try.f15 (.c .nil .nil) [(.pointer (some (⟨wB, 0, none⟩ : Addr)))] w R = ward_Ward_Take.vc wB w R := by kernel_rfl
theorem ward_Ward_Take.calls (wB : Nat) {w : World} {R : Value → World → Prop} (h : ward_Ward_Take.vc wB w R) : Calls Try.prog 15 #[(.pointer (some (⟨wB, 0, none⟩ : Addr)))] w (Ret R) :=
  calls_V fit Try.func15 (.c .nil .nil) (by rw [show (#[(.pointer (some (⟨wB, 0, none⟩ : Addr)))] : Array Value).toList = [(.pointer (some (⟨wB, 0, none⟩ : Addr)))] from rfl, ward_Ward_Take.vc_eq]; exact h)
/-- function 14 -/
def ward_Ward_Cancel.vc (wB : Nat) (id : Int) (w : World) (R : Value → World → Prop) : Prop :=
  Calls Try.prog 52 #[(.pointer (some (⟨wB, 0, none⟩ : Addr))), (.int .i64 id)] w (Ret fun v w1 => ∃ (x10 : Int), v = (.int .i64 x10) ∧
  (decide (x10 < (0 : Int)) = true →
  R (.int .i64 8) w1) ∧
  (decide (x10 < (0 : Int)) = false →
  ∃ (x17A : Option Addr), ∃ (x17N : Nat), ∃ (x17C : Nat), w1.cell? (⟨wB, 1, none⟩ : Addr) = some (.slice x17A x17N x17C) ∧
  Calls Try.prog 55 #[(.slice x17A x17N x17C), (.int .i64 x10), (.int .i64 (IntKind.i64.wrap (x10 + 1)))] w1 (Ret fun v_1 w2 => ∃ (x21A : Option Addr), ∃ (x21N : Nat), ∃ (x21C : Nat), v_1 = (.slice x21A x21N x21C) ∧
  (((∃ u, w2.cell? (⟨wB, 1, none⟩ : Addr) = some u) ∧ w2.frozen? (⟨wB, 1, none⟩ : Addr) = false)) ∧ ∀ w3 : World, w3 = (w2.setCell (⟨wB, 1, none⟩ : Addr) (.slice x21A x21N x21C)) →
  R (.int .i64 0) w3)))
theorem ward_Ward_Cancel.vc_eq (wB : Nat) (id : Int) (w : World) (R : Value → World → Prop) : fnV Try.prog Try.f14 (.k (.c .nil .nil)) [(.pointer (some (⟨wB, 0, none⟩ : Addr))), (.int .i64 id)] w R = ward_Ward_Cancel.vc wB id w R := by kernel_rfl
theorem ward_Ward_Cancel.calls (wB : Nat) (id : Int) {w : World} {R : Value → World → Prop} (h : ward_Ward_Cancel.vc wB id w R) : Calls Try.prog 14 #[(.pointer (some (⟨wB, 0, none⟩ : Addr))), (.int .i64 id)] w (Ret R) :=
  calls_V fit Try.func14 (.k (.c .nil .nil)) (by rw [show (#[(.pointer (some (⟨wB, 0, none⟩ : Addr))), (.int .i64 id)] : Array Value).toList = [(.pointer (some (⟨wB, 0, none⟩ : Addr))), (.int .i64 id)] from rfl, ward_Ward_Cancel.vc_eq]; exact h)
/-- function 17 -/
def ward_Ward_Ids.vc (wB : Nat) (w : World) (R : Value → World → Prop) : Prop :=
  ∃ (x10A : Option Addr), ∃ (x10N : Nat), ∃ (x10C : Nat), w.cell? (⟨wB, 1, none⟩ : Addr) = some (.slice x10A x10N x10C) ∧
  ∃ vI : Option Addr → Nat → Nat → Int → Nat → World → Prop, (∃ vk_2 : Nat, vI none 0 0 0 vk_2 w) ∧
  ∀ (jk : Nat → Value) (outA : Option Addr) (outN : Nat) (outC : Nat) (x12 : Int), ∀ (vk : Nat) (w1 : World), vI outA outN outC x12 vk w1 →
  (decide (x12 < ((x10N : Nat) : Int)) = true →
  (0 ≤ x12 ∧ x12 < ((x10N : Nat) : Int)) ∧ someV x10A fun p =>
  ∃ (x150 : Int), ∃ (x151 : Int), ∃ (x152A : Option Addr), ∃ (x152N : Nat), ∃ (x152C : Nat), ∃ (x153 : Int), ∃ (x154A : Option Addr), ∃ (x154N : Nat), ∃ (x154C : Nat), (w1.cell? (p.add (x12.toNat * 5)) = some (.int .i64 x150) ∧ w1.cell? ((p.add (x12.toNat * 5)).add 1) = some (.int .i64 x151) ∧ w1.cell? ((p.add (x12.toNat * 5)).add 2) = some (.slice x152A x152N x152C) ∧ w1.cell? ((p.add (x12.toNat * 5)).add 3) = some (.int .i64 x153) ∧ w1.cell? ((p.add (x12.toNat * 5)).add 4) = some (.slice x154A x154N x154C)) ∧
  ∀ w2 : World, w2 = w1.alloc (.cells #[(.int .i64 0), (.int .i64 0), (.slice none 0 0), (.int .i64 0), (.slice none 0 0)] 32 (0, 0)) →
  (((∃ u, w2.cell? (⟨w1.heap.size, 0, none⟩ : Addr) = some u) ∧ w2.frozen? (⟨w1.heap.size, 0, none⟩ : Addr) = false) ∧ ((∃ u, w2.cell? (⟨w1.heap.size, 1, none⟩ : Addr) = some u) ∧ w2.frozen? (⟨w1.heap.size, 1, none⟩ : Addr) = false) ∧ ((∃ u, w2.cell? (⟨w1.heap.size, 2, none⟩ : Addr) = some u) ∧ w2.frozen? (⟨w1.heap.size, 2, none⟩ : Addr) = false) ∧ ((∃ u, w2.cell? (⟨w1.heap.size, 3, none⟩ : Addr) = some u) ∧ w2.frozen? (⟨w1.heap.size, 3, none⟩ : Addr) = false) ∧ ((∃ u, w2.cell? (⟨w1.heap.size, 4, none⟩ : Addr) = some u) ∧ w2.frozen? (⟨w1.heap.size, 4, none⟩ : Addr) = false)) ∧ ∀ w3 : World, w3 = (((((w2.setCell (⟨w1.heap.size, 0, none⟩ : Addr) (.int .i64 x150)).setCell (⟨w1.heap.size, 1, none⟩ : Addr) (.int .i64 x151)).setCell (⟨w1.heap.size, 2, none⟩ : Addr) (.slice x152A x152N x152C)).setCell (⟨w1.heap.size, 3, none⟩ : Addr) (.int .i64 x153)).setCell (⟨w1.heap.size, 4, none⟩ : Addr) (.slice x154A x154N x154C)) →
  ∃ (x18 : Int), w3.cell? (⟨w1.heap.size, 0, none⟩ : Addr) = some (.int .i64 x18) ∧
  ∀ w4 : World, w4 = w3.alloc (.cells #[(.int .i64 x18)] 3 (0, 0)) →
  ∃ (x20A : Option Addr), ∃ (x20N : Nat), ∃ (x20C : Nat), ∃ w5 : World, (Builtin.append_ #[29, 29] 29 #[(.slice outA outN outC), (.slice (some (⟨w3.heap.size, 0, none⟩ : Addr)) 1 1)]).run Try.prog w4 = .ok (.slice x20A x20N x20C) w5 ∧
  ∃ vk_1 : Nat, vk_1 < vk ∧ vI x20A x20N x20C (IntKind.i64.wrap (x12 + 1)) vk_1 w5) ∧
  (decide (x12 < ((x10N : Nat) : Int)) = false →
  R (.slice outA outN outC) w1)
theorem ward_Ward_Ids.vc_eq (wB : Nat) (w : World) (R : Value → World → Prop) : fnV Try.prog Try.f17 (.k (.lp [(2, some (.slice)), (4, none), (12, some (.int .i64)), (13, none), (14, none), (15, none), (16, none), (17, none), (18, none), (19, none), (20, none), (21, none)] (.c .nil .nil))) [(.pointer (some (⟨wB, 0, none⟩ : Addr)))] w R = ward_Ward_Ids.vc wB w R := by kernel_rfl
theorem ward_Ward_Ids.calls (wB : Nat) {w : World} {R : Value → World → Prop} (h : ward_Ward_Ids.vc wB w R) : Calls Try.prog 17 #[(.pointer (some (⟨wB, 0, none⟩ : Addr)))] w (Ret R) :=
  calls_V fit Try.func17 (.k (.lp [(2, some (.slice)), (4, none), (12, some (.int .i64)), (13, none), (14, none), (15, none), (16, none), (17, none), (18, none), (19, none), (20, none), (21, none)] (.c .nil .nil))) (by rw [show (#[(.pointer (some (⟨wB, 0, none⟩ : Addr)))] : Array Value).toList = [(.pointer (some (⟨wB, 0, none⟩ : Addr)))] from rfl, ward_Ward_Ids.vc_eq]; exact h)
/-- function 95 -/
def slices_Index.vc (sA : Option Addr) (sN : Nat) (sC : Nat) (v : Int) (w : World) (R : Value → World → Prop) : Prop :=
  ∃ vI : Int → Nat → World → Prop, (∃ vk_2 : Nat, vI 0 vk_2 w) ∧
  ∀ (jk : Nat → Value) (x8 : Int), ∀ (vk : Nat) (w1 : World), vI x8 vk w1 →
  (decide (x8 < ((sN : Nat) : Int)) = true →
  (0 ≤ x8 ∧ x8 < ((sN : Nat) : Int)) ∧ someV sA fun p =>
  ∃ (x15 : Int), w1.cell? (p.add (x8.toNat * 1)) = some (.int .i64 x15) ∧
  ((v == x15) = true →
  R (.int .i64 x8) w1) ∧
  ((v == x15) = false →
  ∃ vk_1 : Nat, vk_1 < vk ∧ vI (IntKind.i64.wrap (x8 + 1)) vk_1 w1)) ∧
  (decide (x8 < ((sN : Nat) : Int)) = false →
  R (.int .i64 (-1)) w1)
theorem slices_Index.vc_eq (sA : Option Addr) (sN : Nat) (sC : Nat) (v : Int) (w : World) (R : Value → World → Prop) : fnV Try.prog Try.f95 (.lp [(4, none), (5, none), (8, some (.int .i64)), (9, none), (10, none), (11, none), (12, none), (13, none), (14, none), (15, none), (16, none), (17, none), (18, none)] (.c (.c .nil .nil) .nil)) [(.slice sA sN sC), (.int .i64 v)] w R = slices_Index.vc sA sN sC v w R := by kernel_rfl
theorem slices_Index.calls (sA : Option Addr) (sN : Nat) (sC : Nat) (v : Int) {w : World} {R : Value → World → Prop} (h : slices_Index.vc sA sN sC v w R) : Calls Try.prog 95 #[(.slice sA sN sC), (.int .i64 v)] w (Ret R) :=
  calls_V fit Try.func95 (.lp [(4, none), (5, none), (8, some (.int .i64)), (9, none), (10, none), (11, none), (12, none), (13, none), (14, none), (15, none), (16, none), (17, none), (18, none)] (.c (.c .nil .nil) .nil)) (by rw [show (#[(.slice sA sN sC), (.int .i64 v)] : Array Value).toList = [(.slice sA sN sC), (.int .i64 v)] from rfl, slices_Index.vc_eq]; exact h)
/-- function 59 -/
def slices_Contains.vc (sA : Option Addr) (sN : Nat) (sC : Nat) (v : Int) (w : World) (R : Value → World → Prop) : Prop :=
  Calls Try.prog 95 #[(.slice sA sN sC), (.int .i64 v)] w (Ret fun v_1 w1 => ∃ (x7 : Int), v_1 = (.int .i64 x7) ∧
  R (.bool (decide (x7 ≥ (0 : Int)))) w1)
theorem slices_Contains.vc_eq (sA : Option Addr) (sN : Nat) (sC : Nat) (v : Int) (w : World) (R : Value → World → Prop) : fnV Try.prog Try.f59 .nil [(.slice sA sN sC), (.int .i64 v)] w R = slices_Contains.vc sA sN sC v w R := by kernel_rfl
theorem slices_Contains.calls (sA : Option Addr) (sN : Nat) (sC : Nat) (v : Int) {w : World} {R : Value → World → Prop} (h : slices_Contains.vc sA sN sC v w R) : Calls Try.prog 59 #[(.slice sA sN sC), (.int .i64 v)] w (Ret R) :=
  calls_V fit Try.func59 .nil (by rw [show (#[(.slice sA sN sC), (.int .i64 v)] : Array Value).toList = [(.slice sA sN sC), (.int .i64 v)] from rfl, slices_Contains.vc_eq]; exact h)
/-- function 29 -/
def ward_Ward_Of.vc (wB : Nat) (versionsA : Option Addr) (versionsN : Nat) (versionsC : Nat) (w : World) (R : Value → World → Prop) : Prop :=
  ∃ (x12A : Option Addr), ∃ (x12N : Nat), ∃ (x12C : Nat), w.cell? (⟨wB, 1, none⟩ : Addr) = some (.slice x12A x12N x12C) ∧
  ∃ vI : Option Addr → Nat → Nat → Int → Nat → World → Prop, (∃ vk_2 : Nat, vI none 0 0 0 vk_2 w) ∧
  ∀ (jk : Nat → Value) (outA : Option Addr) (outN : Nat) (outC : Nat) (x14 : Int), ∀ (vk : Nat) (w1 : World), vI outA outN outC x14 vk w1 →
  (decide (x14 < ((x12N : Nat) : Int)) = true →
  (0 ≤ x14 ∧ x14 < ((x12N : Nat) : Int)) ∧ someV x12A fun p =>
  ∃ (x170 : Int), ∃ (x171 : Int), ∃ (x172A : Option Addr), ∃ (x172N : Nat), ∃ (x172C : Nat), ∃ (x173 : Int), ∃ (x174A : Option Addr), ∃ (x174N : Nat), ∃ (x174C : Nat), (w1.cell? (p.add (x14.toNat * 5)) = some (.int .i64 x170) ∧ w1.cell? ((p.add (x14.toNat * 5)).add 1) = some (.int .i64 x171) ∧ w1.cell? ((p.add (x14.toNat * 5)).add 2) = some (.slice x172A x172N x172C) ∧ w1.cell? ((p.add (x14.toNat * 5)).add 3) = some (.int .i64 x173) ∧ w1.cell? ((p.add (x14.toNat * 5)).add 4) = some (.slice x174A x174N x174C)) ∧
  ∀ w2 : World, w2 = w1.alloc (.cells #[(.int .i64 0), (.int .i64 0), (.slice none 0 0), (.int .i64 0), (.slice none 0 0)] 32 (0, 0)) →
  (((∃ u, w2.cell? (⟨w1.heap.size, 0, none⟩ : Addr) = some u) ∧ w2.frozen? (⟨w1.heap.size, 0, none⟩ : Addr) = false) ∧ ((∃ u, w2.cell? (⟨w1.heap.size, 1, none⟩ : Addr) = some u) ∧ w2.frozen? (⟨w1.heap.size, 1, none⟩ : Addr) = false) ∧ ((∃ u, w2.cell? (⟨w1.heap.size, 2, none⟩ : Addr) = some u) ∧ w2.frozen? (⟨w1.heap.size, 2, none⟩ : Addr) = false) ∧ ((∃ u, w2.cell? (⟨w1.heap.size, 3, none⟩ : Addr) = some u) ∧ w2.frozen? (⟨w1.heap.size, 3, none⟩ : Addr) = false) ∧ ((∃ u, w2.cell? (⟨w1.heap.size, 4, none⟩ : Addr) = some u) ∧ w2.frozen? (⟨w1.heap.size, 4, none⟩ : Addr) = false)) ∧ ∀ w3 : World, w3 = (((((w2.setCell (⟨w1.heap.size, 0, none⟩ : Addr) (.int .i64 x170)).setCell (⟨w1.heap.size, 1, none⟩ : Addr) (.int .i64 x171)).setCell (⟨w1.heap.size, 2, none⟩ : Addr) (.slice x172A x172N x172C)).setCell (⟨w1.heap.size, 3, none⟩ : Addr) (.int .i64 x173)).setCell (⟨w1.heap.size, 4, none⟩ : Addr) (.slice x174A x174N x174C)) →
  ∃ (x20 : Int), w3.cell? (⟨w1.heap.size, 1, none⟩ : Addr) = some (.int .i64 x20) ∧
  Calls Try.prog 59 #[(.slice versionsA versionsN versionsC), (.int .i64 x20)] w3 (Ret fun v w4 => ∃ (x21 : Bool), v = (.bool x21) ∧
  (x21 = true →
  ∃ (x24 : Int), w4.cell? (⟨w1.heap.size, 0, none⟩ : Addr) = some (.int .i64 x24) ∧
  ∀ w5 : World, w5 = w4.alloc (.cells #[(.int .i64 x24)] 3 (0, 0)) →
  ∃ (x26A : Option Addr), ∃ (x26N : Nat), ∃ (x26C : Nat), ∃ w6 : World, (Builtin.append_ #[29, 29] 29 #[(.slice outA outN outC), (.slice (some (⟨w4.heap.size, 0, none⟩ : Addr)) 1 1)]).run Try.prog w5 = .ok (.slice x26A x26N x26C) w6 ∧
  ∃ vk_1 : Nat, vk_1 < vk ∧ vI x26A x26N x26C (IntKind.i64.wrap (x14 + 1)) vk_1 w6) ∧
  (x21 = false →
  ∃ vk_1 : Nat, vk_1 < vk ∧ vI outA outN outC (IntKind.i64.wrap (x14 + 1)) vk_1 w4))) ∧
  (decide (x14 < ((x12N : Nat) : Int)) = false →
  R (.slice outA outN outC) w1)
theorem ward_Ward_Of.vc_eq (wB : Nat) (versionsA : Option Addr) (versionsN : Nat) (versionsC : Nat) (w : World) (R : Value → World → Prop) : fnV Try.prog Try.f29 (.k (.lp [(4, some (.slice)), (6, none), (14, some (.int .i64)), (15, none), (16, none), (17, none), (18, none), (19, none), (20, none), (21, none), (22, none), (23, none), (24, none), (25, none), (26, none), (27, none)] (.c (.c .nil .nil) .nil))) [(.pointer (some (⟨wB, 0, none⟩ : Addr))), (.slice versionsA versionsN versionsC)] w R = ward_Ward_Of.vc wB versionsA versionsN versionsC w R := by kernel_rfl
theorem ward_Ward_Of.calls (wB : Nat) (versionsA : Option Addr) (versionsN : Nat) (versionsC : Nat) {w : World} {R : Value → World → Prop} (h : ward_Ward_Of.vc wB versionsA versionsN versionsC w R) : Calls Try.prog 29 #[(.pointer (some (⟨wB, 0, none⟩ : Addr))), (.slice versionsA versionsN versionsC)] w (Ret R) :=
  calls_V fit Try.func29 (.k (.lp [(4, some (.slice)), (6, none), (14, some (.int .i64)), (15, none), (16, none), (17, none), (18, none), (19, none), (20, none), (21, none), (22, none), (23, none), (24, none), (25, none), (26, none), (27, none)] (.c (.c .nil .nil) .nil))) (by rw [show (#[(.pointer (some (⟨wB, 0, none⟩ : Addr))), (.slice versionsA versionsN versionsC)] : Array Value).toList = [(.pointer (some (⟨wB, 0, none⟩ : Addr))), (.slice versionsA versionsN versionsC)] from rfl, ward_Ward_Of.vc_eq]; exact h)
/-- function 18 -/
def ward_Ward_Back.vc (wB : Nat) (a0 : Int) (a1 : Int) (a2A : Option Addr) (a2N : Nat) (a2C : Nat) (a3 : Int) (a4A : Option Addr) (a4N : Nat) (a4C : Nat) (w : World) (R : Value → World → Prop) : Prop :=
  ∀ w1 : World, w1 = w.alloc (.cells #[(.int .i64 a0), (.int .i64 a1), (.slice a2A a2N a2C), (.int .i64 a3), (.slice a4A a4N a4C)] 32 (0, 0)) →
  ∃ (x11 : Int), w1.cell? (⟨w.heap.size, 0, none⟩ : Addr) = some (.int .i64 x11) ∧
  Calls Try.prog 52 #[(.pointer (some (⟨wB, 0, none⟩ : Addr))), (.int .i64 x11)] w1 (Ret fun v w2 => ∃ (x12 : Int), v = (.int .i64 x12) ∧
  (decide (x12 ≥ (0 : Int)) = true →
  R (.int .i64 9) w2) ∧
  (decide (x12 ≥ (0 : Int)) = false →
  ∃ vS : World → Prop, ∀ w3 : World, w3 = w2.drew → vS w3 ∧
  ∃ (x18A : Option Addr), ∃ (x18N : Nat), ∃ (x18C : Nat), (∀ w4, vS w4 → w4.cell? (⟨wB, 1, none⟩ : Addr) = some (.slice x18A x18N x18C)) ∧
  ∃ (x190 : Int), ∃ (x191 : Int), ∃ (x192A : Option Addr), ∃ (x192N : Nat), ∃ (x192C : Nat), ∃ (x193 : Int), ∃ (x194A : Option Addr), ∃ (x194N : Nat), ∃ (x194C : Nat), ((∀ w5, vS w5 → w5.cell? (⟨w.heap.size, 0, none⟩ : Addr) = some (.int .i64 x190)) ∧ (∀ w5, vS w5 → w5.cell? (⟨w.heap.size, 1, none⟩ : Addr) = some (.int .i64 x191)) ∧ (∀ w5, vS w5 → w5.cell? (⟨w.heap.size, 2, none⟩ : Addr) = some (.slice x192A x192N x192C)) ∧ (∀ w5, vS w5 → w5.cell? (⟨w.heap.size, 3, none⟩ : Addr) = some (.int .i64 x193)) ∧ (∀ w5, vS w5 → w5.cell? (⟨w.heap.size, 4, none⟩ : Addr) = some (.slice x194A x194N x194C))) ∧
  Calls Try.prog 13 #[(.agg #[(.int .i64 x190), (.int .i64 x191), (.slice x192A x192N x192C), (.int .i64 x193), (.slice x194A x194N x194C)])] w3 (Ret fun v_1 w6 => ∃ (x200 : Int), ∃ (x201 : Int), ∃ (x202A : Option Addr), ∃ (x202N : Nat), ∃ (x202C : Nat), ∃ (x203 : Int), ∃ (x204A : Option Addr), ∃ (x204N : Nat), ∃ (x204C : Nat), v_1 = (.agg #[(.int .i64 x200), (.int .i64 x201), (.slice x202A x202N x202C), (.int .i64 x203), (.slice x204A x204N x204C)]) ∧
  vS w6 ∧
  ∀ w7 : World, w7 = w6.alloc (.cells #[(.int .i64 x200), (.int .i64 x201), (.slice x202A x202N x202C), (.int .i64 x203), (.slice x204A x204N x204C)] 32 (0, 0)) →
  vS w7 ∧
  Calls Try.prog 57 #[(.slice x18A x18N x18C), (.int .i64 0), (.slice (some (⟨w6.heap.size, 0, none⟩ : Addr)) 1 1)] w7 (Ret fun v_2 w8 => ∃ (x22A : Option Addr), ∃ (x22N : Nat), ∃ (x22C : Nat), v_2 = (.slice x22A x22N x22C) ∧
  vS w8 ∧
  (((∃ u, w8.cell? (⟨wB, 1, none⟩ : Addr) = some u) ∧ w8.frozen? (⟨wB, 1, none⟩ : Addr) = false)) ∧ ∀ w9 : World, w9 = (w8.setCell (⟨wB, 1, none⟩ : Addr) (.slice x22A x22N x22C)) →
  R (.int .i64 0) w9))))
theorem ward_Ward_Back.vc_eq (wB : Nat) (a0 : Int) (a1 : Int) (a2A : Option Addr) (a2N : Nat) (a2C : Nat) (a3 : Int) (a4A : Option Addr) (a4N : Nat) (a4C : Nat) (w : World) (R : Value → World → Prop) : fnV Try.prog Try.f18 (.k (.c .nil (.tk 0 (.tk 1 (.tk 2 (.tk 3 (.tk 4 (.tk 5 (.alt 6 (.alt 7 (.alt 8 (.tk 9 (.tk 10 (.last 11 (.fin .nil)))) .nil) .nil) .nil))))))))) [(.pointer (some (⟨wB, 0, none⟩ : Addr))), (.agg #[(.int .i64 a0), (.int .i64 a1), (.slice a2A a2N a2C), (.int .i64 a3), (.slice a4A a4N a4C)])] w R = ward_Ward_Back.vc wB a0 a1 a2A a2N a2C a3 a4A a4N a4C w R := by kernel_rfl
theorem ward_Ward_Back.calls (wB : Nat) (a0 : Int) (a1 : Int) (a2A : Option Addr) (a2N : Nat) (a2C : Nat) (a3 : Int) (a4A : Option Addr) (a4N : Nat) (a4C : Nat) {w : World} {R : Value → World → Prop} (h : ward_Ward_Back.vc wB a0 a1 a2A a2N a2C a3 a4A a4N a4C w R) : Calls Try.prog 18 #[(.pointer (some (⟨wB, 0, none⟩ : Addr))), (.agg #[(.int .i64 a0), (.int .i64 a1), (.slice a2A a2N a2C), (.int .i64 a3), (.slice a4A a4N a4C)])] w (Ret R) :=
  calls_V fit Try.func18 (.k (.c .nil (.tk 0 (.tk 1 (.tk 2 (.tk 3 (.tk 4 (.tk 5 (.alt 6 (.alt 7 (.alt 8 (.tk 9 (.tk 10 (.last 11 (.fin .nil)))) .nil) .nil) .nil))))))))) (by rw [show (#[(.pointer (some (⟨wB, 0, none⟩ : Addr))), (.agg #[(.int .i64 a0), (.int .i64 a1), (.slice a2A a2N a2C), (.int .i64 a3), (.slice a4A a4N a4C)])] : Array Value).toList = [(.pointer (some (⟨wB, 0, none⟩ : Addr))), (.agg #[(.int .i64 a0), (.int .i64 a1), (.slice a2A a2N a2C), (.int .i64 a3), (.slice a4A a4N a4C)])] from rfl, ward_Ward_Back.vc_eq]; exact h)
end Go.Proofs.Ytamkffjmggbekaa.Vc
