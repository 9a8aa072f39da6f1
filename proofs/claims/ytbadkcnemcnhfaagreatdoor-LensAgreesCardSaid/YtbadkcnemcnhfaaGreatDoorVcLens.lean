import Derived.Test.YtbadkcnemcnhfaaGreatDoorVc
import Derived.Test.YtbadkcnemcnhfaaGreatDoorH
import Derived.Test.YtbadkcnemcnhfaaGreatDoorProg
import Derived.KernelRfl
set_option linter.unusedVariables false
set_option maxRecDepth 100000
namespace Go.Proofs.YtbadkcnemcnhfaaGreatDoor.Vc
open Go Go.Proofs Go.Proofs.YtbadkcnemcnhfaaGreatDoor.V
/-- function 27 -/
def lens_check.vc (aB : Nat) (bB : Nat) (w : World) (R : Value → World → Prop) : Prop :=
  ∃ vS : World → Prop, ∀ w1 : World, w1 = w.drew → vS w1 ∧
  ∃ (x170 : Int), ∃ (x171 : Int), ∃ (x172 : Int), ∃ (x173 : Int), ∃ (x174 : Int), ∃ (x175 : Int), ((∀ w2, vS w2 → w2.cell? (⟨aB, 0, none⟩ : Addr) = some (.int .i64 x170)) ∧ (∀ w2, vS w2 → w2.cell? (⟨aB, 1, none⟩ : Addr) = some (.int .i64 x171)) ∧ (∀ w2, vS w2 → w2.cell? (⟨aB, 2, none⟩ : Addr) = some (.int .i64 x172)) ∧ (∀ w2, vS w2 → w2.cell? (⟨aB, 3, none⟩ : Addr) = some (.int .i64 x173)) ∧ (∀ w2, vS w2 → w2.cell? (⟨aB, 4, none⟩ : Addr) = some (.int .i64 x174)) ∧ (∀ w2, vS w2 → w2.cell? (⟨aB, 5, none⟩ : Addr) = some (.int .i64 x175))) ∧
  ∃ (x220 : Int), ∃ (x221 : Int), ∃ (x222 : Int), ∃ (x223 : Int), ∃ (x224 : Int), ∃ (x225 : Int), ((∀ w3, vS w3 → w3.cell? (⟨bB, 0, none⟩ : Addr) = some (.int .i64 x220)) ∧ (∀ w3, vS w3 → w3.cell? (⟨bB, 1, none⟩ : Addr) = some (.int .i64 x221)) ∧ (∀ w3, vS w3 → w3.cell? (⟨bB, 2, none⟩ : Addr) = some (.int .i64 x222)) ∧ (∀ w3, vS w3 → w3.cell? (⟨bB, 3, none⟩ : Addr) = some (.int .i64 x223)) ∧ (∀ w3, vS w3 → w3.cell? (⟨bB, 4, none⟩ : Addr) = some (.int .i64 x224)) ∧ (∀ w3, vS w3 → w3.cell? (⟨bB, 5, none⟩ : Addr) = some (.int .i64 x225))) ∧
  ((!((x170 == x220) && ((x171 == x221) && ((x172 == x222) && ((x173 == x223) && ((x174 == x224) && ((x175 == x225) && true))))))) = true →
  R (.int .i64 1) w1) ∧
  ((!((x170 == x220) && ((x171 == x221) && ((x172 == x222) && ((x173 == x223) && ((x174 == x224) && ((x175 == x225) && true))))))) = false →
  R (.int .i64 0) w1)
theorem lens_check.vc_eq (aB : Nat) (bB : Nat) (w : World) (R : Value → World → Prop) : fnV Tryz.prog Tryz.f27 (.k (.tk 0 (.tk 1 (.tk 2 (.tk 3 (.tk 4 (.tk 5 (.tk 6 (.tk 7 (.tk 8 (.tk 9 (.tk 10 (.tk 11 (.fin (.c .nil .nil))))))))))))))) [(.pointer (some (⟨aB, 0, none⟩ : Addr))), (.pointer (some (⟨bB, 0, none⟩ : Addr)))] w R = lens_check.vc aB bB w R := by kernel_rfl
theorem lens_check.calls (aB : Nat) (bB : Nat) {w : World} {R : Value → World → Prop} (h : lens_check.vc aB bB w R) : Calls Tryz.prog 27 #[(.pointer (some (⟨aB, 0, none⟩ : Addr))), (.pointer (some (⟨bB, 0, none⟩ : Addr)))] w (Ret R) :=
  calls_V fit Tryz.func27 (.k (.tk 0 (.tk 1 (.tk 2 (.tk 3 (.tk 4 (.tk 5 (.tk 6 (.tk 7 (.tk 8 (.tk 9 (.tk 10 (.tk 11 (.fin (.c .nil .nil))))))))))))))) (by rw [show (#[(.pointer (some (⟨aB, 0, none⟩ : Addr))), (.pointer (some (⟨bB, 0, none⟩ : Addr)))] : Array Value).toList = [(.pointer (some (⟨aB, 0, none⟩ : Addr))), (.pointer (some (⟨bB, 0, none⟩ : Addr)))] from rfl, lens_check.vc_eq]; exact h)
/-- function 19 -/
def lens_isAlone.vc (part : Int) (w : World) (R : Value → World → Prop) : Prop :=
  (decide (part < (2 : Int)) = true →
  R (.bool true) w) ∧
  (decide (part < (2 : Int)) = false →
  R (.bool (part == (11 : Int))) w)
theorem lens_isAlone.vc_eq (part : Int) (w : World) (R : Value → World → Prop) : fnV Tryz.prog Tryz.f19 (.at_ 1 2 .nil .nil) [(.int .i64 part)] w R = lens_isAlone.vc part w R := by kernel_rfl
theorem lens_isAlone.calls (part : Int) {w : World} {R : Value → World → Prop} (h : lens_isAlone.vc part w R) : Calls Tryz.prog 19 #[(.int .i64 part)] w (Ret R) :=
  calls_V fit Tryz.func19 (.at_ 1 2 .nil .nil) (by rw [show (#[(.int .i64 part)] : Array Value).toList = [(.int .i64 part)] from rfl, lens_isAlone.vc_eq]; exact h)
/-- function 28 -/
def lens_places.vc (s0 : Int) (s1 : Int) (s2 : Int) (s3 : Int) (s4 : Int) (s5 : Int) (w : World) (R : Value → World → Prop) : Prop :=
  ∀ w1 : World, w1 = w.alloc (.cells #[(.int .i64 s0), (.int .i64 s1), (.int .i64 s2), (.int .i64 s3), (.int .i64 s4), (.int .i64 s5)] 55 (0, 0)) →
  ∀ w2 : World, w2 = w1.alloc (.cells #[(.int .i64 0), (.int .i64 0), (.int .i64 1), (.int .i64 0)] 24 (0, 0)) →
  ∃ (x11 : Int), w2.cell? (⟨w.heap.size, 3, none⟩ : Addr) = some (.int .i64 x11) ∧
  ∃ vI : Option Addr → Nat → Nat → Int → Nat → World → Prop, (∃ vk_2 : Nat, vI (some (⟨w1.heap.size, 0, none⟩ : Addr)) 2 2 0 vk_2 w2) ∧
  ∀ (jk : Nat → Value) (outA : Option Addr) (outN : Nat) (outC : Nat) (x12 : Int), ∀ (vk : Nat) (w3 : World), vI outA outN outC x12 vk w3 →
  (decide (x12 < x11) = true →
  ∃ vI_1 : Option Addr → Nat → Nat → Int → Nat → World → Prop, (∃ vk_5 : Nat, vI_1 outA outN outC 2 vk_5 w3) ∧
  ∀ (jk : Nat → Value) (outA_1 : Option Addr) (outN_1 : Nat) (outC_1 : Nat) (part : Int), ∀ (vk_3 : Nat) (w4 : World), vI_1 outA_1 outN_1 outC_1 part vk_3 w4 →
  (decide (part ≤ (10 : Int)) = true →
  ∀ w5 : World, w5 = w4.alloc (.cells #[(.int .i64 part), (.int .i64 x12)] 24 (0, 0)) →
  ∃ (x24A : Option Addr), ∃ (x24N : Nat), ∃ (x24C : Nat), ∃ w6 : World, (Builtin.append_ #[76, 76] 76 #[(.slice outA_1 outN_1 outC_1), (.slice (some (⟨w4.heap.size, 0, none⟩ : Addr)) 1 1)]).run Tryz.prog w5 = .ok (.slice x24A x24N x24C) w6 ∧
  ∃ vk_4 : Nat, vk_4 < vk_3 ∧ vI_1 x24A x24N x24C (IntKind.i64.wrap (part + 1)) vk_4 w6) ∧
  (decide (part ≤ (10 : Int)) = false →
  ∃ vk_1 : Nat, vk_1 < vk ∧ vI outA_1 outN_1 outC_1 (IntKind.i64.wrap (x12 + 1)) vk_1 w4)) ∧
  (decide (x12 < x11) = false →
  ∀ w7 : World, w7 = w3.alloc (.cells #[(.int .i64 11), (.int .i64 0)] 24 (0, 0)) →
  ∃ (x29A : Option Addr), ∃ (x29N : Nat), ∃ (x29C : Nat), ∃ w8 : World, (Builtin.append_ #[76, 76] 76 #[(.slice outA outN outC), (.slice (some (⟨w3.heap.size, 0, none⟩ : Addr)) 1 1)]).run Tryz.prog w7 = .ok (.slice x29A x29N x29C) w8 ∧
  R (.slice x29A x29N x29C) w8)
theorem lens_places.vc_eq (s0 : Int) (s1 : Int) (s2 : Int) (s3 : Int) (s4 : Int) (s5 : Int) (w : World) (R : Value → World → Prop) : fnV Tryz.prog Tryz.f28 (.lp [(3, some (.slice)), (4, none), (5, none), (12, some (.int .i64)), (13, none), (14, none), (15, none), (16, none), (17, none), (18, none), (19, none), (20, none), (21, none), (22, none), (23, none), (24, none), (25, none)] (.c (.lp [(3, some (.slice)), (5, some (.int .i64)), (15, none), (16, none), (17, none), (18, none), (19, none), (20, none), (21, none), (22, none), (23, none), (24, none)] (.c .nil .nil)) .nil)) [(.agg #[(.int .i64 s0), (.int .i64 s1), (.int .i64 s2), (.int .i64 s3), (.int .i64 s4), (.int .i64 s5)])] w R = lens_places.vc s0 s1 s2 s3 s4 s5 w R := by kernel_rfl
theorem lens_places.calls (s0 : Int) (s1 : Int) (s2 : Int) (s3 : Int) (s4 : Int) (s5 : Int) {w : World} {R : Value → World → Prop} (h : lens_places.vc s0 s1 s2 s3 s4 s5 w R) : Calls Tryz.prog 28 #[(.agg #[(.int .i64 s0), (.int .i64 s1), (.int .i64 s2), (.int .i64 s3), (.int .i64 s4), (.int .i64 s5)])] w (Ret R) :=
  calls_V fit Tryz.func28 (.lp [(3, some (.slice)), (4, none), (5, none), (12, some (.int .i64)), (13, none), (14, none), (15, none), (16, none), (17, none), (18, none), (19, none), (20, none), (21, none), (22, none), (23, none), (24, none), (25, none)] (.c (.lp [(3, some (.slice)), (5, some (.int .i64)), (15, none), (16, none), (17, none), (18, none), (19, none), (20, none), (21, none), (22, none), (23, none), (24, none)] (.c .nil .nil)) .nil)) (by rw [show (#[(.agg #[(.int .i64 s0), (.int .i64 s1), (.int .i64 s2), (.int .i64 s3), (.int .i64 s4), (.int .i64 s5)])] : Array Value).toList = [(.agg #[(.int .i64 s0), (.int .i64 s1), (.int .i64 s2), (.int .i64 s3), (.int .i64 s4), (.int .i64 s5)])] from rfl, lens_places.vc_eq]; exact h)
/-- function 32 -/
def lens_apart.vc (va : Int) (b : Int) (w : World) (R : Value → World → Prop) : Prop :=
  R (.int .i64 (IntKind.i64.wrap ((if (IntKind.i64.wrap b) > (IntKind.i64.wrap va) then (IntKind.i64.wrap b) else (IntKind.i64.wrap va)) - (if (IntKind.i64.wrap b) < (IntKind.i64.wrap va) then (IntKind.i64.wrap b) else (IntKind.i64.wrap va))))) w
theorem lens_apart.vc_eq (va : Int) (b : Int) (w : World) (R : Value → World → Prop) : fnV Tryz.prog Tryz.f32 .nil [(.int .i8 va), (.int .i8 b)] w R = lens_apart.vc va b w R := by kernel_rfl
theorem lens_apart.calls (va : Int) (b : Int) {w : World} {R : Value → World → Prop} (h : lens_apart.vc va b w R) : Calls Tryz.prog 32 #[(.int .i8 va), (.int .i8 b)] w (Ret R) :=
  calls_V fit Tryz.func32 .nil (by rw [show (#[(.int .i8 va), (.int .i8 b)] : Array Value).toList = [(.int .i8 va), (.int .i8 b)] from rfl, lens_apart.vc_eq]; exact h)
/-- function 30 -/
def lens_change.vc (p0 : Int) (p1 : Int) (a0 : Int) (a1 : Int) (a2A : Option Addr) (a2N : Nat) (a2C : Nat) (b0 : Int) (b1 : Int) (b2A : Option Addr) (b2N : Nat) (b2C : Nat) (w : World) (R : Value → World → Prop) : Prop :=
  ∀ w1 : World, w1 = w.alloc (.cells #[(.int .i64 p0), (.int .i64 p1)] 24 (0, 0)) →
  ∀ w2 : World, w2 = w1.alloc (.cells #[(.int .i64 a0), (.int .i64 a1), (.slice a2A a2N a2C)] 80 (0, 0)) →
  ∀ w3 : World, w3 = w2.alloc (.cells #[(.int .i64 b0), (.int .i64 b1), (.slice b2A b2N b2C)] 80 (0, 0)) →
  ∀ w4 : World, w4 = w3.alloc (.cells #[(.int .i64 0), (.int .i64 0), (.int .i64 0), (.int .i64 0)] 52 (0, 0)) →
  ∃ (x110 : Int), ∃ (x111 : Int), (w4.cell? (⟨w.heap.size, 0, none⟩ : Addr) = some (.int .i64 x110) ∧ w4.cell? (⟨w.heap.size, 1, none⟩ : Addr) = some (.int .i64 x111)) ∧
  ∀ w5 : World, w5 = w4.alloc (.cells #[(.int .i64 0), (.int .i64 0), (.int .i64 0), (.int .i64 0)] 52 (0, 0)) →
  (((∃ u, w5.cell? (⟨w4.heap.size, 0, none⟩ : Addr) = some u) ∧ w5.frozen? (⟨w4.heap.size, 0, none⟩ : Addr) = false) ∧ ((∃ u, w5.cell? (⟨w4.heap.size, 1, none⟩ : Addr) = some u) ∧ w5.frozen? (⟨w4.heap.size, 1, none⟩ : Addr) = false) ∧ ((∃ u, w5.cell? (⟨w4.heap.size, 2, none⟩ : Addr) = some u) ∧ w5.frozen? (⟨w4.heap.size, 2, none⟩ : Addr) = false) ∧ ((∃ u, w5.cell? (⟨w4.heap.size, 3, none⟩ : Addr) = some u) ∧ w5.frozen? (⟨w4.heap.size, 3, none⟩ : Addr) = false)) ∧ ∀ w6 : World, w6 = ((((w5.setCell (⟨w4.heap.size, 0, none⟩ : Addr) (.int .i64 x110)).setCell (⟨w4.heap.size, 1, none⟩ : Addr) (.int .i64 x111)).setCell (⟨w4.heap.size, 2, none⟩ : Addr) (.int .i64 0)).setCell (⟨w4.heap.size, 3, none⟩ : Addr) (.int .i64 0)) →
  ∃ (x14A : Option Addr), ∃ (x14N : Nat), ∃ (x14C : Nat), w6.cell? (⟨w1.heap.size, 2, none⟩ : Addr) = some (.slice x14A x14N x14C) ∧
  ∃ vI : Int → Nat → World → Prop, (∃ vk_2 : Nat, vI 0 vk_2 w6) ∧
  ∀ (jk : Nat → Value) (x16 : Int), ∀ (vk : Nat) (w7 : World), vI x16 vk w7 →
  (decide (x16 < ((x14N : Nat) : Int)) = true →
  (0 ≤ x16 ∧ x16 < ((x14N : Nat) : Int)) ∧ someV x14A fun p =>
  ∃ (x20 : Int), w7.cell? (p.add (x16.toNat * 1)) = some (.int .i8 x20) ∧
  ∃ (x23A : Option Addr), ∃ (x23N : Nat), ∃ (x23C : Nat), w7.cell? (⟨w2.heap.size, 2, none⟩ : Addr) = some (.slice x23A x23N x23C) ∧
  (0 ≤ x16 ∧ x16 < ((x23N : Nat) : Int)) ∧ someV x23A fun p_1 =>
  ∃ (x26 : Int), w7.cell? (p_1.add (x16.toNat * 1)) = some (.int .i8 x26) ∧
  Calls Tryz.prog 32 #[(.int .i8 x20), (.int .i8 x26)] w7 (Ret fun v w8 => ∃ (x27 : Int), v = (.int .i64 x27) ∧
  (decide (x27 > (0 : Int)) = true →
  ∃ (x31 : Int), w8.cell? (⟨w4.heap.size, 2, none⟩ : Addr) = some (.int .i64 x31) ∧
  (((∃ u, w8.cell? (⟨w4.heap.size, 2, none⟩ : Addr) = some u) ∧ w8.frozen? (⟨w4.heap.size, 2, none⟩ : Addr) = false)) ∧ ∀ w9 : World, w9 = (w8.setCell (⟨w4.heap.size, 2, none⟩ : Addr) (.int .i64 (IntKind.i64.wrap (x31 + 1)))) →
  ∃ (x35 : Int), w9.cell? (⟨w4.heap.size, 3, none⟩ : Addr) = some (.int .i64 x35) ∧
  (((∃ u, w9.cell? (⟨w4.heap.size, 3, none⟩ : Addr) = some u) ∧ w9.frozen? (⟨w4.heap.size, 3, none⟩ : Addr) = false)) ∧ ∀ w10 : World, w10 = (w9.setCell (⟨w4.heap.size, 3, none⟩ : Addr) (.int .i64 (if x27 > x35 then x27 else x35))) →
  ∃ vk_1 : Nat, vk_1 < vk ∧ vI (IntKind.i64.wrap (x16 + 1)) vk_1 w10) ∧
  (decide (x27 > (0 : Int)) = false →
  ∃ vk_1 : Nat, vk_1 < vk ∧ vI (IntKind.i64.wrap (x16 + 1)) vk_1 w8))) ∧
  (decide (x16 < ((x14N : Nat) : Int)) = false →
  ∃ (x400 : Int), ∃ (x401 : Int), ∃ (x402 : Int), ∃ (x403 : Int), (w7.cell? (⟨w4.heap.size, 0, none⟩ : Addr) = some (.int .i64 x400) ∧ w7.cell? (⟨w4.heap.size, 1, none⟩ : Addr) = some (.int .i64 x401) ∧ w7.cell? (⟨w4.heap.size, 2, none⟩ : Addr) = some (.int .i64 x402) ∧ w7.cell? (⟨w4.heap.size, 3, none⟩ : Addr) = some (.int .i64 x403)) ∧
  (((∃ u, w7.cell? (⟨w3.heap.size, 0, none⟩ : Addr) = some u) ∧ w7.frozen? (⟨w3.heap.size, 0, none⟩ : Addr) = false) ∧ ((∃ u, w7.cell? (⟨w3.heap.size, 1, none⟩ : Addr) = some u) ∧ w7.frozen? (⟨w3.heap.size, 1, none⟩ : Addr) = false) ∧ ((∃ u, w7.cell? (⟨w3.heap.size, 2, none⟩ : Addr) = some u) ∧ w7.frozen? (⟨w3.heap.size, 2, none⟩ : Addr) = false) ∧ ((∃ u, w7.cell? (⟨w3.heap.size, 3, none⟩ : Addr) = some u) ∧ w7.frozen? (⟨w3.heap.size, 3, none⟩ : Addr) = false)) ∧ ∀ w11 : World, w11 = ((((w7.setCell (⟨w3.heap.size, 0, none⟩ : Addr) (.int .i64 x400)).setCell (⟨w3.heap.size, 1, none⟩ : Addr) (.int .i64 x401)).setCell (⟨w3.heap.size, 2, none⟩ : Addr) (.int .i64 x402)).setCell (⟨w3.heap.size, 3, none⟩ : Addr) (.int .i64 x403)) →
  ∃ (r00 : Int), ∃ (r01 : Int), ∃ (r02 : Int), ∃ (r03 : Int), (w11.cell? (⟨w3.heap.size, 0, none⟩ : Addr) = some (.int .i64 r00) ∧ w11.cell? (⟨w3.heap.size, 1, none⟩ : Addr) = some (.int .i64 r01) ∧ w11.cell? (⟨w3.heap.size, 2, none⟩ : Addr) = some (.int .i64 r02) ∧ w11.cell? (⟨w3.heap.size, 3, none⟩ : Addr) = some (.int .i64 r03)) ∧
  R (.agg #[(.int .i64 r00), (.int .i64 r01), (.int .i64 r02), (.int .i64 r03)]) w11)
theorem lens_change.vc_eq (p0 : Int) (p1 : Int) (a0 : Int) (a1 : Int) (a2A : Option Addr) (a2N : Nat) (a2C : Nat) (b0 : Int) (b1 : Int) (b2A : Option Addr) (b2N : Nat) (b2C : Nat) (w : World) (R : Value → World → Prop) : fnV Tryz.prog Tryz.f30 (.lp [(8, none), (9, none), (10, none), (16, some (.int .i64)), (17, none), (18, none), (19, none), (20, none), (21, none), (22, none), (23, none), (24, none), (25, none), (26, none), (27, none), (28, none), (29, none), (30, none), (31, none), (32, none), (33, none), (34, none), (35, none), (36, none), (37, none), (38, none), (39, none)] (.c (.c .nil .nil) .nil)) [(.agg #[(.int .i64 p0), (.int .i64 p1)]), (.agg #[(.int .i64 a0), (.int .i64 a1), (.slice a2A a2N a2C)]), (.agg #[(.int .i64 b0), (.int .i64 b1), (.slice b2A b2N b2C)])] w R = lens_change.vc p0 p1 a0 a1 a2A a2N a2C b0 b1 b2A b2N b2C w R := by kernel_rfl
theorem lens_change.calls (p0 : Int) (p1 : Int) (a0 : Int) (a1 : Int) (a2A : Option Addr) (a2N : Nat) (a2C : Nat) (b0 : Int) (b1 : Int) (b2A : Option Addr) (b2N : Nat) (b2C : Nat) {w : World} {R : Value → World → Prop} (h : lens_change.vc p0 p1 a0 a1 a2A a2N a2C b0 b1 b2A b2N b2C w R) : Calls Tryz.prog 30 #[(.agg #[(.int .i64 p0), (.int .i64 p1)]), (.agg #[(.int .i64 a0), (.int .i64 a1), (.slice a2A a2N a2C)]), (.agg #[(.int .i64 b0), (.int .i64 b1), (.slice b2A b2N b2C)])] w (Ret R) :=
  calls_V fit Tryz.func30 (.lp [(8, none), (9, none), (10, none), (16, some (.int .i64)), (17, none), (18, none), (19, none), (20, none), (21, none), (22, none), (23, none), (24, none), (25, none), (26, none), (27, none), (28, none), (29, none), (30, none), (31, none), (32, none), (33, none), (34, none), (35, none), (36, none), (37, none), (38, none), (39, none)] (.c (.c .nil .nil) .nil)) (by rw [show (#[(.agg #[(.int .i64 p0), (.int .i64 p1)]), (.agg #[(.int .i64 a0), (.int .i64 a1), (.slice a2A a2N a2C)]), (.agg #[(.int .i64 b0), (.int .i64 b1), (.slice b2A b2N b2C)])] : Array Value).toList = [(.agg #[(.int .i64 p0), (.int .i64 p1)]), (.agg #[(.int .i64 a0), (.int .i64 a1), (.slice a2A a2N a2C)]), (.agg #[(.int .i64 b0), (.int .i64 b1), (.slice b2A b2N b2C)])] from rfl, lens_change.vc_eq]; exact h)
/-- function 13 -/
def lens_Changes.vc (aB : Nat) (bB : Nat) (w : World) (R : Value → World → Prop) : Prop :=
  Calls Tryz.prog 27 #[(.pointer (some (⟨aB, 0, none⟩ : Addr))), (.pointer (some (⟨bB, 0, none⟩ : Addr)))] w (Ret fun v w1 => ∃ (x17 : Int), v = (.int .i64 x17) ∧
  ((x17 != (0 : Int)) = true →
  R (.tuple #[(.slice none 0 0), (.int .i64 x17)]) w1) ∧
  ((x17 != (0 : Int)) = false →
  ∃ (x240 : Int), ∃ (x241 : Int), ∃ (x242 : Int), ∃ (x243 : Int), ∃ (x244 : Int), ∃ (x245 : Int), (w1.cell? (⟨aB, 0, none⟩ : Addr) = some (.int .i64 x240) ∧ w1.cell? (⟨aB, 1, none⟩ : Addr) = some (.int .i64 x241) ∧ w1.cell? (⟨aB, 2, none⟩ : Addr) = some (.int .i64 x242) ∧ w1.cell? (⟨aB, 3, none⟩ : Addr) = some (.int .i64 x243) ∧ w1.cell? (⟨aB, 4, none⟩ : Addr) = some (.int .i64 x244) ∧ w1.cell? (⟨aB, 5, none⟩ : Addr) = some (.int .i64 x245)) ∧
  Calls Tryz.prog 28 #[(.agg #[(.int .i64 x240), (.int .i64 x241), (.int .i64 x242), (.int .i64 x243), (.int .i64 x244), (.int .i64 x245)])] w1 (Ret fun v_1 w2 => ∃ (x25A : Option Addr), ∃ (x25N : Nat), ∃ (x25C : Nat), v_1 = (.slice x25A x25N x25C) ∧
  ∃ vI : Option Addr → Nat → Nat → Int → Nat → World → Prop, (∃ vk_2 : Nat, vI none 0 0 0 vk_2 w2) ∧
  ∀ (jk : Nat → Value) (outA : Option Addr) (outN : Nat) (outC : Nat) (x27 : Int), ∀ (vk : Nat) (w3 : World), vI outA outN outC x27 vk w3 →
  (decide (x27 < ((x25N : Nat) : Int)) = true →
  (0 ≤ x27 ∧ x27 < ((x25N : Nat) : Int)) ∧ someV x25A fun p =>
  ∃ (x300 : Int), ∃ (x301 : Int), (w3.cell? (p.add (x27.toNat * 2)) = some (.int .i64 x300) ∧ w3.cell? ((p.add (x27.toNat * 2)).add 1) = some (.int .i64 x301)) ∧
  ∀ w4 : World, w4 = w3.alloc (.cells #[(.int .i64 0), (.int .i64 0)] 24 (0, 0)) →
  (((∃ u, w4.cell? (⟨w3.heap.size, 0, none⟩ : Addr) = some u) ∧ w4.frozen? (⟨w3.heap.size, 0, none⟩ : Addr) = false) ∧ ((∃ u, w4.cell? (⟨w3.heap.size, 1, none⟩ : Addr) = some u) ∧ w4.frozen? (⟨w3.heap.size, 1, none⟩ : Addr) = false)) ∧ ∀ w5 : World, w5 = ((w4.setCell (⟨w3.heap.size, 0, none⟩ : Addr) (.int .i64 x300)).setCell (⟨w3.heap.size, 1, none⟩ : Addr) (.int .i64 x301)) →
  ∃ (x34 : Int), w5.cell? (⟨w3.heap.size, 0, none⟩ : Addr) = some (.int .i64 x34) ∧
  ∃ (x36 : Int), w5.cell? (⟨w3.heap.size, 1, none⟩ : Addr) = some (.int .i64 x36) ∧
  Calls Tryz.prog 29 #[(.pointer (some (⟨aB, 0, none⟩ : Addr))), (.int .i64 x34), (.int .i64 x36)] w5 (Ret fun v_2 w6 => ∃ (x37_00 : Int), ∃ (x37_01 : Int), ∃ (x37_02A : Option Addr), ∃ (x37_02N : Nat), ∃ (x37_02C : Nat), ∃ (x37_1 : Bool), v_2 = (.tuple #[(.agg #[(.int .i64 x37_00), (.int .i64 x37_01), (.slice x37_02A x37_02N x37_02C)]), (.bool x37_1)]) ∧
  ∀ w7 : World, w7 = w6.alloc (.cells #[(.int .i64 0), (.int .i64 0), (.slice none 0 0)] 80 (0, 0)) →
  (((∃ u, w7.cell? (⟨w6.heap.size, 0, none⟩ : Addr) = some u) ∧ w7.frozen? (⟨w6.heap.size, 0, none⟩ : Addr) = false) ∧ ((∃ u, w7.cell? (⟨w6.heap.size, 1, none⟩ : Addr) = some u) ∧ w7.frozen? (⟨w6.heap.size, 1, none⟩ : Addr) = false) ∧ ((∃ u, w7.cell? (⟨w6.heap.size, 2, none⟩ : Addr) = some u) ∧ w7.frozen? (⟨w6.heap.size, 2, none⟩ : Addr) = false)) ∧ ∀ w8 : World, w8 = (((w7.setCell (⟨w6.heap.size, 0, none⟩ : Addr) (.int .i64 x37_00)).setCell (⟨w6.heap.size, 1, none⟩ : Addr) (.int .i64 x37_01)).setCell (⟨w6.heap.size, 2, none⟩ : Addr) (.slice x37_02A x37_02N x37_02C)) →
  ∃ (x43 : Int), w8.cell? (⟨w3.heap.size, 0, none⟩ : Addr) = some (.int .i64 x43) ∧
  ∃ (x45 : Int), w8.cell? (⟨w3.heap.size, 1, none⟩ : Addr) = some (.int .i64 x45) ∧
  Calls Tryz.prog 29 #[(.pointer (some (⟨bB, 0, none⟩ : Addr))), (.int .i64 x43), (.int .i64 x45)] w8 (Ret fun v_3 w9 => ∃ (x46_00 : Int), ∃ (x46_01 : Int), ∃ (x46_02A : Option Addr), ∃ (x46_02N : Nat), ∃ (x46_02C : Nat), ∃ (x46_1 : Bool), v_3 = (.tuple #[(.agg #[(.int .i64 x46_00), (.int .i64 x46_01), (.slice x46_02A x46_02N x46_02C)]), (.bool x46_1)]) ∧
  ∀ w10 : World, w10 = w9.alloc (.cells #[(.int .i64 0), (.int .i64 0), (.slice none 0 0)] 80 (0, 0)) →
  (((∃ u, w10.cell? (⟨w9.heap.size, 0, none⟩ : Addr) = some u) ∧ w10.frozen? (⟨w9.heap.size, 0, none⟩ : Addr) = false) ∧ ((∃ u, w10.cell? (⟨w9.heap.size, 1, none⟩ : Addr) = some u) ∧ w10.frozen? (⟨w9.heap.size, 1, none⟩ : Addr) = false) ∧ ((∃ u, w10.cell? (⟨w9.heap.size, 2, none⟩ : Addr) = some u) ∧ w10.frozen? (⟨w9.heap.size, 2, none⟩ : Addr) = false)) ∧ ∀ w11 : World, w11 = (((w10.setCell (⟨w9.heap.size, 0, none⟩ : Addr) (.int .i64 x46_00)).setCell (⟨w9.heap.size, 1, none⟩ : Addr) (.int .i64 x46_01)).setCell (⟨w9.heap.size, 2, none⟩ : Addr) (.slice x46_02A x46_02N x46_02C)) →
  ∃ (x490 : Int), ∃ (x491 : Int), (w11.cell? (⟨w3.heap.size, 0, none⟩ : Addr) = some (.int .i64 x490) ∧ w11.cell? (⟨w3.heap.size, 1, none⟩ : Addr) = some (.int .i64 x491)) ∧
  ∃ (x500 : Int), ∃ (x501 : Int), ∃ (x502A : Option Addr), ∃ (x502N : Nat), ∃ (x502C : Nat), (w11.cell? (⟨w6.heap.size, 0, none⟩ : Addr) = some (.int .i64 x500) ∧ w11.cell? (⟨w6.heap.size, 1, none⟩ : Addr) = some (.int .i64 x501) ∧ w11.cell? (⟨w6.heap.size, 2, none⟩ : Addr) = some (.slice x502A x502N x502C)) ∧
  ∃ (x510 : Int), ∃ (x511 : Int), ∃ (x512A : Option Addr), ∃ (x512N : Nat), ∃ (x512C : Nat), (w11.cell? (⟨w9.heap.size, 0, none⟩ : Addr) = some (.int .i64 x510) ∧ w11.cell? (⟨w9.heap.size, 1, none⟩ : Addr) = some (.int .i64 x511) ∧ w11.cell? (⟨w9.heap.size, 2, none⟩ : Addr) = some (.slice x512A x512N x512C)) ∧
  Calls Tryz.prog 30 #[(.agg #[(.int .i64 x490), (.int .i64 x491)]), (.agg #[(.int .i64 x500), (.int .i64 x501), (.slice x502A x502N x502C)]), (.agg #[(.int .i64 x510), (.int .i64 x511), (.slice x512A x512N x512C)])] w11 (Ret fun v_4 w12 => ∃ (x520 : Int), ∃ (x521 : Int), ∃ (x522 : Int), ∃ (x523 : Int), v_4 = (.agg #[(.int .i64 x520), (.int .i64 x521), (.int .i64 x522), (.int .i64 x523)]) ∧
  ∀ w13 : World, w13 = w12.alloc (.cells #[(.int .i64 0), (.int .i64 0), (.int .i64 0), (.int .i64 0)] 52 (0, 0)) →
  (((∃ u, w13.cell? (⟨w12.heap.size, 0, none⟩ : Addr) = some u) ∧ w13.frozen? (⟨w12.heap.size, 0, none⟩ : Addr) = false) ∧ ((∃ u, w13.cell? (⟨w12.heap.size, 1, none⟩ : Addr) = some u) ∧ w13.frozen? (⟨w12.heap.size, 1, none⟩ : Addr) = false) ∧ ((∃ u, w13.cell? (⟨w12.heap.size, 2, none⟩ : Addr) = some u) ∧ w13.frozen? (⟨w12.heap.size, 2, none⟩ : Addr) = false) ∧ ((∃ u, w13.cell? (⟨w12.heap.size, 3, none⟩ : Addr) = some u) ∧ w13.frozen? (⟨w12.heap.size, 3, none⟩ : Addr) = false)) ∧ ∀ w14 : World, w14 = ((((w13.setCell (⟨w12.heap.size, 0, none⟩ : Addr) (.int .i64 x520)).setCell (⟨w12.heap.size, 1, none⟩ : Addr) (.int .i64 x521)).setCell (⟨w12.heap.size, 2, none⟩ : Addr) (.int .i64 x522)).setCell (⟨w12.heap.size, 3, none⟩ : Addr) (.int .i64 x523)) →
  ∃ (x54 : Int), w14.cell? (⟨w12.heap.size, 2, none⟩ : Addr) = some (.int .i64 x54) ∧
  (decide (x54 > (0 : Int)) = true →
  ∃ (x570 : Int), ∃ (x571 : Int), ∃ (x572 : Int), ∃ (x573 : Int), (w14.cell? (⟨w12.heap.size, 0, none⟩ : Addr) = some (.int .i64 x570) ∧ w14.cell? (⟨w12.heap.size, 1, none⟩ : Addr) = some (.int .i64 x571) ∧ w14.cell? (⟨w12.heap.size, 2, none⟩ : Addr) = some (.int .i64 x572) ∧ w14.cell? (⟨w12.heap.size, 3, none⟩ : Addr) = some (.int .i64 x573)) ∧
  ∀ w15 : World, w15 = w14.alloc (.cells #[(.int .i64 x570), (.int .i64 x571), (.int .i64 x572), (.int .i64 x573)] 52 (0, 0)) →
  ∃ (x59A : Option Addr), ∃ (x59N : Nat), ∃ (x59C : Nat), ∃ w16 : World, (Builtin.append_ #[43, 43] 43 #[(.slice outA outN outC), (.slice (some (⟨w14.heap.size, 0, none⟩ : Addr)) 1 1)]).run Tryz.prog w15 = .ok (.slice x59A x59N x59C) w16 ∧
  ∃ vk_1 : Nat, vk_1 < vk ∧ vI x59A x59N x59C (IntKind.i64.wrap (x27 + 1)) vk_1 w16) ∧
  (decide (x54 > (0 : Int)) = false →
  ∃ vk_1 : Nat, vk_1 < vk ∧ vI outA outN outC (IntKind.i64.wrap (x27 + 1)) vk_1 w14))))) ∧
  (decide (x27 < ((x25N : Nat) : Int)) = false →
  R (.tuple #[(.slice outA outN outC), (.int .i64 0)]) w3))))
theorem lens_Changes.vc_eq (aB : Nat) (bB : Nat) (w : World) (R : Value → World → Prop) : fnV Tryz.prog Tryz.f13 (.c .nil (.lp [(7, some (.slice)), (9, none), (10, none), (11, none), (12, none), (13, none), (14, none), (27, some (.int .i64)), (28, none), (29, none), (30, none), (31, none), (32, none), (33, none), (34, none), (35, none), (36, none), (37, none), (38, none), (39, none), (40, none), (41, none), (42, none), (43, none), (44, none), (45, none), (46, none), (47, none), (48, none), (49, none), (50, none), (51, none), (52, none), (53, none), (54, none), (55, none), (56, none), (57, none), (58, none), (59, none), (60, none)] (.c (.c .nil .nil) .nil))) [(.pointer (some (⟨aB, 0, none⟩ : Addr))), (.pointer (some (⟨bB, 0, none⟩ : Addr)))] w R = lens_Changes.vc aB bB w R := by kernel_rfl
theorem lens_Changes.calls (aB : Nat) (bB : Nat) {w : World} {R : Value → World → Prop} (h : lens_Changes.vc aB bB w R) : Calls Tryz.prog 13 #[(.pointer (some (⟨aB, 0, none⟩ : Addr))), (.pointer (some (⟨bB, 0, none⟩ : Addr)))] w (Ret R) :=
  calls_V fit Tryz.func13 (.c .nil (.lp [(7, some (.slice)), (9, none), (10, none), (11, none), (12, none), (13, none), (14, none), (27, some (.int .i64)), (28, none), (29, none), (30, none), (31, none), (32, none), (33, none), (34, none), (35, none), (36, none), (37, none), (38, none), (39, none), (40, none), (41, none), (42, none), (43, none), (44, none), (45, none), (46, none), (47, none), (48, none), (49, none), (50, none), (51, none), (52, none), (53, none), (54, none), (55, none), (56, none), (57, none), (58, none), (59, none), (60, none)] (.c (.c .nil .nil) .nil))) (by rw [show (#[(.pointer (some (⟨aB, 0, none⟩ : Addr))), (.pointer (some (⟨bB, 0, none⟩ : Addr)))] : Array Value).toList = [(.pointer (some (⟨aB, 0, none⟩ : Addr))), (.pointer (some (⟨bB, 0, none⟩ : Addr)))] from rfl, lens_Changes.vc_eq]; exact h)
/-- function 31 -/
def lens_weights.vc (bB : Nat) (w : World) (R : Value → World → Prop) : Prop :=
  Calls Tryz.prog 56 #[(.pointer (some (⟨bB, 0, none⟩ : Addr)))] w (Ret fun v w1 => ∃ (x7 : ByteArray), v = (.string x7) ∧
  (((x7.size : Nat) : Int) = ((x7.size : Nat) : Int) ∧ 0 ≤ ((x7.size : Nat) : Int) ∧ ((x7.size : Nat) : Int) * (1 : Int) ≤ 140737488355328) ∧ ∀ w2 : World, w2 = w1.alloc (.cells (zeroRow [(.int .i8 0)] ((x7.size : Nat) : Int).toNat).toArray 85 (0, 0)) →
  ∃ vI : Int → Nat → World → Prop, (∃ vk_2 : Nat, vI 0 vk_2 w2) ∧
  ∀ (jk : Nat → Value) (x13 : Int), ∀ (vk : Nat) (w3 : World), vI x13 vk w3 →
  (decide (x13 < ((((x7.size : Nat) : Int).toNat : Nat) : Int)) = true →
  (0 ≤ x13 ∧ x13 < ((x7.size : Nat) : Int)) ∧
  (0 ≤ x13 ∧ x13 < ((((x7.size : Nat) : Int).toNat : Nat) : Int)) ∧
  (((∃ u, w3.cell? ((⟨w1.heap.size, 0, none⟩ : Addr).add (x13.toNat * 1)) = some u) ∧ w3.frozen? ((⟨w1.heap.size, 0, none⟩ : Addr).add (x13.toNat * 1)) = false)) ∧ ∀ w4 : World, w4 = (w3.setCell ((⟨w1.heap.size, 0, none⟩ : Addr).add (x13.toNat * 1)) (.int .i8 (IntKind.i8.wrap (bt x7 x13)))) →
  ∃ vk_1 : Nat, vk_1 < vk ∧ vI (IntKind.i64.wrap (x13 + 1)) vk_1 w4) ∧
  (decide (x13 < ((((x7.size : Nat) : Int).toNat : Nat) : Int)) = false →
  R (.slice (some (⟨w1.heap.size, 0, none⟩ : Addr)) (((x7.size : Nat) : Int).toNat) (((x7.size : Nat) : Int).toNat)) w3))
theorem lens_weights.vc_eq (bB : Nat) (w : World) (R : Value → World → Prop) : fnV Tryz.prog Tryz.f31 (.lp [(5, none), (13, some (.int .i64)), (14, none), (15, none), (16, none), (17, none), (18, none), (19, none), (20, none), (21, none), (22, none), (23, none)] (.c .nil .nil)) [(.pointer (some (⟨bB, 0, none⟩ : Addr)))] w R = lens_weights.vc bB w R := by kernel_rfl
theorem lens_weights.calls (bB : Nat) {w : World} {R : Value → World → Prop} (h : lens_weights.vc bB w R) : Calls Tryz.prog 31 #[(.pointer (some (⟨bB, 0, none⟩ : Addr)))] w (Ret R) :=
  calls_V fit Tryz.func31 (.lp [(5, none), (13, some (.int .i64)), (14, none), (15, none), (16, none), (17, none), (18, none), (19, none), (20, none), (21, none), (22, none), (23, none)] (.c .nil .nil)) (by rw [show (#[(.pointer (some (⟨bB, 0, none⟩ : Addr)))] : Array Value).toList = [(.pointer (some (⟨bB, 0, none⟩ : Addr)))] from rfl, lens_weights.vc_eq]; exact h)
/-- function 14 -/
def lens_Distance.vc (aB : Nat) (bB : Nat) (w : World) (R : Value → World → Prop) : Prop :=
  Calls Tryz.prog 27 #[(.pointer (some (⟨aB, 0, none⟩ : Addr))), (.pointer (some (⟨bB, 0, none⟩ : Addr)))] w (Ret fun v w1 => ∃ (x13 : Int), v = (.int .i64 x13) ∧
  ((x13 != (0 : Int)) = true →
  R (.tuple #[(.int .i64 0), (.int .i64 x13)]) w1) ∧
  ((x13 != (0 : Int)) = false →
  Calls Tryz.prog 31 #[(.pointer (some (⟨bB, 0, none⟩ : Addr)))] w1 (Ret fun v_1 w2 => ∃ (x18A : Option Addr), ∃ (x18N : Nat), ∃ (x18C : Nat), v_1 = (.slice x18A x18N x18C) ∧
  Calls Tryz.prog 31 #[(.pointer (some (⟨aB, 0, none⟩ : Addr)))] w2 (Ret fun v_2 w3 => ∃ (x20A : Option Addr), ∃ (x20N : Nat), ∃ (x20C : Nat), v_2 = (.slice x20A x20N x20C) ∧
  ∃ vI : Int → Int → Nat → World → Prop, (∃ vk_2 : Nat, vI 0 0 vk_2 w3) ∧
  ∀ (jk : Nat → Value) (sum : Int) (x22 : Int), ∀ (vk : Nat) (w4 : World), vI sum x22 vk w4 →
  (decide (x22 < ((x20N : Nat) : Int)) = true →
  (0 ≤ x22 ∧ x22 < ((x20N : Nat) : Int)) ∧ someV x20A fun p =>
  ∃ (x26 : Int), w4.cell? (p.add (x22.toNat * 1)) = some (.int .i8 x26) ∧
  (0 ≤ x22 ∧ x22 < ((x18N : Nat) : Int)) ∧ someV x18A fun p_1 =>
  ∃ (x32 : Int), w4.cell? (p_1.add (x22.toNat * 1)) = some (.int .i8 x32) ∧
  Calls Tryz.prog 32 #[(.int .i8 x26), (.int .i8 x32)] w4 (Ret fun v_3 w5 => ∃ (x33 : Int), v_3 = (.int .i64 x33) ∧
  ∃ vk_1 : Nat, vk_1 < vk ∧ vI (IntKind.i64.wrap (sum + x33)) (IntKind.i64.wrap (x22 + 1)) vk_1 w5)) ∧
  (decide (x22 < ((x20N : Nat) : Int)) = false →
  R (.tuple #[(.int .i64 sum), (.int .i64 0)]) w4)))))
theorem lens_Distance.vc_eq (aB : Nat) (bB : Nat) (w : World) (R : Value → World → Prop) : fnV Tryz.prog Tryz.f14 (.c .nil (.lp [(7, some (.int .i64)), (9, none), (10, none), (22, some (.int .i64)), (23, none), (24, none), (25, none), (26, none), (27, none), (28, none), (29, none), (30, none), (31, none), (32, none), (33, none), (34, none), (35, none)] (.c .nil .nil))) [(.pointer (some (⟨aB, 0, none⟩ : Addr))), (.pointer (some (⟨bB, 0, none⟩ : Addr)))] w R = lens_Distance.vc aB bB w R := by kernel_rfl
theorem lens_Distance.calls (aB : Nat) (bB : Nat) {w : World} {R : Value → World → Prop} (h : lens_Distance.vc aB bB w R) : Calls Tryz.prog 14 #[(.pointer (some (⟨aB, 0, none⟩ : Addr))), (.pointer (some (⟨bB, 0, none⟩ : Addr)))] w (Ret R) :=
  calls_V fit Tryz.func14 (.c .nil (.lp [(7, some (.int .i64)), (9, none), (10, none), (22, some (.int .i64)), (23, none), (24, none), (25, none), (26, none), (27, none), (28, none), (29, none), (30, none), (31, none), (32, none), (33, none), (34, none), (35, none)] (.c .nil .nil))) (by rw [show (#[(.pointer (some (⟨aB, 0, none⟩ : Addr))), (.pointer (some (⟨bB, 0, none⟩ : Addr)))] : Array Value).toList = [(.pointer (some (⟨aB, 0, none⟩ : Addr))), (.pointer (some (⟨bB, 0, none⟩ : Addr)))] from rfl, lens_Distance.vc_eq]; exact h)
/-- function 15 -/
def lens_Blend.vc (aB : Nat) (bB : Nat) (num : Int) (den : Int) (w : World) (R : Value → World → Prop) : Prop :=
  Calls Tryz.prog 27 #[(.pointer (some (⟨aB, 0, none⟩ : Addr))), (.pointer (some (⟨bB, 0, none⟩ : Addr)))] w (Ret fun v w1 => ∃ (x17 : Int), v = (.int .i64 x17) ∧
  ((x17 != (0 : Int)) = true →
  R (.tuple #[(.pointer none), (.int .i64 x17)]) w1) ∧
  ((x17 != (0 : Int)) = false →
  (decide (den < (1 : Int)) = true →
  R (.tuple #[(.pointer none), (.int .i64 1)]) w1) ∧
  (decide (den < (1 : Int)) = false →
  (decide (den > (1000 : Int)) = true →
  R (.tuple #[(.pointer none), (.int .i64 1)]) w1) ∧
  (decide (den > (1000 : Int)) = false →
  (decide (num < (0 : Int)) = true →
  R (.tuple #[(.pointer none), (.int .i64 1)]) w1) ∧
  (decide (num < (0 : Int)) = false →
  (decide (num > den) = true →
  R (.tuple #[(.pointer none), (.int .i64 1)]) w1) ∧
  (decide (num > den) = false →
  Calls Tryz.prog 31 #[(.pointer (some (⟨bB, 0, none⟩ : Addr)))] w1 (Ret fun v_1 w2 => ∃ (x37A : Option Addr), ∃ (x37N : Nat), ∃ (x37C : Nat), v_1 = (.slice x37A x37N x37C) ∧
  (((x37N : Nat) : Int) = ((x37N : Nat) : Int) ∧ 0 ≤ ((x37N : Nat) : Int) ∧ ((x37N : Nat) : Int) * (1 : Int) ≤ 140737488355328) ∧ ∀ w3 : World, w3 = w2.alloc (.cells (zeroRow [(.int .u8 0)] ((x37N : Nat) : Int).toNat).toArray 5 (0, 0)) →
  Calls Tryz.prog 31 #[(.pointer (some (⟨aB, 0, none⟩ : Addr)))] w3 (Ret fun v_2 w4 => ∃ (x42A : Option Addr), ∃ (x42N : Nat), ∃ (x42C : Nat), v_2 = (.slice x42A x42N x42C) ∧
  ∃ vI : Int → Nat → World → Prop, (∃ vk_2 : Nat, vI 0 vk_2 w4) ∧
  ∀ (jk : Nat → Value) (x44 : Int), ∀ (vk : Nat) (w5 : World), vI x44 vk w5 →
  (decide (x44 < ((x42N : Nat) : Int)) = true →
  (0 ≤ x44 ∧ x44 < ((x42N : Nat) : Int)) ∧ someV x42A fun p =>
  ∃ (x48 : Int), w5.cell? (p.add (x44.toNat * 1)) = some (.int .i8 x48) ∧
  (0 ≤ x44 ∧ x44 < ((x37N : Nat) : Int)) ∧ someV x37A fun p_1 =>
  ∃ (x57 : Int), w5.cell? (p_1.add (x44.toNat * 1)) = some (.int .i8 x57) ∧
  den ≠ 0 ∧
  (0 ≤ x44 ∧ x44 < ((((x37N : Nat) : Int).toNat : Nat) : Int)) ∧
  (((∃ u, w5.cell? ((⟨w2.heap.size, 0, none⟩ : Addr).add (x44.toNat * 1)) = some u) ∧ w5.frozen? ((⟨w2.heap.size, 0, none⟩ : Addr).add (x44.toNat * 1)) = false)) ∧ ∀ w6 : World, w6 = (w5.setCell ((⟨w2.heap.size, 0, none⟩ : Addr).add (x44.toNat * 1)) (.int .u8 (IntKind.u8.wrap (IntKind.i64.wrap ((IntKind.i64.wrap x48) + (IntKind.i64.wrap (Int.tdiv (IntKind.i64.wrap (num * (IntKind.i64.wrap ((IntKind.i64.wrap x57) - (IntKind.i64.wrap x48))))) den))))))) →
  ∃ vk_1 : Nat, vk_1 < vk ∧ vI (IntKind.i64.wrap (x44 + 1)) vk_1 w6) ∧
  (decide (x44 < ((x42N : Nat) : Int)) = false →
  ∃ vS : World → Prop, ∀ w7 : World, w7 = w5.drew → vS w7 ∧
  ∃ (x730 : Int), ∃ (x731 : Int), ∃ (x732 : Int), ∃ (x733 : Int), ∃ (x734 : Int), ∃ (x735 : Int), ((∀ w8, vS w8 → w8.cell? (⟨aB, 0, none⟩ : Addr) = some (.int .i64 x730)) ∧ (∀ w8, vS w8 → w8.cell? (⟨aB, 1, none⟩ : Addr) = some (.int .i64 x731)) ∧ (∀ w8, vS w8 → w8.cell? (⟨aB, 2, none⟩ : Addr) = some (.int .i64 x732)) ∧ (∀ w8, vS w8 → w8.cell? (⟨aB, 3, none⟩ : Addr) = some (.int .i64 x733)) ∧ (∀ w8, vS w8 → w8.cell? (⟨aB, 4, none⟩ : Addr) = some (.int .i64 x734)) ∧ (∀ w8, vS w8 → w8.cell? (⟨aB, 5, none⟩ : Addr) = some (.int .i64 x735))) ∧
  ∃ (x75 : ByteArray), ∃ w9 : World, (convert 64 9 (.slice (some (⟨w2.heap.size, 0, none⟩ : Addr)) (((x37N : Nat) : Int).toNat) (((x37N : Nat) : Int).toNat))).run Tryz.prog w7 = .ok (.string x75) w9 ∧
  vS w9 ∧
  Calls Tryz.prog 6 #[(.agg #[(.int .i64 x730), (.int .i64 x731), (.int .i64 x732), (.int .i64 x733), (.int .i64 x734), (.int .i64 x735)]), (.string x75)] w9 (Ret fun v_3 w10 => ∃ (x76_0 : Option Addr), ∃ (x76_1 : Int), v_3 = (.tuple #[(.pointer x76_0), (.int .i64 x76_1)]) ∧
  vS w10 ∧
  R (.tuple #[(.pointer x76_0), (.int .i64 x76_1)]) w10))))))))))
theorem lens_Blend.vc_eq (aB : Nat) (bB : Nat) (num : Int) (den : Int) (w : World) (R : Value → World → Prop) : fnV Tryz.prog Tryz.f15 (.c .nil (.at_ 4 2 (.k .nil) (.at_ 4 6 (.k .nil) (.at_ 4 10 (.k .nil) (.c .nil (.lp [(13, none), (14, none), (44, some (.int .i64)), (45, none), (46, none), (47, none), (48, none), (49, none), (50, none), (51, none), (52, none), (53, none), (54, none), (55, none), (56, none), (57, none), (58, none), (59, none), (60, none), (61, none), (62, none), (63, none), (64, none), (65, none), (66, none), (67, none), (68, none)] (.c .nil (.tk 0 (.tk 1 (.tk 2 (.tk 3 (.tk 4 (.tk 5 (.alt 6 (.alt 7 (.tk 8 (.tk 9 (.tk 10 (.tk 11 (.fin .nil))))) .nil) .nil)))))))))))))) [(.pointer (some (⟨aB, 0, none⟩ : Addr))), (.pointer (some (⟨bB, 0, none⟩ : Addr))), (.int .i64 num), (.int .i64 den)] w R = lens_Blend.vc aB bB num den w R := by kernel_rfl
theorem lens_Blend.calls (aB : Nat) (bB : Nat) (num : Int) (den : Int) {w : World} {R : Value → World → Prop} (h : lens_Blend.vc aB bB num den w R) : Calls Tryz.prog 15 #[(.pointer (some (⟨aB, 0, none⟩ : Addr))), (.pointer (some (⟨bB, 0, none⟩ : Addr))), (.int .i64 num), (.int .i64 den)] w (Ret R) :=
  calls_V fit Tryz.func15 (.c .nil (.at_ 4 2 (.k .nil) (.at_ 4 6 (.k .nil) (.at_ 4 10 (.k .nil) (.c .nil (.lp [(13, none), (14, none), (44, some (.int .i64)), (45, none), (46, none), (47, none), (48, none), (49, none), (50, none), (51, none), (52, none), (53, none), (54, none), (55, none), (56, none), (57, none), (58, none), (59, none), (60, none), (61, none), (62, none), (63, none), (64, none), (65, none), (66, none), (67, none), (68, none)] (.c .nil (.tk 0 (.tk 1 (.tk 2 (.tk 3 (.tk 4 (.tk 5 (.alt 6 (.alt 7 (.tk 8 (.tk 9 (.tk 10 (.tk 11 (.fin .nil))))) .nil) .nil)))))))))))))) (by rw [show (#[(.pointer (some (⟨aB, 0, none⟩ : Addr))), (.pointer (some (⟨bB, 0, none⟩ : Addr))), (.int .i64 num), (.int .i64 den)] : Array Value).toList = [(.pointer (some (⟨aB, 0, none⟩ : Addr))), (.pointer (some (⟨bB, 0, none⟩ : Addr))), (.int .i64 num), (.int .i64 den)] from rfl, lens_Blend.vc_eq]; exact h)
/-- function 57 -/
def conf_Shape_Bytes.vc (s0 : Int) (s1 : Int) (s2 : Int) (s3 : Int) (s4 : Int) (s5 : Int) (w : World) (R : Value → World → Prop) : Prop :=
  ∀ w1 : World, w1 = w.alloc (.cells #[(.int .i64 s0), (.int .i64 s1), (.int .i64 s2), (.int .i64 s3), (.int .i64 s4), (.int .i64 s5)] 55 (0, 0)) →
  ∀ w2 : World, w2 = w1.alloc (.cells #[(.pointer none), (.slice none 0 0), (.bool false)] 127 (0, 0)) →
  ∃ (x6 : Int), w2.cell? (⟨w.heap.size, 0, none⟩ : Addr) = some (.int .i64 x6) ∧
  ∃ (x9 : Int), w2.cell? (⟨w.heap.size, 1, none⟩ : Addr) = some (.int .i64 x9) ∧
  ∃ (x12 : Int), w2.cell? (⟨w.heap.size, 2, none⟩ : Addr) = some (.int .i64 x12) ∧
  ∃ (x15 : Int), w2.cell? (⟨w.heap.size, 3, none⟩ : Addr) = some (.int .i64 x15) ∧
  ∃ (x18 : Int), w2.cell? (⟨w.heap.size, 4, none⟩ : Addr) = some (.int .i64 x18) ∧
  ∃ (x21 : Int), w2.cell? (⟨w.heap.size, 5, none⟩ : Addr) = some (.int .i64 x21) ∧
  ∀ w3 : World, w3 = w2.alloc (.cells #[(.int .i64 x6), (.int .i64 x9), (.int .i64 x12), (.int .i64 x15), (.int .i64 x18), (.int .i64 x21)] 3 (0, 0)) →
  Calls Tryz.prog 79 #[(.pointer (some (⟨w1.heap.size, 0, none⟩ : Addr))), (.slice (some (⟨w2.heap.size, 0, none⟩ : Addr)) 6 6)] w3 (Ret fun v w4 => v = .tuple #[] ∧
  Calls Tryz.prog 80 #[(.pointer (some (⟨w1.heap.size, 0, none⟩ : Addr)))] w4 (Ret fun v_1 w5 => ∃ (x24 : ByteArray), v_1 = (.string x24) ∧
  R (.string x24) w5))
theorem conf_Shape_Bytes.vc_eq (s0 : Int) (s1 : Int) (s2 : Int) (s3 : Int) (s4 : Int) (s5 : Int) (w : World) (R : Value → World → Prop) : fnV Tryz.prog Tryz.f57 .nil [(.agg #[(.int .i64 s0), (.int .i64 s1), (.int .i64 s2), (.int .i64 s3), (.int .i64 s4), (.int .i64 s5)])] w R = conf_Shape_Bytes.vc s0 s1 s2 s3 s4 s5 w R := by kernel_rfl
theorem conf_Shape_Bytes.calls (s0 : Int) (s1 : Int) (s2 : Int) (s3 : Int) (s4 : Int) (s5 : Int) {w : World} {R : Value → World → Prop} (h : conf_Shape_Bytes.vc s0 s1 s2 s3 s4 s5 w R) : Calls Tryz.prog 57 #[(.agg #[(.int .i64 s0), (.int .i64 s1), (.int .i64 s2), (.int .i64 s3), (.int .i64 s4), (.int .i64 s5)])] w (Ret R) :=
  calls_V fit Tryz.func57 .nil (by rw [show (#[(.agg #[(.int .i64 s0), (.int .i64 s1), (.int .i64 s2), (.int .i64 s3), (.int .i64 s4), (.int .i64 s5)])] : Array Value).toList = [(.agg #[(.int .i64 s0), (.int .i64 s1), (.int .i64 s2), (.int .i64 s3), (.int .i64 s4), (.int .i64 s5)])] from rfl, conf_Shape_Bytes.vc_eq]; exact h)
/-- function 33 -/
def brain_Brain_Bytes.vc (bB : Nat) (w : World) (R : Value → World → Prop) : Prop :=
  ∃ vS : World → Prop, ∀ w1 : World, w1 = w.drew → vS w1 ∧
  ∃ (x80 : Int), ∃ (x81 : Int), ∃ (x82 : Int), ∃ (x83 : Int), ∃ (x84 : Int), ∃ (x85 : Int), ((∀ w2, vS w2 → w2.cell? (⟨bB, 0, none⟩ : Addr) = some (.int .i64 x80)) ∧ (∀ w2, vS w2 → w2.cell? (⟨bB, 1, none⟩ : Addr) = some (.int .i64 x81)) ∧ (∀ w2, vS w2 → w2.cell? (⟨bB, 2, none⟩ : Addr) = some (.int .i64 x82)) ∧ (∀ w2, vS w2 → w2.cell? (⟨bB, 3, none⟩ : Addr) = some (.int .i64 x83)) ∧ (∀ w2, vS w2 → w2.cell? (⟨bB, 4, none⟩ : Addr) = some (.int .i64 x84)) ∧ (∀ w2, vS w2 → w2.cell? (⟨bB, 5, none⟩ : Addr) = some (.int .i64 x85))) ∧
  ∃ (x13 : ByteArray), (∀ w3, vS w3 → w3.cell? (⟨bB, 6, none⟩ : Addr) = some (.string x13)) ∧
  Calls Tryz.prog 57 #[(.agg #[(.int .i64 x80), (.int .i64 x81), (.int .i64 x82), (.int .i64 x83), (.int .i64 x84), (.int .i64 x85)])] w1 (Ret fun v w4 => ∃ (x9 : ByteArray), v = (.string x9) ∧
  vS w4 ∧
  ((x9.size + x13.size : Nat) : Int) ≤ 9223372036854775807 ∧
  R (.string (x9 ++ x13)) w4)
theorem brain_Brain_Bytes.vc_eq (bB : Nat) (w : World) (R : Value → World → Prop) : fnV Tryz.prog Tryz.f33 (.k (.tk 0 (.tk 1 (.tk 2 (.tk 3 (.tk 5 (.tk 6 (.tk 7 (.tk 8 (.alt 4 (.tk 9 (.tk 10 (.fin .nil))) .nil)))))))))) [(.pointer (some (⟨bB, 0, none⟩ : Addr)))] w R = brain_Brain_Bytes.vc bB w R := by kernel_rfl
theorem brain_Brain_Bytes.calls (bB : Nat) {w : World} {R : Value → World → Prop} (h : brain_Brain_Bytes.vc bB w R) : Calls Tryz.prog 33 #[(.pointer (some (⟨bB, 0, none⟩ : Addr)))] w (Ret R) :=
  calls_V fit Tryz.func33 (.k (.tk 0 (.tk 1 (.tk 2 (.tk 3 (.tk 5 (.tk 6 (.tk 7 (.tk 8 (.alt 4 (.tk 9 (.tk 10 (.fin .nil))) .nil)))))))))) (by rw [show (#[(.pointer (some (⟨bB, 0, none⟩ : Addr)))] : Array Value).toList = [(.pointer (some (⟨bB, 0, none⟩ : Addr)))] from rfl, brain_Brain_Bytes.vc_eq]; exact h)
/-- function 16 -/
def brain_Same.vc (aB : Nat) (bB : Nat) (w : World) (R : Value → World → Prop) : Prop :=
  Calls Tryz.prog 33 #[(.pointer (some (⟨aB, 0, none⟩ : Addr)))] w (Ret fun v w1 => ∃ (x13 : ByteArray), v = (.string x13) ∧
  Calls Tryz.prog 33 #[(.pointer (some (⟨bB, 0, none⟩ : Addr)))] w1 (Ret fun v_1 w2 => ∃ (x15 : ByteArray), v_1 = (.string x15) ∧
  R (.bool (x13.toList == x15.toList)) w2))
theorem brain_Same.vc_eq (aB : Nat) (bB : Nat) (w : World) (R : Value → World → Prop) : fnV Tryz.prog Tryz.f16 .nil [(.pointer (some (⟨aB, 0, none⟩ : Addr))), (.pointer (some (⟨bB, 0, none⟩ : Addr)))] w R = brain_Same.vc aB bB w R := by kernel_rfl
theorem brain_Same.calls (aB : Nat) (bB : Nat) {w : World} {R : Value → World → Prop} (h : brain_Same.vc aB bB w R) : Calls Tryz.prog 16 #[(.pointer (some (⟨aB, 0, none⟩ : Addr))), (.pointer (some (⟨bB, 0, none⟩ : Addr)))] w (Ret R) :=
  calls_V fit Tryz.func16 .nil (by rw [show (#[(.pointer (some (⟨aB, 0, none⟩ : Addr))), (.pointer (some (⟨bB, 0, none⟩ : Addr)))] : Array Value).toList = [(.pointer (some (⟨aB, 0, none⟩ : Addr))), (.pointer (some (⟨bB, 0, none⟩ : Addr)))] from rfl, brain_Same.vc_eq]; exact h)
end Go.Proofs.YtbadkcnemcnhfaaGreatDoor.Vc
