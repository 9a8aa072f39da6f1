import Derived.Test.YtpcddfhfchempaaVc
import Derived.Test.YtpcddfhfchempaaH
import Derived.Test.YtpcddfhfchempaaProg
import Derived.KernelRfl
set_option linter.unusedVariables false
set_option maxRecDepth 100000
namespace Go.Proofs.Ytpcddfhfchempaa.Vc
open Go Go.Proofs Go.Proofs.Ytpcddfhfchempaa.V
/-- function 100 -/
def patch_isIn.vc (base : Int) (vfrom : Int) (size : Int) (w : World) (R : Value → World → Prop) : Prop :=
  (decide (size ≥ (1 : Int)) = true →
  (decide (vfrom ≥ (0 : Int)) = true →
  (decide (vfrom ≤ base) = true →
  R (.bool (decide (size ≤ (IntKind.i64.wrap (base - vfrom))))) w) ∧
  (decide (vfrom ≤ base) = false →
  R (.bool false) w)) ∧
  (decide (vfrom ≥ (0 : Int)) = false →
  R (.bool false) w)) ∧
  (decide (size ≥ (1 : Int)) = false →
  R (.bool false) w)
theorem patch_isIn.vc_eq (base : Int) (vfrom : Int) (size : Int) (w : World) (R : Value → World → Prop) : fnV Try.prog Try.f100 (.at_ 1 2 (.at_ 1 6 (.at_ 1 11 .nil .nil) .nil) .nil) [(.int .i64 base), (.int .i64 vfrom), (.int .i64 size)] w R = patch_isIn.vc base vfrom size w R := by kernel_rfl
theorem patch_isIn.calls (base : Int) (vfrom : Int) (size : Int) {w : World} {R : Value → World → Prop} (h : patch_isIn.vc base vfrom size w R) : Calls Try.prog 100 #[(.int .i64 base), (.int .i64 vfrom), (.int .i64 size)] w (Ret R) :=
  calls_V fit Try.func100 (.at_ 1 2 (.at_ 1 6 (.at_ 1 11 .nil .nil) .nil) .nil) (by rw [show (#[(.int .i64 base), (.int .i64 vfrom), (.int .i64 size)] : Array Value).toList = [(.int .i64 base), (.int .i64 vfrom), (.int .i64 size)] from rfl, patch_isIn.vc_eq]; exact h)
/-- function 74 -/
def patch_Good.vc (base : Int) (op0 : Int) (op1 : Int) (op2 : Int) (op3 : ByteArray) (w : World) (R : Value → World → Prop) : Prop :=
  ∀ w1 : World, w1 = w.alloc (.cells #[(.int .i64 op0), (.int .i64 op1), (.int .i64 op2), (.string op3)] 126 (0, 0)) →
  ∃ (x6 : Int), w1.cell? (⟨w.heap.size, 0, none⟩ : Addr) = some (.int .i64 x6) ∧
  ((x6 == (1 : Int)) = true →
  ∃ (x11 : Int), w1.cell? (⟨w.heap.size, 1, none⟩ : Addr) = some (.int .i64 x11) ∧
  ∃ (x13 : Int), w1.cell? (⟨w.heap.size, 2, none⟩ : Addr) = some (.int .i64 x13) ∧
  Calls Try.prog 100 #[(.int .i64 base), (.int .i64 x11), (.int .i64 x13)] w1 (Ret fun v w2 => ∃ (x14 : Bool), v = (.bool x14) ∧
  (x14 = true →
  ∃ (x17 : ByteArray), w2.cell? (⟨w.heap.size, 3, none⟩ : Addr) = some (.string x17) ∧
  R (.bool (x17.toList == (ByteArray.mk #[]).toList)) w2) ∧
  (x14 = false →
  R (.bool false) w2))) ∧
  ((x6 == (1 : Int)) = false →
  ((x6 == (2 : Int)) = true →
  ∃ (x23 : Int), w1.cell? (⟨w.heap.size, 1, none⟩ : Addr) = some (.int .i64 x23) ∧
  ((x23 == (0 : Int)) = true →
  ∃ (x27 : Int), w1.cell? (⟨w.heap.size, 2, none⟩ : Addr) = some (.int .i64 x27) ∧
  ((x27 == (0 : Int)) = true →
  ∃ (x32 : ByteArray), w1.cell? (⟨w.heap.size, 3, none⟩ : Addr) = some (.string x32) ∧
  ((!(x32.toList == (ByteArray.mk #[]).toList)) = true →
  ∃ (x37 : ByteArray), w1.cell? (⟨w.heap.size, 3, none⟩ : Addr) = some (.string x37) ∧
  R (.bool (decide (((x37.size : Nat) : Int) ≤ (8192 : Int)))) w1) ∧
  ((!(x32.toList == (ByteArray.mk #[]).toList)) = false →
  R (.bool false) w1)) ∧
  ((x27 == (0 : Int)) = false →
  R (.bool false) w1)) ∧
  ((x23 == (0 : Int)) = false →
  R (.bool false) w1)) ∧
  ((x6 == (2 : Int)) = false →
  ((x6 == (3 : Int)) = true →
  ∃ (x45 : Int), w1.cell? (⟨w.heap.size, 1, none⟩ : Addr) = some (.int .i64 x45) ∧
  ∃ (x47 : ByteArray), w1.cell? (⟨w.heap.size, 3, none⟩ : Addr) = some (.string x47) ∧
  Calls Try.prog 100 #[(.int .i64 base), (.int .i64 x45), (.int .i64 ((x47.size : Nat) : Int))] w1 (Ret fun v_1 w3 => ∃ (x49 : Bool), v_1 = (.bool x49) ∧
  (x49 = true →
  ∃ (x52 : Int), w3.cell? (⟨w.heap.size, 2, none⟩ : Addr) = some (.int .i64 x52) ∧
  ((x52 == (0 : Int)) = true →
  ∃ (x57 : ByteArray), w3.cell? (⟨w.heap.size, 3, none⟩ : Addr) = some (.string x57) ∧
  R (.bool (decide (((x57.size : Nat) : Int) ≤ (8192 : Int)))) w3) ∧
  ((x52 == (0 : Int)) = false →
  R (.bool false) w3)) ∧
  (x49 = false →
  R (.bool false) w3))) ∧
  ((x6 == (3 : Int)) = false →
  R (.bool false) w1)))
theorem patch_Good.vc_eq (base : Int) (op0 : Int) (op1 : Int) (op2 : Int) (op3 : ByteArray) (w : World) (R : Value → World → Prop) : fnV Try.prog Try.f74 (.c (.at_ 3 6 .nil .nil) (.c (.at_ 5 3 (.at_ 5 8 (.at_ 5 13 .nil .nil) .nil) .nil) (.c (.at_ 7 7 (.at_ 7 12 .nil .nil) .nil) .nil))) [(.int .i64 base), (.agg #[(.int .i64 op0), (.int .i64 op1), (.int .i64 op2), (.string op3)])] w R = patch_Good.vc base op0 op1 op2 op3 w R := by kernel_rfl
theorem patch_Good.calls (base : Int) (op0 : Int) (op1 : Int) (op2 : Int) (op3 : ByteArray) {w : World} {R : Value → World → Prop} (h : patch_Good.vc base op0 op1 op2 op3 w R) : Calls Try.prog 74 #[(.int .i64 base), (.agg #[(.int .i64 op0), (.int .i64 op1), (.int .i64 op2), (.string op3)])] w (Ret R) :=
  calls_V fit Try.func74 (.c (.at_ 3 6 .nil .nil) (.c (.at_ 5 3 (.at_ 5 8 (.at_ 5 13 .nil .nil) .nil) .nil) (.c (.at_ 7 7 (.at_ 7 12 .nil .nil) .nil) .nil))) (by rw [show (#[(.int .i64 base), (.agg #[(.int .i64 op0), (.int .i64 op1), (.int .i64 op2), (.string op3)])] : Array Value).toList = [(.int .i64 base), (.agg #[(.int .i64 op0), (.int .i64 op1), (.int .i64 op2), (.string op3)])] from rfl, patch_Good.vc_eq]; exact h)
/-- function 102 -/
def patch_added.vc (va : ByteArray) (b : ByteArray) (w : World) (R : Value → World → Prop) : Prop :=
  ∃ (x8A : Option Addr), ∃ (x8N : Nat), ∃ (x8C : Nat), ∃ w1 : World, (convert 9 128 (.string va)).run Try.prog w = .ok (.slice x8A x8N x8C) w1 ∧
  ∃ vI : Int → Nat → World → Prop, (∃ vk_2 : Nat, vI 0 vk_2 w1) ∧
  ∀ (jk : Nat → Value) (x11 : Int), ∀ (vk : Nat) (w2 : World), vI x11 vk w2 →
  (decide (x11 < ((x8N : Nat) : Int)) = true →
  ∃ vS : World → Prop, ∀ w3 : World, w3 = w2.drew → vS w3 ∧
  (0 ≤ x11 ∧ x11 < ((x8N : Nat) : Int)) ∧ someV x8A fun p =>
  (0 ≤ x11 ∧ x11 < ((b.size : Nat) : Int)) ∧
  ∃ (x17 : Int), w3.cell? (p.add (x11.toNat * 1)) = some (.int .u8 x17) ∧
  vS w3 ∧
  (0 ≤ x11 ∧ x11 < ((x8N : Nat) : Int)) ∧ someV x8A fun p_1 =>
  (((∃ u, w3.cell? (p_1.add (x11.toNat * 1)) = some u) ∧ w3.frozen? (p_1.add (x11.toNat * 1)) = false)) ∧ ∀ w4 : World, w4 = (w3.setCell (p_1.add (x11.toNat * 1)) (.int .u8 (IntKind.u8.wrap (x17 + (bt b x11))))) →
  vS w4 ∧
  ∃ vk_1 : Nat, vk_1 < vk ∧ vI (IntKind.i64.wrap (x11 + 1)) vk_1 w4) ∧
  (decide (x11 < ((x8N : Nat) : Int)) = false →
  ∃ (x25 : ByteArray), ∃ w5 : World, (convert 128 9 (.slice x8A x8N x8C)).run Try.prog w2 = .ok (.string x25) w5 ∧
  R (.string x25) w5)
theorem patch_added.vc_eq (va : ByteArray) (b : ByteArray) (w : World) (R : Value → World → Prop) : fnV Try.prog Try.f102 (.lp [(6, none), (11, some (.int .i64)), (12, none), (13, none), (14, none), (15, none), (16, none), (17, none), (18, none), (19, none), (20, none), (21, none), (22, none), (23, none)] (.c (.tk 0 (.tk 1 (.tk 2 (.tk 4 (.tk 5 (.tk 6 (.alt 3 (.tk 7 (.tk 8 (.alt 9 (.fin .nil) .nil))) .nil))))))) .nil)) [(.string va), (.string b)] w R = patch_added.vc va b w R := by kernel_rfl
theorem patch_added.calls (va : ByteArray) (b : ByteArray) {w : World} {R : Value → World → Prop} (h : patch_added.vc va b w R) : Calls Try.prog 102 #[(.string va), (.string b)] w (Ret R) :=
  calls_V fit Try.func102 (.lp [(6, none), (11, some (.int .i64)), (12, none), (13, none), (14, none), (15, none), (16, none), (17, none), (18, none), (19, none), (20, none), (21, none), (22, none), (23, none)] (.c (.tk 0 (.tk 1 (.tk 2 (.tk 4 (.tk 5 (.tk 6 (.alt 3 (.tk 7 (.tk 8 (.alt 9 (.fin .nil) .nil))) .nil))))))) .nil)) (by rw [show (#[(.string va), (.string b)] : Array Value).toList = [(.string va), (.string b)] from rfl, patch_added.vc_eq]; exact h)
/-- function 77 -/
def patch_Op_of.vc (op0 : Int) (op1 : Int) (op2 : Int) (op3 : ByteArray) (base : ByteArray) (w : World) (R : Value → World → Prop) : Prop :=
  ∀ w1 : World, w1 = w.alloc (.cells #[(.int .i64 op0), (.int .i64 op1), (.int .i64 op2), (.string op3)] 126 (0, 0)) →
  ∃ (x6 : Int), w1.cell? (⟨w.heap.size, 0, none⟩ : Addr) = some (.int .i64 x6) ∧
  ((x6 == (1 : Int)) = true →
  ∃ (x11 : Int), w1.cell? (⟨w.heap.size, 1, none⟩ : Addr) = some (.int .i64 x11) ∧
  ∃ (x13 : Int), w1.cell? (⟨w.heap.size, 1, none⟩ : Addr) = some (.int .i64 x13) ∧
  ∃ (x15 : Int), w1.cell? (⟨w.heap.size, 2, none⟩ : Addr) = some (.int .i64 x15) ∧
  (0 ≤ x11 ∧ x11 ≤ (IntKind.i64.wrap (x13 + x15)) ∧ (IntKind.i64.wrap (x13 + x15)) ≤ ((base.size : Nat) : Int)) ∧
  R (.string (base.extract x11.toNat (IntKind.i64.wrap (x13 + x15)).toNat)) w1) ∧
  ((x6 == (1 : Int)) = false →
  ((x6 == (2 : Int)) = true →
  ∃ (x21 : ByteArray), w1.cell? (⟨w.heap.size, 3, none⟩ : Addr) = some (.string x21) ∧
  R (.string x21) w1) ∧
  ((x6 == (2 : Int)) = false →
  ∃ vS : World → Prop, ∀ w2 : World, w2 = w1.drew → vS w2 ∧
  ∃ (x24 : Int), (∀ w3, vS w3 → w3.cell? (⟨w.heap.size, 1, none⟩ : Addr) = some (.int .i64 x24)) ∧
  ∃ (x26 : Int), (∀ w4, vS w4 → w4.cell? (⟨w.heap.size, 1, none⟩ : Addr) = some (.int .i64 x26)) ∧
  ∃ (x28 : ByteArray), (∀ w5, vS w5 → w5.cell? (⟨w.heap.size, 3, none⟩ : Addr) = some (.string x28)) ∧
  (0 ≤ x24 ∧ x24 ≤ (IntKind.i64.wrap (x26 + ((x28.size : Nat) : Int))) ∧ (IntKind.i64.wrap (x26 + ((x28.size : Nat) : Int))) ≤ ((base.size : Nat) : Int)) ∧
  ∃ (x33 : ByteArray), (∀ w6, vS w6 → w6.cell? (⟨w.heap.size, 3, none⟩ : Addr) = some (.string x33)) ∧
  Calls Try.prog 102 #[(.string (base.extract x24.toNat (IntKind.i64.wrap (x26 + ((x28.size : Nat) : Int))).toNat)), (.string x33)] w2 (Ret fun v w7 => ∃ (x34 : ByteArray), v = (.string x34) ∧
  vS w7 ∧
  R (.string x34) w7)))
theorem patch_Op_of.vc_eq (op0 : Int) (op1 : Int) (op2 : Int) (op3 : ByteArray) (base : ByteArray) (w : World) (R : Value → World → Prop) : fnV Try.prog Try.f77 (.c .nil (.c .nil (.tk 0 (.tk 1 (.tk 2 (.tk 3 (.tk 4 (.tk 5 (.tk 6 (.tk 7 (.tk 8 (.tk 9 (.tk 10 (.tk 11 (.alt 12 (.tk 13 (.fin .nil)) .nil))))))))))))))) [(.agg #[(.int .i64 op0), (.int .i64 op1), (.int .i64 op2), (.string op3)]), (.string base)] w R = patch_Op_of.vc op0 op1 op2 op3 base w R := by kernel_rfl
theorem patch_Op_of.calls (op0 : Int) (op1 : Int) (op2 : Int) (op3 : ByteArray) (base : ByteArray) {w : World} {R : Value → World → Prop} (h : patch_Op_of.vc op0 op1 op2 op3 base w R) : Calls Try.prog 77 #[(.agg #[(.int .i64 op0), (.int .i64 op1), (.int .i64 op2), (.string op3)]), (.string base)] w (Ret R) :=
  calls_V fit Try.func77 (.c .nil (.c .nil (.tk 0 (.tk 1 (.tk 2 (.tk 3 (.tk 4 (.tk 5 (.tk 6 (.tk 7 (.tk 8 (.tk 9 (.tk 10 (.tk 11 (.alt 12 (.tk 13 (.fin .nil)) .nil))))))))))))))) (by rw [show (#[(.agg #[(.int .i64 op0), (.int .i64 op1), (.int .i64 op2), (.string op3)]), (.string base)] : Array Value).toList = [(.agg #[(.int .i64 op0), (.int .i64 op1), (.int .i64 op2), (.string op3)]), (.string base)] from rfl, patch_Op_of.vc_eq]; exact h)
/-- function 50 -/
def patch_Apply.vc (base : ByteArray) (opsA : Option Addr) (opsN : Nat) (opsC : Nat) (w : World) (R : Value → World → Prop) : Prop :=
  ∀ w1 : World, w1 = w.alloc (.cells #[(.pointer none), (.slice none 0 0)] 130 (0, 0)) →
  ∃ vI : Int → Nat → World → Prop, (∃ vk_2 : Nat, vI 0 vk_2 w1) ∧
  ∀ (jk : Nat → Value) (x11 : Int), ∀ (vk : Nat) (w2 : World), vI x11 vk w2 →
  (decide (x11 < ((opsN : Nat) : Int)) = true →
  (0 ≤ x11 ∧ x11 < ((opsN : Nat) : Int)) ∧ someV opsA fun p =>
  ∃ (x140 : Int), ∃ (x141 : Int), ∃ (x142 : Int), ∃ (x143 : ByteArray), (w2.cell? (p.add (x11.toNat * 4)) = some (.int .i64 x140) ∧ w2.cell? ((p.add (x11.toNat * 4)).add 1) = some (.int .i64 x141) ∧ w2.cell? ((p.add (x11.toNat * 4)).add 2) = some (.int .i64 x142) ∧ w2.cell? ((p.add (x11.toNat * 4)).add 3) = some (.string x143)) ∧
  ∀ w3 : World, w3 = w2.alloc (.cells #[(.int .i64 0), (.int .i64 0), (.int .i64 0), (.string ByteArray.empty)] 126 (0, 0)) →
  (((∃ u, w3.cell? (⟨w2.heap.size, 0, none⟩ : Addr) = some u) ∧ w3.frozen? (⟨w2.heap.size, 0, none⟩ : Addr) = false) ∧ ((∃ u, w3.cell? (⟨w2.heap.size, 1, none⟩ : Addr) = some u) ∧ w3.frozen? (⟨w2.heap.size, 1, none⟩ : Addr) = false) ∧ ((∃ u, w3.cell? (⟨w2.heap.size, 2, none⟩ : Addr) = some u) ∧ w3.frozen? (⟨w2.heap.size, 2, none⟩ : Addr) = false) ∧ ((∃ u, w3.cell? (⟨w2.heap.size, 3, none⟩ : Addr) = some u) ∧ w3.frozen? (⟨w2.heap.size, 3, none⟩ : Addr) = false)) ∧ ∀ w4 : World, w4 = ((((w3.setCell (⟨w2.heap.size, 0, none⟩ : Addr) (.int .i64 x140)).setCell (⟨w2.heap.size, 1, none⟩ : Addr) (.int .i64 x141)).setCell (⟨w2.heap.size, 2, none⟩ : Addr) (.int .i64 x142)).setCell (⟨w2.heap.size, 3, none⟩ : Addr) (.string x143)) →
  ∃ (x170 : Int), ∃ (x171 : Int), ∃ (x172 : Int), ∃ (x173 : ByteArray), (w4.cell? (⟨w2.heap.size, 0, none⟩ : Addr) = some (.int .i64 x170) ∧ w4.cell? (⟨w2.heap.size, 1, none⟩ : Addr) = some (.int .i64 x171) ∧ w4.cell? (⟨w2.heap.size, 2, none⟩ : Addr) = some (.int .i64 x172) ∧ w4.cell? (⟨w2.heap.size, 3, none⟩ : Addr) = some (.string x173)) ∧
  Calls Try.prog 74 #[(.int .i64 ((base.size : Nat) : Int)), (.agg #[(.int .i64 x170), (.int .i64 x171), (.int .i64 x172), (.string x173)])] w4 (Ret fun v w5 => ∃ (x18 : Bool), v = (.bool x18) ∧
  ((!x18) = true →
  R (.tuple #[(.string (ByteArray.mk #[])), (.int .i64 1)]) w5) ∧
  ((!x18) = false →
  ∃ vS : World → Prop, ∀ w6 : World, w6 = w5.drew → vS w6 ∧
  ∃ (x22 : Int), (∀ w7, vS w7 → w7.cell? (⟨w2.heap.size, 2, none⟩ : Addr) = some (.int .i64 x22)) ∧
  ∃ (x24 : ByteArray), (∀ w8, vS w8 → w8.cell? (⟨w2.heap.size, 3, none⟩ : Addr) = some (.string x24)) ∧
  Calls Try.prog 75 #[(.pointer (some (⟨w.heap.size, 0, none⟩ : Addr)))] w6 (Ret fun v_1 w9 => ∃ (x20 : Int), v_1 = (.int .i64 x20) ∧
  vS w9 ∧
  (decide ((IntKind.i64.wrap (x20 + (if ((x24.size : Nat) : Int) > x22 then ((x24.size : Nat) : Int) else x22))) > (8192 : Int)) = true →
  R (.tuple #[(.string (ByteArray.mk #[])), (.int .i64 12)]) w9) ∧
  (decide ((IntKind.i64.wrap (x20 + (if ((x24.size : Nat) : Int) > x22 then ((x24.size : Nat) : Int) else x22))) > (8192 : Int)) = false →
  ∃ (x290 : Int), ∃ (x291 : Int), ∃ (x292 : Int), ∃ (x293 : ByteArray), (w9.cell? (⟨w2.heap.size, 0, none⟩ : Addr) = some (.int .i64 x290) ∧ w9.cell? (⟨w2.heap.size, 1, none⟩ : Addr) = some (.int .i64 x291) ∧ w9.cell? (⟨w2.heap.size, 2, none⟩ : Addr) = some (.int .i64 x292) ∧ w9.cell? (⟨w2.heap.size, 3, none⟩ : Addr) = some (.string x293)) ∧
  Calls Try.prog 77 #[(.agg #[(.int .i64 x290), (.int .i64 x291), (.int .i64 x292), (.string x293)]), (.string base)] w9 (Ret fun v_2 w10 => ∃ (x31 : ByteArray), v_2 = (.string x31) ∧
  Calls Try.prog 76 #[(.pointer (some (⟨w.heap.size, 0, none⟩ : Addr))), (.string x31)] w10 (Ret fun v_3 w11 => ∃ (x32_0 : Int), ∃ (x32_1 : Value), v_3 = (.tuple #[(.int .i64 x32_0), x32_1]) ∧
  ∃ vk_1 : Nat, vk_1 < vk ∧ vI (IntKind.i64.wrap (x11 + 1)) vk_1 w11))))))) ∧
  (decide (x11 < ((opsN : Nat) : Int)) = false →
  Calls Try.prog 78 #[(.pointer (some (⟨w.heap.size, 0, none⟩ : Addr)))] w2 (Ret fun v_4 w12 => ∃ (x34 : ByteArray), v_4 = (.string x34) ∧
  R (.tuple #[(.string x34), (.int .i64 0)]) w12))
theorem patch_Apply.vc_eq (base : ByteArray) (opsA : Option Addr) (opsN : Nat) (opsC : Nat) (w : World) (R : Value → World → Prop) : fnV Try.prog Try.f50 (.lp [(4, none), (5, none), (8, none), (11, some (.int .i64)), (12, none), (13, none), (14, none), (15, none), (16, none), (17, none), (18, none), (19, none), (20, none), (21, none), (22, none), (23, none), (24, none), (25, none), (26, none), (27, none), (28, none), (29, none), (30, none), (31, none), (32, none), (33, none)] (.c (.c .nil (.tk 1 (.tk 2 (.tk 3 (.tk 4 (.tk 5 (.tk 6 (.alt 0 (.tk 7 (.tk 8 (.fin (.c .nil .nil)))) .nil)))))))) .nil)) [(.string base), (.slice opsA opsN opsC)] w R = patch_Apply.vc base opsA opsN opsC w R := by kernel_rfl
theorem patch_Apply.calls (base : ByteArray) (opsA : Option Addr) (opsN : Nat) (opsC : Nat) {w : World} {R : Value → World → Prop} (h : patch_Apply.vc base opsA opsN opsC w R) : Calls Try.prog 50 #[(.string base), (.slice opsA opsN opsC)] w (Ret R) :=
  calls_V fit Try.func50 (.lp [(4, none), (5, none), (8, none), (11, some (.int .i64)), (12, none), (13, none), (14, none), (15, none), (16, none), (17, none), (18, none), (19, none), (20, none), (21, none), (22, none), (23, none), (24, none), (25, none), (26, none), (27, none), (28, none), (29, none), (30, none), (31, none), (32, none), (33, none)] (.c (.c .nil (.tk 1 (.tk 2 (.tk 3 (.tk 4 (.tk 5 (.tk 6 (.alt 0 (.tk 7 (.tk 8 (.fin (.c .nil .nil)))) .nil)))))))) .nil)) (by rw [show (#[(.string base), (.slice opsA opsN opsC)] : Array Value).toList = [(.string base), (.slice opsA opsN opsC)] from rfl, patch_Apply.vc_eq]; exact h)
/-- function 49 -/
def coadjutorlaw19_great.vc (lA : Option Addr) (lN : Nat) (lC : Nat) (w : World) (R : Value → World → Prop) : Prop :=
  ∃ vI : Int → Int → Nat → World → Prop, (∃ vk_2 : Nat, vI 0 0 vk_2 w) ∧
  ∀ (jk : Nat → Value) (n : Int) (i : Int), ∀ (vk : Nat) (w1 : World), vI n i vk w1 →
  (decide (i < ((lN : Nat) : Int)) = true →
  (decide (n ≤ (16384 : Int)) = true →
  (0 ≤ i ∧ i < ((lN : Nat) : Int)) ∧ someV lA fun p =>
  ∃ (x20 : ByteArray), w1.cell? ((p.add (i.toNat * 4)).add 3) = some (.string x20) ∧
  ∃ vk_1 : Nat, vk_1 < vk ∧ vI (IntKind.i64.wrap ((IntKind.i64.wrap (n + ((x20.size : Nat) : Int))) + 1)) (IntKind.i64.wrap (i + 1)) vk_1 w1) ∧
  (decide (n ≤ (16384 : Int)) = false →
  R (.bool (decide (n > (16384 : Int)))) w1)) ∧
  (decide (i < ((lN : Nat) : Int)) = false →
  R (.bool (decide (n > (16384 : Int)))) w1)
theorem coadjutorlaw19_great.vc_eq (lA : Option Addr) (lN : Nat) (lC : Nat) (w : World) (R : Value → World → Prop) : fnV Try.prog Try.f49 (.lp [(3, some (.int .i64)), (4, some (.int .i64)), (5, none), (6, none), (7, none), (8, none), (9, none), (10, none), (11, none), (12, none), (13, none), (14, none), (15, none), (16, none), (17, none), (18, none), (19, none), (20, none), (21, none), (22, none), (23, none)] (.at_ 3 4 (.c .nil .nil) (.k .nil))) [(.slice lA lN lC)] w R = coadjutorlaw19_great.vc lA lN lC w R := by kernel_rfl
theorem coadjutorlaw19_great.calls (lA : Option Addr) (lN : Nat) (lC : Nat) {w : World} {R : Value → World → Prop} (h : coadjutorlaw19_great.vc lA lN lC w R) : Calls Try.prog 49 #[(.slice lA lN lC)] w (Ret R) :=
  calls_V fit Try.func49 (.lp [(3, some (.int .i64)), (4, some (.int .i64)), (5, none), (6, none), (7, none), (8, none), (9, none), (10, none), (11, none), (12, none), (13, none), (14, none), (15, none), (16, none), (17, none), (18, none), (19, none), (20, none), (21, none), (22, none), (23, none)] (.at_ 3 4 (.c .nil .nil) (.k .nil))) (by rw [show (#[(.slice lA lN lC)] : Array Value).toList = [(.slice lA lN lC)] from rfl, coadjutorlaw19_great.vc_eq]; exact h)
/-- function 79 -/
def patch_Bytes_c1.vc (op0 : Int) (op1 : Int) (op2 : Int) (op3 : ByteArray) (w : World) (R : Value → World → Prop) : Prop :=
  ∀ w1 : World, w1 = w.alloc (.cells #[(.int .i64 op0), (.int .i64 op1), (.int .i64 op2), (.string op3)] 126 (0, 0)) →
  ∃ (x30 : Int), ∃ (x31 : Int), ∃ (x32 : Int), ∃ (x33 : ByteArray), (w1.cell? (⟨w.heap.size, 0, none⟩ : Addr) = some (.int .i64 x30) ∧ w1.cell? (⟨w.heap.size, 1, none⟩ : Addr) = some (.int .i64 x31) ∧ w1.cell? (⟨w.heap.size, 2, none⟩ : Addr) = some (.int .i64 x32) ∧ w1.cell? (⟨w.heap.size, 3, none⟩ : Addr) = some (.string x33)) ∧
  Calls Try.prog 74 #[(.int .i64 2147483647), (.agg #[(.int .i64 x30), (.int .i64 x31), (.int .i64 x32), (.string x33)])] w1 (Ret fun v w2 => ∃ (x4 : Bool), v = (.bool x4) ∧
  R (.bool (!x4)) w2)
theorem patch_Bytes_c1.vc_eq (op0 : Int) (op1 : Int) (op2 : Int) (op3 : ByteArray) (w : World) (R : Value → World → Prop) : fnV Try.prog Try.f79 .nil [(.agg #[(.int .i64 op0), (.int .i64 op1), (.int .i64 op2), (.string op3)])] w R = patch_Bytes_c1.vc op0 op1 op2 op3 w R := by kernel_rfl
theorem patch_Bytes_c1.calls (op0 : Int) (op1 : Int) (op2 : Int) (op3 : ByteArray) {w : World} {R : Value → World → Prop} (h : patch_Bytes_c1.vc op0 op1 op2 op3 w R) : Calls Try.prog 79 #[(.agg #[(.int .i64 op0), (.int .i64 op1), (.int .i64 op2), (.string op3)])] w (Ret R) :=
  calls_V fit Try.func79 .nil (by rw [show (#[(.agg #[(.int .i64 op0), (.int .i64 op1), (.int .i64 op2), (.string op3)])] : Array Value).toList = [(.agg #[(.int .i64 op0), (.int .i64 op1), (.int .i64 op2), (.string op3)])] from rfl, patch_Bytes_c1.vc_eq]; exact h)
/-- function 80 -/
def slices_ContainsFunc.vc_pb (sA : Option Addr) (sN : Nat) (sC : Nat) (w : World) (R : Value → World → Prop) : Prop :=
  Calls Try.prog 103 #[(.slice sA sN sC), (.func (.func 79) #[] #[])] w (Ret fun v w1 => ∃ (x7 : Int), v = (.int .i64 x7) ∧
  R (.bool (decide (x7 ≥ (0 : Int)))) w1)
theorem slices_ContainsFunc.vc_pb_eq (sA : Option Addr) (sN : Nat) (sC : Nat) (w : World) (R : Value → World → Prop) : fnV Try.prog Try.f80 .nil [(.slice sA sN sC), (.func (.func 79) #[] #[])] w R = slices_ContainsFunc.vc_pb sA sN sC w R := by kernel_rfl
theorem slices_ContainsFunc.calls_pb (sA : Option Addr) (sN : Nat) (sC : Nat) {w : World} {R : Value → World → Prop} (h : slices_ContainsFunc.vc_pb sA sN sC w R) : Calls Try.prog 80 #[(.slice sA sN sC), (.func (.func 79) #[] #[])] w (Ret R) :=
  calls_V fit Try.func80 .nil (by rw [show (#[(.slice sA sN sC), (.func (.func 79) #[] #[])] : Array Value).toList = [(.slice sA sN sC), (.func (.func 79) #[] #[])] from rfl, slices_ContainsFunc.vc_pb_eq]; exact h)
/-- function 103 -/
def slices_IndexFunc.vc_pb (sA : Option Addr) (sN : Nat) (sC : Nat) (w : World) (R : Value → World → Prop) : Prop :=
  ∃ vI : Int → Nat → World → Prop, (∃ vk_2 : Nat, vI 0 vk_2 w) ∧
  ∀ (jk : Nat → Value) (x8 : Int), ∀ (vk : Nat) (w1 : World), vI x8 vk w1 →
  (decide (x8 < ((sN : Nat) : Int)) = true →
  (0 ≤ x8 ∧ x8 < ((sN : Nat) : Int)) ∧ someV sA fun p =>
  ∃ (x150 : Int), ∃ (x151 : Int), ∃ (x152 : Int), ∃ (x153 : ByteArray), (w1.cell? (p.add (x8.toNat * 4)) = some (.int .i64 x150) ∧ w1.cell? ((p.add (x8.toNat * 4)).add 1) = some (.int .i64 x151) ∧ w1.cell? ((p.add (x8.toNat * 4)).add 2) = some (.int .i64 x152) ∧ w1.cell? ((p.add (x8.toNat * 4)).add 3) = some (.string x153)) ∧
  Calls Try.prog 79 #[(.agg #[(.int .i64 x150), (.int .i64 x151), (.int .i64 x152), (.string x153)])] w1 (Ret fun v w2 => ∃ (x16 : Bool), v = (.bool x16) ∧
  (x16 = true →
  R (.int .i64 x8) w2) ∧
  (x16 = false →
  ∃ vk_1 : Nat, vk_1 < vk ∧ vI (IntKind.i64.wrap (x8 + 1)) vk_1 w2))) ∧
  (decide (x8 < ((sN : Nat) : Int)) = false →
  R (.int .i64 (-1)) w1)
theorem slices_IndexFunc.vc_pb_eq (sA : Option Addr) (sN : Nat) (sC : Nat) (w : World) (R : Value → World → Prop) : fnV Try.prog Try.f103 (.lp [(4, none), (5, none), (8, some (.int .i64)), (9, none), (10, none), (11, none), (12, none), (13, none), (14, none), (15, none), (16, none), (17, none), (18, none)] (.c (.c .nil .nil) .nil)) [(.slice sA sN sC), (.func (.func 79) #[] #[])] w R = slices_IndexFunc.vc_pb sA sN sC w R := by kernel_rfl
theorem slices_IndexFunc.calls_pb (sA : Option Addr) (sN : Nat) (sC : Nat) {w : World} {R : Value → World → Prop} (h : slices_IndexFunc.vc_pb sA sN sC w R) : Calls Try.prog 103 #[(.slice sA sN sC), (.func (.func 79) #[] #[])] w (Ret R) :=
  calls_V fit Try.func103 (.lp [(4, none), (5, none), (8, some (.int .i64)), (9, none), (10, none), (11, none), (12, none), (13, none), (14, none), (15, none), (16, none), (17, none), (18, none)] (.c (.c .nil .nil) .nil)) (by rw [show (#[(.slice sA sN sC), (.func (.func 79) #[] #[])] : Array Value).toList = [(.slice sA sN sC), (.func (.func 79) #[] #[])] from rfl, slices_IndexFunc.vc_pb_eq]; exact h)
/-- function 51 -/
def patch_Bytes.vc (opsA : Option Addr) (opsN : Nat) (opsC : Nat) (w : World) (R : Value → World → Prop) : Prop :=
  (decide (((opsN : Nat) : Int) > (256 : Int)) = true →
  R (.tuple #[(.string (ByteArray.mk #[])), (.int .i64 1)]) w) ∧
  (decide (((opsN : Nat) : Int) > (256 : Int)) = false →
  Calls Try.prog 80 #[(.slice opsA opsN opsC), (.func (.func 79) #[] #[])] w (Ret fun v w1 => ∃ (x14 : Bool), v = (.bool x14) ∧
  (x14 = true →
  R (.tuple #[(.string (ByteArray.mk #[])), (.int .i64 1)]) w1) ∧
  (x14 = false →
  ∀ w2 : World, w2 = w1.alloc (.cells #[(.pointer none), (.slice none 0 0), (.bool false)] 141 (0, 0)) →
  ∀ w3 : World, w3 = w2.alloc (.cells #[(.int .i64 ((opsN : Nat) : Int))] 3 (0, 0)) →
  Calls Try.prog 81 #[(.pointer (some (⟨w1.heap.size, 0, none⟩ : Addr))), (.slice (some (⟨w2.heap.size, 0, none⟩ : Addr)) 1 1)] w3 (Ret fun v_1 w4 => v_1 = .tuple #[] ∧
  ∃ vI : Int → Nat → World → Prop, (∃ vk_2 : Nat, vI 0 vk_2 w4) ∧
  ∀ (jk : Nat → Value) (x22 : Int), ∀ (vk : Nat) (w5 : World), vI x22 vk w5 →
  (decide (x22 < ((opsN : Nat) : Int)) = true →
  (0 ≤ x22 ∧ x22 < ((opsN : Nat) : Int)) ∧ someV opsA fun p =>
  ∃ (x250 : Int), ∃ (x251 : Int), ∃ (x252 : Int), ∃ (x253 : ByteArray), (w5.cell? (p.add (x22.toNat * 4)) = some (.int .i64 x250) ∧ w5.cell? ((p.add (x22.toNat * 4)).add 1) = some (.int .i64 x251) ∧ w5.cell? ((p.add (x22.toNat * 4)).add 2) = some (.int .i64 x252) ∧ w5.cell? ((p.add (x22.toNat * 4)).add 3) = some (.string x253)) ∧
  ∀ w6 : World, w6 = w5.alloc (.cells #[(.int .i64 0), (.int .i64 0), (.int .i64 0), (.string ByteArray.empty)] 126 (0, 0)) →
  (((∃ u, w6.cell? (⟨w5.heap.size, 0, none⟩ : Addr) = some u) ∧ w6.frozen? (⟨w5.heap.size, 0, none⟩ : Addr) = false) ∧ ((∃ u, w6.cell? (⟨w5.heap.size, 1, none⟩ : Addr) = some u) ∧ w6.frozen? (⟨w5.heap.size, 1, none⟩ : Addr) = false) ∧ ((∃ u, w6.cell? (⟨w5.heap.size, 2, none⟩ : Addr) = some u) ∧ w6.frozen? (⟨w5.heap.size, 2, none⟩ : Addr) = false) ∧ ((∃ u, w6.cell? (⟨w5.heap.size, 3, none⟩ : Addr) = some u) ∧ w6.frozen? (⟨w5.heap.size, 3, none⟩ : Addr) = false)) ∧ ∀ w7 : World, w7 = ((((w6.setCell (⟨w5.heap.size, 0, none⟩ : Addr) (.int .i64 x250)).setCell (⟨w5.heap.size, 1, none⟩ : Addr) (.int .i64 x251)).setCell (⟨w5.heap.size, 2, none⟩ : Addr) (.int .i64 x252)).setCell (⟨w5.heap.size, 3, none⟩ : Addr) (.string x253)) →
  ∃ (x27 : Int), w7.cell? (⟨w5.heap.size, 0, none⟩ : Addr) = some (.int .i64 x27) ∧
  ∀ w8 : World, w8 = w7.alloc (.cells #[(.int .u8 (IntKind.u8.wrap x27))] 5 (0, 0)) →
  Calls Try.prog 82 #[(.pointer (some (⟨w1.heap.size, 0, none⟩ : Addr))), (.slice (some (⟨w7.heap.size, 0, none⟩ : Addr)) 1 1)] w8 (Ret fun v_2 w9 => v_2 = .tuple #[] ∧
  ∃ J : World → Prop, (∃ (x32 : Int), w9.cell? (⟨w5.heap.size, 0, none⟩ : Addr) = some (.int .i64 x32) ∧
  ((x32 != (2 : Int)) = true →
  ∃ (x35 : Int), w9.cell? (⟨w5.heap.size, 1, none⟩ : Addr) = some (.int .i64 x35) ∧
  ∀ w10 : World, w10 = w9.alloc (.cells #[(.int .i64 x35)] 3 (0, 0)) →
  Calls Try.prog 81 #[(.pointer (some (⟨w1.heap.size, 0, none⟩ : Addr))), (.slice (some (⟨w9.heap.size, 0, none⟩ : Addr)) 1 1)] w10 (Ret fun v_3 w11 => v_3 = .tuple #[] ∧
  J w11)) ∧
  ((x32 != (2 : Int)) = false →
  J w9)) ∧
  ∀ (jk : Nat → Value), ∀ w12 : World, J w12 →
  ∃ (x39 : Int), w12.cell? (⟨w5.heap.size, 0, none⟩ : Addr) = some (.int .i64 x39) ∧
  ((x39 == (1 : Int)) = true →
  ∃ (x42 : Int), w12.cell? (⟨w5.heap.size, 2, none⟩ : Addr) = some (.int .i64 x42) ∧
  ∀ w13 : World, w13 = w12.alloc (.cells #[(.int .i64 x42)] 3 (0, 0)) →
  Calls Try.prog 81 #[(.pointer (some (⟨w1.heap.size, 0, none⟩ : Addr))), (.slice (some (⟨w12.heap.size, 0, none⟩ : Addr)) 1 1)] w13 (Ret fun v_4 w14 => v_4 = .tuple #[] ∧
  ∃ vk_1 : Nat, vk_1 < vk ∧ vI (IntKind.i64.wrap (x22 + 1)) vk_1 w14)) ∧
  ((x39 == (1 : Int)) = false →
  ∃ (x46 : ByteArray), w12.cell? (⟨w5.heap.size, 3, none⟩ : Addr) = some (.string x46) ∧
  ∀ w15 : World, w15 = w12.alloc (.cells #[(.string x46)] 9 (0, 0)) →
  Calls Try.prog 83 #[(.pointer (some (⟨w1.heap.size, 0, none⟩ : Addr))), (.slice (some (⟨w12.heap.size, 0, none⟩ : Addr)) 1 1)] w15 (Ret fun v_5 w16 => v_5 = .tuple #[] ∧
  ∃ vk_1 : Nat, vk_1 < vk ∧ vI (IntKind.i64.wrap (x22 + 1)) vk_1 w16)))) ∧
  (decide (x22 < ((opsN : Nat) : Int)) = false →
  Calls Try.prog 84 #[(.pointer (some (⟨w1.heap.size, 0, none⟩ : Addr)))] w5 (Ret fun v_6 w17 => ∃ (x50 : ByteArray), v_6 = (.string x50) ∧
  R (.tuple #[(.string x50), (.int .i64 0)]) w17))))))
theorem patch_Bytes.vc_eq (opsA : Option Addr) (opsN : Nat) (opsC : Nat) (w : World) (R : Value → World → Prop) : fnV Try.prog Try.f51 (.at_ 2 3 (.k .nil) (.c .nil (.lp [(7, none), (22, some (.int .i64)), (23, none), (24, none), (25, none), (26, none), (27, none), (28, none), (29, none), (30, none), (31, none), (32, none), (33, none), (34, none), (35, none), (36, none), (37, none), (38, none), (39, none), (40, none), (41, none), (42, none), (43, none), (44, none), (45, none), (46, none), (47, none), (48, none), (49, none)] (.c (.cut 3 [(31, none), (32, none), (33, none), (34, none), (35, none), (36, none), (37, none)] (.c .nil .nil) (.c .nil .nil)) .nil)))) [(.slice opsA opsN opsC)] w R = patch_Bytes.vc opsA opsN opsC w R := by kernel_rfl
theorem patch_Bytes.calls (opsA : Option Addr) (opsN : Nat) (opsC : Nat) {w : World} {R : Value → World → Prop} (h : patch_Bytes.vc opsA opsN opsC w R) : Calls Try.prog 51 #[(.slice opsA opsN opsC)] w (Ret R) :=
  calls_V fit Try.func51 (.at_ 2 3 (.k .nil) (.c .nil (.lp [(7, none), (22, some (.int .i64)), (23, none), (24, none), (25, none), (26, none), (27, none), (28, none), (29, none), (30, none), (31, none), (32, none), (33, none), (34, none), (35, none), (36, none), (37, none), (38, none), (39, none), (40, none), (41, none), (42, none), (43, none), (44, none), (45, none), (46, none), (47, none), (48, none), (49, none)] (.c (.cut 3 [(31, none), (32, none), (33, none), (34, none), (35, none), (36, none), (37, none)] (.c .nil .nil) (.c .nil .nil)) .nil)))) (by rw [show (#[(.slice opsA opsN opsC)] : Array Value).toList = [(.slice opsA opsN opsC)] from rfl, patch_Bytes.vc_eq]; exact h)
/-- function 54 -/
def patch_Cost.vc (opsA : Option Addr) (opsN : Nat) (opsC : Nat) (w : World) (R : Value → World → Prop) : Prop :=
  Calls Try.prog 51 #[(.slice opsA opsN opsC)] w (Ret fun v w1 => ∃ (x7_0 : ByteArray), ∃ (x7_1 : Int), v = (.tuple #[(.string x7_0), (.int .i64 x7_1)]) ∧
  R (.int .i64 ((x7_0.size : Nat) : Int)) w1)
theorem patch_Cost.vc_eq (opsA : Option Addr) (opsN : Nat) (opsC : Nat) (w : World) (R : Value → World → Prop) : fnV Try.prog Try.f54 .nil [(.slice opsA opsN opsC)] w R = patch_Cost.vc opsA opsN opsC w R := by kernel_rfl
theorem patch_Cost.calls (opsA : Option Addr) (opsN : Nat) (opsC : Nat) {w : World} {R : Value → World → Prop} (h : patch_Cost.vc opsA opsN opsC w R) : Calls Try.prog 54 #[(.slice opsA opsN opsC)] w (Ret R) :=
  calls_V fit Try.func54 .nil (by rw [show (#[(.slice opsA opsN opsC)] : Array Value).toList = [(.slice opsA opsN opsC)] from rfl, patch_Cost.vc_eq]; exact h)
/-- function 48 -/
def coadjutorlaw19_awake.vc (w : World) (R : Value → World → Prop) : Prop :=
  ∀ w1 : World, w1 = w.alloc (.cells #[(.int .i64 1), (.int .i64 1), (.int .i64 2), (.string ByteArray.empty), (.int .i64 2), (.int .i64 0), (.int .i64 0), (.string (ByteArray.mk #[120])), (.int .i64 3), (.int .i64 0), (.int .i64 0), (.string (ByteArray.mk #[1]))] 126 (0, 0)) →
  Calls Try.prog 50 #[(.string (ByteArray.mk #[97, 98, 99, 100])), (.slice (some (⟨w.heap.size, 0, none⟩ : Addr)) 3 3)] w1 (Ret fun v w2 => ∃ (x12_0 : ByteArray), ∃ (x12_1 : Int), v = (.tuple #[(.string x12_0), (.int .i64 x12_1)]) ∧
  ∀ w3 : World, w3 = w2.alloc (.cells #[(.int .i64 2), (.int .i64 0), (.int .i64 0), (.string (ByteArray.mk #[120]))] 126 (0, 0)) →
  Calls Try.prog 51 #[(.slice (some (⟨w2.heap.size, 0, none⟩ : Addr)) 1 1)] w3 (Ret fun v_1 w4 => ∃ (x18_0 : ByteArray), ∃ (x18_1 : Int), v_1 = (.tuple #[(.string x18_0), (.int .i64 x18_1)]) ∧
  ∀ w5 : World, w5 = w4.alloc (.cells #[(.int .i64 1), (.int .i64 0), (.int .i64 2), (.string ByteArray.empty)] 126 (0, 0)) →
  Calls Try.prog 50 #[(.string (ByteArray.mk #[97])), (.slice (some (⟨w4.heap.size, 0, none⟩ : Addr)) 1 1)] w5 (Ret fun v_2 w6 => ∃ (x24_0 : ByteArray), ∃ (x24_1 : Int), v_2 = (.tuple #[(.string x24_0), (.int .i64 x24_1)]) ∧
  ((x12_0.toList == (ByteArray.mk #[98, 99, 120, 98]).toList) = true →
  ((x12_1 == (0 : Int)) = true →
  ((x18_0.toList == (ByteArray.mk #[1, 0, 0, 0, 2, 1, 0, 0, 0, 120]).toList) = true →
  ((x18_1 == (0 : Int)) = true →
  ((x24_1 == (1 : Int)) = true →
  Calls Try.prog 54 #[(.slice none 0 0)] w6 (Ret fun v_3 w7 => ∃ (x46 : Int), v_3 = (.int .i64 x46) ∧
  R (.bool (x46 == (4 : Int))) w7)) ∧
  ((x24_1 == (1 : Int)) = false →
  R (.bool false) w6)) ∧
  ((x18_1 == (0 : Int)) = false →
  R (.bool false) w6)) ∧
  ((x18_0.toList == (ByteArray.mk #[1, 0, 0, 0, 2, 1, 0, 0, 0, 120]).toList) = false →
  R (.bool false) w6)) ∧
  ((x12_1 == (0 : Int)) = false →
  R (.bool false) w6)) ∧
  ((x12_0.toList == (ByteArray.mk #[98, 99, 120, 98]).toList) = false →
  R (.bool false) w6))))
theorem coadjutorlaw19_awake.vc_eq (w : World) (R : Value → World → Prop) : fnV Try.prog Try.f48 (.at_ 4 2 (.at_ 4 6 (.at_ 4 10 (.at_ 4 14 (.at_ 4 18 .nil .nil) .nil) .nil) .nil) .nil) [] w R = coadjutorlaw19_awake.vc  w R := by kernel_rfl
theorem coadjutorlaw19_awake.calls {w : World} {R : Value → World → Prop} (h : coadjutorlaw19_awake.vc  w R) : Calls Try.prog 48 #[] w (Ret R) :=
  calls_V fit Try.func48 (.at_ 4 2 (.at_ 4 6 (.at_ 4 10 (.at_ 4 14 (.at_ 4 18 .nil .nil) .nil) .nil) .nil) .nil) (by rw [show (#[] : Array Value).toList = [] from rfl, coadjutorlaw19_awake.vc_eq]; exact h)
/-- function 9 -/
def coadjutorlaw19_PatchRows.vc (base : ByteArray) (aA : Option Addr) (aN : Nat) (aC : Nat) (bA : Option Addr) (bN : Nat) (bC : Nat) (w : World) (R : Value → World → Prop) : Prop :=
  Calls Try.prog 48 #[] w (Ret fun v w1 => ∃ (x13 : Bool), v = (.bool x13) ∧
  ((!x13) = true →
  R (.bool false) w1) ∧
  ((!x13) = false →
  (decide (((base.size : Nat) : Int) > (512 : Int)) = true →
  R (.bool true) w1) ∧
  (decide (((base.size : Nat) : Int) > (512 : Int)) = false →
  Calls Try.prog 49 #[(.slice aA aN aC)] w1 (Ret fun v_1 w2 => ∃ (x20 : Bool), v_1 = (.bool x20) ∧
  (x20 = true →
  R (.bool true) w2) ∧
  (x20 = false →
  Calls Try.prog 49 #[(.slice bA bN bC)] w2 (Ret fun v_2 w3 => ∃ (x24 : Bool), v_2 = (.bool x24) ∧
  (x24 = true →
  R (.bool true) w3) ∧
  (x24 = false →
  (decide (((aN : Nat) : Int) > (10 : Int)) = true →
  R (.bool true) w3) ∧
  (decide (((aN : Nat) : Int) > (10 : Int)) = false →
  (decide (((bN : Nat) : Int) > (10 : Int)) = true →
  R (.bool true) w3) ∧
  (decide (((bN : Nat) : Int) > (10 : Int)) = false →
  Calls Try.prog 50 #[(.string base), (.slice aA aN aC)] w3 (Ret fun v_3 w4 => ∃ (x39_0 : ByteArray), ∃ (x39_1 : Int), v_3 = (.tuple #[(.string x39_0), (.int .i64 x39_1)]) ∧
  Calls Try.prog 50 #[(.string base), (.slice bA bN bC)] w4 (Ret fun v_4 w5 => ∃ (x45_0 : ByteArray), ∃ (x45_1 : Int), v_4 = (.tuple #[(.string x45_0), (.int .i64 x45_1)]) ∧
  ∀ w6 : World, w6 = w5.alloc (.cells #[] 126 (0, 0)) →
  ∃ (x52A : Option Addr), ∃ (x52N : Nat), ∃ (x52C : Nat), ∃ w7 : World, (Builtin.append_ #[86, 86] 86 #[(.slice (some (⟨w5.heap.size, 0, none⟩ : Addr)) 0 0), (.slice aA aN aC)]).run Try.prog w6 = .ok (.slice x52A x52N x52C) w7 ∧
  ∃ (x54A : Option Addr), ∃ (x54N : Nat), ∃ (x54C : Nat), ∃ w8 : World, (Builtin.append_ #[86, 86] 86 #[(.slice x52A x52N x52C), (.slice bA bN bC)]).run Try.prog w7 = .ok (.slice x54A x54N x54C) w8 ∧
  Calls Try.prog 50 #[(.string base), (.slice x54A x54N x54C)] w8 (Ret fun v_5 w9 => ∃ (x55_0 : ByteArray), ∃ (x55_1 : Int), v_5 = (.tuple #[(.string x55_0), (.int .i64 x55_1)]) ∧
  ((x39_1 != (0 : Int)) = true →
  ((x55_1 == x39_1) = true →
  R (.bool (x55_0.toList == (ByteArray.mk #[]).toList)) w9) ∧
  ((x55_1 == x39_1) = false →
  R (.bool false) w9)) ∧
  ((x39_1 != (0 : Int)) = false →
  ((x45_1 != (0 : Int)) = true →
  ((x55_1 != (0 : Int)) = true →
  R (.bool (x55_0.toList == (ByteArray.mk #[]).toList)) w9) ∧
  ((x55_1 != (0 : Int)) = false →
  R (.bool false) w9)) ∧
  ((x45_1 != (0 : Int)) = false →
  (decide ((IntKind.i64.wrap (((x39_0.size : Nat) : Int) + ((x45_0.size : Nat) : Int))) > (8192 : Int)) = true →
  ((x55_1 != (0 : Int)) = true →
  R (.bool (x55_0.toList == (ByteArray.mk #[]).toList)) w9) ∧
  ((x55_1 != (0 : Int)) = false →
  R (.bool false) w9)) ∧
  (decide ((IntKind.i64.wrap (((x39_0.size : Nat) : Int) + ((x45_0.size : Nat) : Int))) > (8192 : Int)) = false →
  ((x55_1 == (0 : Int)) = true →
  ((x39_0.size + x45_0.size : Nat) : Int) ≤ 9223372036854775807 ∧
  R (.bool (x55_0.toList == (x39_0 ++ x45_0).toList)) w9) ∧
  ((x55_1 == (0 : Int)) = false →
  R (.bool false) w9))))))))))))))))
theorem coadjutorlaw19_PatchRows.vc_eq (base : ByteArray) (aA : Option Addr) (aN : Nat) (aC : Nat) (bA : Option Addr) (bN : Nat) (bC : Nat) (w : World) (R : Value → World → Prop) : fnV Try.prog Try.f9 (.c .nil (.at_ 3 3 (.k .nil) (.at_ 3 7 (.k .nil) (.at_ 3 11 (.k .nil) (.at_ 3 16 (.k .nil) (.c .nil (.c (.at_ 9 3 .nil .nil) (.at_ 10 2 (.k (.at_ 11 2 .nil .nil)) (.c (.at_ 11 2 .nil .nil) (.at_ 12 2 .nil .nil)))))))))) [(.string base), (.slice aA aN aC), (.slice bA bN bC)] w R = coadjutorlaw19_PatchRows.vc base aA aN aC bA bN bC w R := by kernel_rfl
theorem coadjutorlaw19_PatchRows.calls (base : ByteArray) (aA : Option Addr) (aN : Nat) (aC : Nat) (bA : Option Addr) (bN : Nat) (bC : Nat) {w : World} {R : Value → World → Prop} (h : coadjutorlaw19_PatchRows.vc base aA aN aC bA bN bC w R) : Calls Try.prog 9 #[(.string base), (.slice aA aN aC), (.slice bA bN bC)] w (Ret R) :=
  calls_V fit Try.func9 (.c .nil (.at_ 3 3 (.k .nil) (.at_ 3 7 (.k .nil) (.at_ 3 11 (.k .nil) (.at_ 3 16 (.k .nil) (.c .nil (.c (.at_ 9 3 .nil .nil) (.at_ 10 2 (.k (.at_ 11 2 .nil .nil)) (.c (.at_ 11 2 .nil .nil) (.at_ 12 2 .nil .nil)))))))))) (by rw [show (#[(.string base), (.slice aA aN aC), (.slice bA bN bC)] : Array Value).toList = [(.string base), (.slice aA aN aC), (.slice bA bN bC)] from rfl, coadjutorlaw19_PatchRows.vc_eq]; exact h)
end Go.Proofs.Ytpcddfhfchempaa.Vc
