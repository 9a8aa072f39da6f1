import Derived.Test.YtbadkcnemcnhfaaGreatDoorVc
import Derived.Test.YtbadkcnemcnhfaaGreatDoorH
import Derived.Test.YtbadkcnemcnhfaaGreatDoorProg
import Derived.KernelRfl
set_option linter.unusedVariables false
set_option maxRecDepth 100000
namespace Go.Proofs.YtbadkcnemcnhfaaGreatDoor.Vc
open Go Go.Proofs Go.Proofs.YtbadkcnemcnhfaaGreatDoor.V
/-- function 27 -/
def lens_check.vc_no (b : Option Addr) (w : World) (R : Value → World → Prop) : Prop :=
  R (.int .i64 2) w
theorem lens_check.vc_no_eq (b : Option Addr) (w : World) (R : Value → World → Prop) : fnV Tryz.prog Tryz.f27 (.k .nil) [(.pointer none), (.pointer b)] w R = lens_check.vc_no b w R := by kernel_rfl
theorem lens_check.calls_no (b : Option Addr) {w : World} {R : Value → World → Prop} (h : lens_check.vc_no b w R) : Calls Tryz.prog 27 #[(.pointer none), (.pointer b)] w (Ret R) :=
  calls_V fit Tryz.func27 (.k .nil) (by rw [show (#[(.pointer none), (.pointer b)] : Array Value).toList = [(.pointer none), (.pointer b)] from rfl, lens_check.vc_no_eq]; exact h)
/-- function 27 -/
def lens_check.vc_on (aB : Nat) (w : World) (R : Value → World → Prop) : Prop :=
  R (.int .i64 2) w
theorem lens_check.vc_on_eq (aB : Nat) (w : World) (R : Value → World → Prop) : fnV Tryz.prog Tryz.f27 (.k .nil) [(.pointer (some (⟨aB, 0, none⟩ : Addr))), (.pointer none)] w R = lens_check.vc_on aB w R := by kernel_rfl
theorem lens_check.calls_on (aB : Nat) {w : World} {R : Value → World → Prop} (h : lens_check.vc_on aB w R) : Calls Tryz.prog 27 #[(.pointer (some (⟨aB, 0, none⟩ : Addr))), (.pointer none)] w (Ret R) :=
  calls_V fit Tryz.func27 (.k .nil) (by rw [show (#[(.pointer (some (⟨aB, 0, none⟩ : Addr))), (.pointer none)] : Array Value).toList = [(.pointer (some (⟨aB, 0, none⟩ : Addr))), (.pointer none)] from rfl, lens_check.vc_on_eq]; exact h)
/-- function 13 -/
def lens_Changes.vc_no (b : Option Addr) (w : World) (R : Value → World → Prop) : Prop :=
  Calls Tryz.prog 27 #[(.pointer none), (.pointer b)] w (Ret fun v w1 => ∃ (x17 : Int), v = (.int .i64 x17) ∧
  ((x17 != (0 : Int)) = true →
  R (.tuple #[(.slice none 0 0), (.int .i64 x17)]) w1) ∧
  ((x17 != (0 : Int)) = false →
  False))
theorem lens_Changes.vc_no_eq (b : Option Addr) (w : World) (R : Value → World → Prop) : fnV Tryz.prog Tryz.f13 (.c .nil .nil) [(.pointer none), (.pointer b)] w R = lens_Changes.vc_no b w R := by kernel_rfl
theorem lens_Changes.calls_no (b : Option Addr) {w : World} {R : Value → World → Prop} (h : lens_Changes.vc_no b w R) : Calls Tryz.prog 13 #[(.pointer none), (.pointer b)] w (Ret R) :=
  calls_V fit Tryz.func13 (.c .nil .nil) (by rw [show (#[(.pointer none), (.pointer b)] : Array Value).toList = [(.pointer none), (.pointer b)] from rfl, lens_Changes.vc_no_eq]; exact h)
/-- function 14 -/
def lens_Distance.vc_on (aB : Nat) (w : World) (R : Value → World → Prop) : Prop :=
  Calls Tryz.prog 27 #[(.pointer (some (⟨aB, 0, none⟩ : Addr))), (.pointer none)] w (Ret fun v w1 => ∃ (x13 : Int), v = (.int .i64 x13) ∧
  ((x13 != (0 : Int)) = true →
  R (.tuple #[(.int .i64 0), (.int .i64 x13)]) w1) ∧
  ((x13 != (0 : Int)) = false →
  Calls Tryz.prog 31 #[(.pointer none)] w1 (Ret fun v_1 w2 => ∃ (x18A : Option Addr), ∃ (x18N : Nat), ∃ (x18C : Nat), v_1 = (.slice x18A x18N x18C) ∧
  Calls Tryz.prog 31 #[(.pointer (some (⟨aB, 0, none⟩ : Addr)))] w2 (Ret fun v_2 w3 => ∃ (x20A : Option Addr), ∃ (x20N : Nat), ∃ (x20C : Nat), v_2 = (.slice x20A x20N x20C) ∧
  ∃ vI : Int → Int → Nat → World → Prop, (∃ vk_2 : Nat, vI 0 0 vk_2 w3) ∧
  ∀ (jk : Nat → Value) (sum : Int) (x22 : Int), ∀ (vk : Nat) (w4 : World), vI sum x22 vk w4 →
  (decide (x22 < ((x20N : Nat) : Int)) = true →
  (0 ≤ x22 ∧ x22 < ((x20N : Nat) : Int)) ∧ someV x20A fun p =>
  ∃ (x26 : Int), w4.cell? (p.add (x22.toNat * 1)) = some (.int .i8 x26) ∧
  (0 ≤ x22 ∧ x22 < ((x18N : Nat) : Int)) ∧ someV x18A fun p_1 =>
  ∃ (x32 : Int), w4.cell? (p_1.add (x22.toNat * 1)) = some (.int .i8 x32) ∧
  Calls Tryz.prog 32 #[(.int .i8 x26), (.int .i8 x32)] w4 (Ret fun v_3 w5 => ∃ (x33 : Int), v_3 = (.int .i64 x33) ∧
  ∃ vk_1 : Nat, vk_1 < vk ∧ vI (IntKind.i64.wrap (sum + x33)) (IntKind.i64.wrap (x22 + 1)) vk_1 w5)) ∧
  (decide (x22 < ((x20N : Nat) : Int)) = false →
  R (.tuple #[(.int .i64 sum), (.int .i64 0)]) w4)))))
theorem lens_Distance.vc_on_eq (aB : Nat) (w : World) (R : Value → World → Prop) : fnV Tryz.prog Tryz.f14 (.c .nil (.lp [(7, some (.int .i64)), (9, none), (10, none), (22, some (.int .i64)), (23, none), (24, none), (25, none), (26, none), (27, none), (28, none), (29, none), (30, none), (31, none), (32, none), (33, none), (34, none), (35, none)] (.c .nil .nil))) [(.pointer (some (⟨aB, 0, none⟩ : Addr))), (.pointer none)] w R = lens_Distance.vc_on aB w R := by kernel_rfl
theorem lens_Distance.calls_on (aB : Nat) {w : World} {R : Value → World → Prop} (h : lens_Distance.vc_on aB w R) : Calls Tryz.prog 14 #[(.pointer (some (⟨aB, 0, none⟩ : Addr))), (.pointer none)] w (Ret R) :=
  calls_V fit Tryz.func14 (.c .nil (.lp [(7, some (.int .i64)), (9, none), (10, none), (22, some (.int .i64)), (23, none), (24, none), (25, none), (26, none), (27, none), (28, none), (29, none), (30, none), (31, none), (32, none), (33, none), (34, none), (35, none)] (.c .nil .nil))) (by rw [show (#[(.pointer (some (⟨aB, 0, none⟩ : Addr))), (.pointer none)] : Array Value).toList = [(.pointer (some (⟨aB, 0, none⟩ : Addr))), (.pointer none)] from rfl, lens_Distance.vc_on_eq]; exact h)
/-- function 15 -/
def lens_Blend.vc_nn (num : Int) (den : Int) (w : World) (R : Value → World → Prop) : Prop :=
  Calls Tryz.prog 27 #[(.pointer none), (.pointer none)] w (Ret fun v w1 => ∃ (x17 : Int), v = (.int .i64 x17) ∧
  ((x17 != (0 : Int)) = true →
  R (.tuple #[(.pointer none), (.int .i64 x17)]) w1) ∧
  ((x17 != (0 : Int)) = false →
  (decide (den < (1 : Int)) = true →
  R (.tuple #[(.pointer none), (.int .i64 1)]) w1) ∧
  (decide (den < (1 : Int)) = false →
  (decide (den > (1000 : Int)) = true →
  R (.tuple #[(.pointer none), (.int .i64 1)]) w1) ∧
  (decide (den > (1000 : Int)) = false →
  (decide (num < (0 : Int)) = true →
  R (.tuple #[(.pointer none), (.int .i64 1)]) w1) ∧
  (decide (num < (0 : Int)) = false →
  (decide (num > den) = true →
  R (.tuple #[(.pointer none), (.int .i64 1)]) w1) ∧
  (decide (num > den) = false →
  Calls Tryz.prog 31 #[(.pointer none)] w1 (Ret fun v_1 w2 => ∃ (x37A : Option Addr), ∃ (x37N : Nat), ∃ (x37C : Nat), v_1 = (.slice x37A x37N x37C) ∧
  (((x37N : Nat) : Int) = ((x37N : Nat) : Int) ∧ 0 ≤ ((x37N : Nat) : Int) ∧ ((x37N : Nat) : Int) * (1 : Int) ≤ 140737488355328) ∧ ∀ w3 : World, w3 = w2.alloc (.cells (zeroRow [(.int .u8 0)] ((x37N : Nat) : Int).toNat).toArray 5 (0, 0)) →
  Calls Tryz.prog 31 #[(.pointer none)] w3 (Ret fun v_2 w4 => ∃ (x42A : Option Addr), ∃ (x42N : Nat), ∃ (x42C : Nat), v_2 = (.slice x42A x42N x42C) ∧
  ∃ vI : Int → Nat → World → Prop, (∃ vk_2 : Nat, vI 0 vk_2 w4) ∧
  ∀ (jk : Nat → Value) (x44 : Int), ∀ (vk : Nat) (w5 : World), vI x44 vk w5 →
  (decide (x44 < ((x42N : Nat) : Int)) = true →
  (0 ≤ x44 ∧ x44 < ((x42N : Nat) : Int)) ∧ someV x42A fun p =>
  ∃ (x48 : Int), w5.cell? (p.add (x44.toNat * 1)) = some (.int .i8 x48) ∧
  (0 ≤ x44 ∧ x44 < ((x37N : Nat) : Int)) ∧ someV x37A fun p_1 =>
  ∃ (x57 : Int), w5.cell? (p_1.add (x44.toNat * 1)) = some (.int .i8 x57) ∧
  den ≠ 0 ∧
  (0 ≤ x44 ∧ x44 < ((((x37N : Nat) : Int).toNat : Nat) : Int)) ∧
  (((∃ u, w5.cell? ((⟨w2.heap.size, 0, none⟩ : Addr).add (x44.toNat * 1)) = some u) ∧ w5.frozen? ((⟨w2.heap.size, 0, none⟩ : Addr).add (x44.toNat * 1)) = false)) ∧ ∀ w6 : World, w6 = (w5.setCell ((⟨w2.heap.size, 0, none⟩ : Addr).add (x44.toNat * 1)) (.int .u8 (IntKind.u8.wrap (IntKind.i64.wrap ((IntKind.i64.wrap x48) + (IntKind.i64.wrap (Int.tdiv (IntKind.i64.wrap (num * (IntKind.i64.wrap ((IntKind.i64.wrap x57) - (IntKind.i64.wrap x48))))) den))))))) →
  ∃ vk_1 : Nat, vk_1 < vk ∧ vI (IntKind.i64.wrap (x44 + 1)) vk_1 w6) ∧
  (decide (x44 < ((x42N : Nat) : Int)) = false →
  ∃ vS : World → Prop, ∀ w7 : World, w7 = w5.drew → vS w7 ∧
  False)))))))))
theorem lens_Blend.vc_nn_eq (num : Int) (den : Int) (w : World) (R : Value → World → Prop) : fnV Tryz.prog Tryz.f15 (.c .nil (.at_ 4 2 (.k .nil) (.at_ 4 6 (.k .nil) (.at_ 4 10 (.k .nil) (.c .nil (.lp [(13, none), (14, none), (44, some (.int .i64)), (45, none), (46, none), (47, none), (48, none), (49, none), (50, none), (51, none), (52, none), (53, none), (54, none), (55, none), (56, none), (57, none), (58, none), (59, none), (60, none), (61, none), (62, none), (63, none), (64, none), (65, none), (66, none), (67, none), (68, none)] (.c .nil (.tk 0 .nil)))))))) [(.pointer none), (.pointer none), (.int .i64 num), (.int .i64 den)] w R = lens_Blend.vc_nn num den w R := by kernel_rfl
theorem lens_Blend.calls_nn (num : Int) (den : Int) {w : World} {R : Value → World → Prop} (h : lens_Blend.vc_nn num den w R) : Calls Tryz.prog 15 #[(.pointer none), (.pointer none), (.int .i64 num), (.int .i64 den)] w (Ret R) :=
  calls_V fit Tryz.func15 (.c .nil (.at_ 4 2 (.k .nil) (.at_ 4 6 (.k .nil) (.at_ 4 10 (.k .nil) (.c .nil (.lp [(13, none), (14, none), (44, some (.int .i64)), (45, none), (46, none), (47, none), (48, none), (49, none), (50, none), (51, none), (52, none), (53, none), (54, none), (55, none), (56, none), (57, none), (58, none), (59, none), (60, none), (61, none), (62, none), (63, none), (64, none), (65, none), (66, none), (67, none), (68, none)] (.c .nil (.tk 0 .nil)))))))) (by rw [show (#[(.pointer none), (.pointer none), (.int .i64 num), (.int .i64 den)] : Array Value).toList = [(.pointer none), (.pointer none), (.int .i64 num), (.int .i64 den)] from rfl, lens_Blend.vc_nn_eq]; exact h)
/-- function 10 -/
def lens_Agree.vc_no (b : Option Addr) (most : Int) (promptsA : Option Addr) (promptsN : Nat) (promptsC : Nat) (w : World) (R : Value → World → Prop) : Prop :=
  R (.tuple #[(.int .i64 0), (.int .i64 2)]) w
theorem lens_Agree.vc_no_eq (b : Option Addr) (most : Int) (promptsA : Option Addr) (promptsN : Nat) (promptsC : Nat) (w : World) (R : Value → World → Prop) : fnV Tryz.prog Tryz.f10 (.k .nil) [(.pointer none), (.pointer b), (.int .i64 most), (.slice promptsA promptsN promptsC)] w R = lens_Agree.vc_no b most promptsA promptsN promptsC w R := by kernel_rfl
theorem lens_Agree.calls_no (b : Option Addr) (most : Int) (promptsA : Option Addr) (promptsN : Nat) (promptsC : Nat) {w : World} {R : Value → World → Prop} (h : lens_Agree.vc_no b most promptsA promptsN promptsC w R) : Calls Tryz.prog 10 #[(.pointer none), (.pointer b), (.int .i64 most), (.slice promptsA promptsN promptsC)] w (Ret R) :=
  calls_V fit Tryz.func10 (.k .nil) (by rw [show (#[(.pointer none), (.pointer b), (.int .i64 most), (.slice promptsA promptsN promptsC)] : Array Value).toList = [(.pointer none), (.pointer b), (.int .i64 most), (.slice promptsA promptsN promptsC)] from rfl, lens_Agree.vc_no_eq]; exact h)
/-- function 9 -/
def coadjutorlaw39_name.vc (part : Int) (block : Int) (w : World) (R : Value → World → Prop) : Prop :=
  ∀ w1 : World, w1 = w.alloc (.cells #[(.string ByteArray.empty), (.string ByteArray.empty), (.string ByteArray.empty), (.string ByteArray.empty), (.string ByteArray.empty), (.string ByteArray.empty), (.string ByteArray.empty), (.string ByteArray.empty), (.string ByteArray.empty), (.string ByteArray.empty), (.string ByteArray.empty), (.string ByteArray.empty)] 63 (0, 0)) →
  (((∃ u, w1.cell? (⟨w.heap.size, 0, none⟩ : Addr) = some u) ∧ w1.frozen? (⟨w.heap.size, 0, none⟩ : Addr) = false) ∧ ((∃ u, w1.cell? (⟨w.heap.size, 1, none⟩ : Addr) = some u) ∧ w1.frozen? (⟨w.heap.size, 1, none⟩ : Addr) = false) ∧ ((∃ u, w1.cell? (⟨w.heap.size, 2, none⟩ : Addr) = some u) ∧ w1.frozen? (⟨w.heap.size, 2, none⟩ : Addr) = false) ∧ ((∃ u, w1.cell? (⟨w.heap.size, 3, none⟩ : Addr) = some u) ∧ w1.frozen? (⟨w.heap.size, 3, none⟩ : Addr) = false) ∧ ((∃ u, w1.cell? (⟨w.heap.size, 4, none⟩ : Addr) = some u) ∧ w1.frozen? (⟨w.heap.size, 4, none⟩ : Addr) = false) ∧ ((∃ u, w1.cell? (⟨w.heap.size, 5, none⟩ : Addr) = some u) ∧ w1.frozen? (⟨w.heap.size, 5, none⟩ : Addr) = false) ∧ ((∃ u, w1.cell? (⟨w.heap.size, 6, none⟩ : Addr) = some u) ∧ w1.frozen? (⟨w.heap.size, 6, none⟩ : Addr) = false) ∧ ((∃ u, w1.cell? (⟨w.heap.size, 7, none⟩ : Addr) = some u) ∧ w1.frozen? (⟨w.heap.size, 7, none⟩ : Addr) = false) ∧ ((∃ u, w1.cell? (⟨w.heap.size, 8, none⟩ : Addr) = some u) ∧ w1.frozen? (⟨w.heap.size, 8, none⟩ : Addr) = false) ∧ ((∃ u, w1.cell? (⟨w.heap.size, 9, none⟩ : Addr) = some u) ∧ w1.frozen? (⟨w.heap.size, 9, none⟩ : Addr) = false) ∧ ((∃ u, w1.cell? (⟨w.heap.size, 10, none⟩ : Addr) = some u) ∧ w1.frozen? (⟨w.heap.size, 10, none⟩ : Addr) = false) ∧ ((∃ u, w1.cell? (⟨w.heap.size, 11, none⟩ : Addr) = some u) ∧ w1.frozen? (⟨w.heap.size, 11, none⟩ : Addr) = false)) ∧ ∀ w2 : World, w2 = ((((((((((((w1.setCell (⟨w.heap.size, 0, none⟩ : Addr) (.string (ByteArray.mk #[116, 111, 107, 101, 110]))).setCell (⟨w.heap.size, 1, none⟩ : Addr) (.string (ByteArray.mk #[112, 108, 97, 99, 101]))).setCell (⟨w.heap.size, 2, none⟩ : Addr) (.string (ByteArray.mk #[110, 111, 114, 109, 49]))).setCell (⟨w.heap.size, 3, none⟩ : Addr) (.string (ByteArray.mk #[113, 117, 101, 114, 121]))).setCell (⟨w.heap.size, 4, none⟩ : Addr) (.string (ByteArray.mk #[107, 101, 121]))).setCell (⟨w.heap.size, 5, none⟩ : Addr) (.string (ByteArray.mk #[118, 97, 108, 117, 101]))).setCell (⟨w.heap.size, 6, none⟩ : Addr) (.string (ByteArray.mk #[109, 105, 120]))).setCell (⟨w.heap.size, 7, none⟩ : Addr) (.string (ByteArray.mk #[110, 111, 114, 109, 50]))).setCell (⟨w.heap.size, 8, none⟩ : Addr) (.string (ByteArray.mk #[103, 97, 116, 101]))).setCell (⟨w.heap.size, 9, none⟩ : Addr) (.string (ByteArray.mk #[117, 112]))).setCell (⟨w.heap.size, 10, none⟩ : Addr) (.string (ByteArray.mk #[100, 111, 119, 110]))).setCell (⟨w.heap.size, 11, none⟩ : Addr) (.string (ByteArray.mk #[108, 97, 115, 116]))) →
  (decide (part < (0 : Int)) = true →
  R (.string (ByteArray.mk #[])) w2) ∧
  (decide (part < (0 : Int)) = false →
  (decide (part > (11 : Int)) = true →
  R (.string (ByteArray.mk #[])) w2) ∧
  (decide (part > (11 : Int)) = false →
  (decide (block < (0 : Int)) = true →
  R (.string (ByteArray.mk #[])) w2) ∧
  (decide (block < (0 : Int)) = false →
  (0 ≤ part ∧ part < (12 : Int)) ∧
  ∃ (x22 : ByteArray), w2.cell? ((⟨w.heap.size, 0, none⟩ : Addr).add (part.toNat * 1)) = some (.string x22) ∧
  (decide (part < (2 : Int)) = true →
  R (.string x22) w2) ∧
  (decide (part < (2 : Int)) = false →
  ((part == (11 : Int)) = true →
  R (.string x22) w2) ∧
  ((part == (11 : Int)) = false →
  ∃ vI : ByteArray → Int → Nat → World → Prop, (∃ vk_2 : Nat, vI (ByteArray.mk #[]) block vk_2 w2) ∧
  ∀ (jk : Nat → Value) (digits : ByteArray) (n : Int), ∀ (vk : Nat) (w3 : World), vI digits n vk w3 →
  (decide (n > (0 : Int)) = true →
  (10 : Int) ≠ 0 ∧
  ∀ w4 : World, w4 = w3.alloc (.cells #[(.int .u8 (IntKind.u8.wrap (IntKind.i64.wrap (48 + (Int.tmod n 10)))))] 5 (0, 0)) →
  ∃ (x44 : ByteArray), ∃ w5 : World, (convert 64 9 (.slice (some (⟨w3.heap.size, 0, none⟩ : Addr)) 1 1)).run Tryz.prog w4 = .ok (.string x44) w5 ∧
  ((x44.size + digits.size : Nat) : Int) ≤ 9223372036854775807 ∧
  (10 : Int) ≠ 0 ∧
  ∃ vk_1 : Nat, vk_1 < vk ∧ vI (x44 ++ digits) (IntKind.i64.wrap (Int.tdiv n 10)) vk_1 w5) ∧
  (decide (n > (0 : Int)) = false →
  ((digits.toList == (ByteArray.mk #[]).toList) = true →
  (10 : Int) ≠ 0 ∧
  ∀ w6 : World, w6 = w3.alloc (.cells #[(.int .u8 (IntKind.u8.wrap (IntKind.i64.wrap (48 + (Int.tmod n 10)))))] 5 (0, 0)) →
  ∃ (x44_1 : ByteArray), ∃ w7 : World, (convert 64 9 (.slice (some (⟨w3.heap.size, 0, none⟩ : Addr)) 1 1)).run Tryz.prog w6 = .ok (.string x44_1) w7 ∧
  ((x44_1.size + digits.size : Nat) : Int) ≤ 9223372036854775807 ∧
  (10 : Int) ≠ 0 ∧
  ∃ vk_1 : Nat, vk_1 < vk ∧ vI (x44_1 ++ digits) (IntKind.i64.wrap (Int.tdiv n 10)) vk_1 w7) ∧
  ((digits.toList == (ByteArray.mk #[]).toList) = false →
  ((x22.size + (ByteArray.mk #[32]).size : Nat) : Int) ≤ 9223372036854775807 ∧
  (((x22 ++ (ByteArray.mk #[32])).size + digits.size : Nat) : Int) ≤ 9223372036854775807 ∧
  R (.string ((x22 ++ (ByteArray.mk #[32])) ++ digits)) w3)))))))
theorem coadjutorlaw39_name.vc_eq (part : Int) (block : Int) (w : World) (R : Value → World → Prop) : fnV Tryz.prog Tryz.f9 (.at_ 2 2 (.k .nil) (.at_ 2 6 (.k .nil) (.c .nil (.at_ 5 2 (.k .nil) (.c .nil (.lp [(7, some (.str)), (8, some (.int .i64)), (31, none), (32, none), (33, none), (34, none), (35, none), (36, none), (37, none), (38, none), (39, none), (40, none), (41, none), (42, none), (43, none), (44, none), (45, none), (46, none)] (.at_ 9 2 (.k .nil) (.c .nil .nil)))))))) [(.int .i64 part), (.int .i64 block)] w R = coadjutorlaw39_name.vc part block w R := by kernel_rfl
theorem coadjutorlaw39_name.calls (part : Int) (block : Int) {w : World} {R : Value → World → Prop} (h : coadjutorlaw39_name.vc part block w R) : Calls Tryz.prog 9 #[(.int .i64 part), (.int .i64 block)] w (Ret R) :=
  calls_V fit Tryz.func9 (.at_ 2 2 (.k .nil) (.at_ 2 6 (.k .nil) (.c .nil (.at_ 5 2 (.k .nil) (.c .nil (.lp [(7, some (.str)), (8, some (.int .i64)), (31, none), (32, none), (33, none), (34, none), (35, none), (36, none), (37, none), (38, none), (39, none), (40, none), (41, none), (42, none), (43, none), (44, none), (45, none), (46, none)] (.at_ 9 2 (.k .nil) (.c .nil .nil)))))))) (by rw [show (#[(.int .i64 part), (.int .i64 block)] : Array Value).toList = [(.int .i64 part), (.int .i64 block)] from rfl, coadjutorlaw39_name.vc_eq]; exact h)
/-- function 3 -/
def coadjutorlaw39_LensAgrees.vc (va : ByteArray) (b : ByteArray) (most : Int) (promptsA : Option Addr) (promptsN : Nat) (promptsC : Nat) (place0 : Int) (place1 : Int) (w : World) (R : Value → World → Prop) : Prop :=
  ∀ w1 : World, w1 = w.alloc (.cells #[(.int .i64 place0), (.int .i64 place1)] 24 (0, 0)) →
  Calls Tryz.prog 5 #[] w1 (Ret fun v w2 => ∃ (x33 : Bool), v = (.bool x33) ∧
  ((!x33) = true →
  R (.bool false) w2) ∧
  ((!x33) = false →
  (decide (((promptsN : Nat) : Int) > (6 : Int)) = true →
  R (.bool true) w2) ∧
  (decide (((promptsN : Nat) : Int) > (6 : Int)) = false →
  (decide (((va.size : Nat) : Int) > (256 : Int)) = true →
  R (.bool true) w2) ∧
  (decide (((va.size : Nat) : Int) > (256 : Int)) = false →
  (decide (((b.size : Nat) : Int) > (256 : Int)) = true →
  R (.bool true) w2) ∧
  (decide (((b.size : Nat) : Int) > (256 : Int)) = false →
  Calls Tryz.prog 7 #[] w2 (Ret fun v_1 w3 => ∃ (x490 : Int), ∃ (x491 : Int), ∃ (x492 : Int), ∃ (x493 : Int), ∃ (x494 : Int), ∃ (x495 : Int), v_1 = (.agg #[(.int .i64 x490), (.int .i64 x491), (.int .i64 x492), (.int .i64 x493), (.int .i64 x494), (.int .i64 x495)]) ∧
  Calls Tryz.prog 6 #[(.agg #[(.int .i64 x490), (.int .i64 x491), (.int .i64 x492), (.int .i64 x493), (.int .i64 x494), (.int .i64 x495)]), (.string va)] w3 (Ret fun v_2 w4 => ∃ (x51_0 : Option Addr), ∃ (x51_1 : Int), v_2 = (.tuple #[(.pointer x51_0), (.int .i64 x51_1)]) ∧
  Calls Tryz.prog 7 #[] w4 (Ret fun v_3 w5 => ∃ (x550 : Int), ∃ (x551 : Int), ∃ (x552 : Int), ∃ (x553 : Int), ∃ (x554 : Int), ∃ (x555 : Int), v_3 = (.agg #[(.int .i64 x550), (.int .i64 x551), (.int .i64 x552), (.int .i64 x553), (.int .i64 x554), (.int .i64 x555)]) ∧
  Calls Tryz.prog 6 #[(.agg #[(.int .i64 x550), (.int .i64 x551), (.int .i64 x552), (.int .i64 x553), (.int .i64 x554), (.int .i64 x555)]), (.string b)] w5 (Ret fun v_4 w6 => ∃ (x57_0 : Option Addr), ∃ (x57_1 : Int), v_4 = (.tuple #[(.pointer x57_0), (.int .i64 x57_1)]) ∧
  ∃ vS : World → Prop, ∀ w7 : World, w7 = w6.drew → vS w7 ∧
  ∃ (x600 : Int), ∃ (x601 : Int), ((∀ w8, vS w8 → w8.cell? (⟨w.heap.size, 0, none⟩ : Addr) = some (.int .i64 x600)) ∧ (∀ w8, vS w8 → w8.cell? (⟨w.heap.size, 1, none⟩ : Addr) = some (.int .i64 x601))) ∧
  ∃ (x63 : Int), (∀ w9, vS w9 → w9.cell? (⟨w.heap.size, 0, none⟩ : Addr) = some (.int .i64 x63)) ∧
  ∃ (x65 : Int), (∀ w10, vS w10 → w10.cell? (⟨w.heap.size, 1, none⟩ : Addr) = some (.int .i64 x65)) ∧
  Calls Tryz.prog 8 #[(.agg #[(.int .i64 x600), (.int .i64 x601)])] w7 (Ret fun v_5 w11 => ∃ (x61 : ByteArray), v_5 = (.string x61) ∧
  vS w11 ∧
  Calls Tryz.prog 9 #[(.int .i64 x63), (.int .i64 x65)] w11 (Ret fun v_6 w12 => ∃ (x66 : ByteArray), v_6 = (.string x66) ∧
  vS w12 ∧
  ((!(x61.toList == x66.toList)) = true →
  R (.bool false) w12) ∧
  ((!(x61.toList == x66.toList)) = false →
  ((x51_1 != (0 : Int)) = true →
  Calls Tryz.prog 10 #[(.pointer none), (.pointer x57_0), (.int .i64 most), (.slice promptsA promptsN promptsC)] w12 (Ret fun v_7 w13 => ∃ (x78_0 : Int), ∃ (x78_1 : Int), v_7 = (.tuple #[(.int .i64 x78_0), (.int .i64 x78_1)]) ∧
  R (.bool (x78_1 == (2 : Int))) w13)) ∧
  ((x51_1 != (0 : Int)) = false →
  ((x57_1 != (0 : Int)) = true →
  Calls Tryz.prog 10 #[(.pointer none), (.pointer x57_0), (.int .i64 most), (.slice promptsA promptsN promptsC)] w12 (Ret fun v_8 w14 => ∃ (x78_0_1 : Int), ∃ (x78_1_1 : Int), v_8 = (.tuple #[(.int .i64 x78_0_1), (.int .i64 x78_1_1)]) ∧
  R (.bool (x78_1_1 == (2 : Int))) w14)) ∧
  ((x57_1 != (0 : Int)) = false →
  Calls Tryz.prog 7 #[] w12 (Ret fun v_9 w15 => ∃ (x830 : Int), ∃ (x831 : Int), ∃ (x832 : Int), ∃ (x833 : Int), ∃ (x834 : Int), ∃ (x835 : Int), v_9 = (.agg #[(.int .i64 x830), (.int .i64 x831), (.int .i64 x832), (.int .i64 x833), (.int .i64 x834), (.int .i64 x835)]) ∧
  ∀ w16 : World, w16 = w15.alloc (.cells #[(.int .i64 0), (.int .i64 0), (.int .i64 0), (.int .i64 0), (.int .i64 0), (.int .i64 0), (.string ByteArray.empty)] 38 (0, 0)) →
  (((∃ u, w16.cell? (⟨w15.heap.size, 0, none⟩ : Addr) = some u) ∧ w16.frozen? (⟨w15.heap.size, 0, none⟩ : Addr) = false) ∧ ((∃ u, w16.cell? (⟨w15.heap.size, 1, none⟩ : Addr) = some u) ∧ w16.frozen? (⟨w15.heap.size, 1, none⟩ : Addr) = false) ∧ ((∃ u, w16.cell? (⟨w15.heap.size, 2, none⟩ : Addr) = some u) ∧ w16.frozen? (⟨w15.heap.size, 2, none⟩ : Addr) = false) ∧ ((∃ u, w16.cell? (⟨w15.heap.size, 3, none⟩ : Addr) = some u) ∧ w16.frozen? (⟨w15.heap.size, 3, none⟩ : Addr) = false) ∧ ((∃ u, w16.cell? (⟨w15.heap.size, 4, none⟩ : Addr) = some u) ∧ w16.frozen? (⟨w15.heap.size, 4, none⟩ : Addr) = false) ∧ ((∃ u, w16.cell? (⟨w15.heap.size, 5, none⟩ : Addr) = some u) ∧ w16.frozen? (⟨w15.heap.size, 5, none⟩ : Addr) = false) ∧ ((∃ u, w16.cell? (⟨w15.heap.size, 6, none⟩ : Addr) = some u) ∧ w16.frozen? (⟨w15.heap.size, 6, none⟩ : Addr) = false)) ∧ ∀ w17 : World, w17 = (((((((w16.setCell (⟨w15.heap.size, 0, none⟩ : Addr) (.int .i64 x830)).setCell (⟨w15.heap.size, 1, none⟩ : Addr) (.int .i64 x831)).setCell (⟨w15.heap.size, 2, none⟩ : Addr) (.int .i64 x832)).setCell (⟨w15.heap.size, 3, none⟩ : Addr) (.int .i64 x833)).setCell (⟨w15.heap.size, 4, none⟩ : Addr) (.int .i64 x834)).setCell (⟨w15.heap.size, 5, none⟩ : Addr) (.int .i64 x835)).setCell (⟨w15.heap.size, 6, none⟩ : Addr) (.string va)) →
  Calls Tryz.prog 7 #[] w17 (Ret fun v_10 w18 => ∃ (x860 : Int), ∃ (x861 : Int), ∃ (x862 : Int), ∃ (x863 : Int), ∃ (x864 : Int), ∃ (x865 : Int), v_10 = (.agg #[(.int .i64 x860), (.int .i64 x861), (.int .i64 x862), (.int .i64 x863), (.int .i64 x864), (.int .i64 x865)]) ∧
  ∀ w19 : World, w19 = w18.alloc (.cells #[(.int .i64 0), (.int .i64 0), (.int .i64 0), (.int .i64 0), (.int .i64 0), (.int .i64 0), (.string ByteArray.empty)] 38 (0, 0)) →
  (((∃ u, w19.cell? (⟨w18.heap.size, 0, none⟩ : Addr) = some u) ∧ w19.frozen? (⟨w18.heap.size, 0, none⟩ : Addr) = false) ∧ ((∃ u, w19.cell? (⟨w18.heap.size, 1, none⟩ : Addr) = some u) ∧ w19.frozen? (⟨w18.heap.size, 1, none⟩ : Addr) = false) ∧ ((∃ u, w19.cell? (⟨w18.heap.size, 2, none⟩ : Addr) = some u) ∧ w19.frozen? (⟨w18.heap.size, 2, none⟩ : Addr) = false) ∧ ((∃ u, w19.cell? (⟨w18.heap.size, 3, none⟩ : Addr) = some u) ∧ w19.frozen? (⟨w18.heap.size, 3, none⟩ : Addr) = false) ∧ ((∃ u, w19.cell? (⟨w18.heap.size, 4, none⟩ : Addr) = some u) ∧ w19.frozen? (⟨w18.heap.size, 4, none⟩ : Addr) = false) ∧ ((∃ u, w19.cell? (⟨w18.heap.size, 5, none⟩ : Addr) = some u) ∧ w19.frozen? (⟨w18.heap.size, 5, none⟩ : Addr) = false) ∧ ((∃ u, w19.cell? (⟨w18.heap.size, 6, none⟩ : Addr) = some u) ∧ w19.frozen? (⟨w18.heap.size, 6, none⟩ : Addr) = false)) ∧ ∀ w20 : World, w20 = (((((((w19.setCell (⟨w18.heap.size, 0, none⟩ : Addr) (.int .i64 x860)).setCell (⟨w18.heap.size, 1, none⟩ : Addr) (.int .i64 x861)).setCell (⟨w18.heap.size, 2, none⟩ : Addr) (.int .i64 x862)).setCell (⟨w18.heap.size, 3, none⟩ : Addr) (.int .i64 x863)).setCell (⟨w18.heap.size, 4, none⟩ : Addr) (.int .i64 x864)).setCell (⟨w18.heap.size, 5, none⟩ : Addr) (.int .i64 x865)).setCell (⟨w18.heap.size, 6, none⟩ : Addr) (.string b)) →
  ∃ vI : Int → Int → Nat → World → Prop, (∃ vk_2 : Nat, vI 0 0 vk_2 w20) ∧
  ∀ (jk : Nat → Value) (want : Int) (i : Int), ∀ (vk : Nat) (w21 : World), vI want i vk w21 →
  (decide (i < ((promptsN : Nat) : Int)) = true →
  (0 ≤ i ∧ i < ((promptsN : Nat) : Int)) ∧ someV promptsA fun p =>
  ∃ (x98A : Option Addr), ∃ (x98N : Nat), ∃ (x98C : Nat), w21.cell? (p.add (i.toNat * 1)) = some (.slice x98A x98N x98C) ∧
  (decide (((x98N : Nat) : Int) > (6 : Int)) = true →
  R (.bool true) w21) ∧
  (decide (((x98N : Nat) : Int) > (6 : Int)) = false →
  ∃ vS_1 : World → Prop, ∀ w22 : World, w22 = w21.drew → vS_1 w22 ∧
  ∃ (x1020 : Int), ∃ (x1021 : Int), ∃ (x1022 : Int), ∃ (x1023 : Int), ∃ (x1024 : Int), ∃ (x1025 : Int), ∃ (x1026 : ByteArray), ((∀ w23, vS_1 w23 → w23.cell? (⟨w15.heap.size, 0, none⟩ : Addr) = some (.int .i64 x1020)) ∧ (∀ w23, vS_1 w23 → w23.cell? (⟨w15.heap.size, 1, none⟩ : Addr) = some (.int .i64 x1021)) ∧ (∀ w23, vS_1 w23 → w23.cell? (⟨w15.heap.size, 2, none⟩ : Addr) = some (.int .i64 x1022)) ∧ (∀ w23, vS_1 w23 → w23.cell? (⟨w15.heap.size, 3, none⟩ : Addr) = some (.int .i64 x1023)) ∧ (∀ w23, vS_1 w23 → w23.cell? (⟨w15.heap.size, 4, none⟩ : Addr) = some (.int .i64 x1024)) ∧ (∀ w23, vS_1 w23 → w23.cell? (⟨w15.heap.size, 5, none⟩ : Addr) = some (.int .i64 x1025)) ∧ (∀ w23, vS_1 w23 → w23.cell? (⟨w15.heap.size, 6, none⟩ : Addr) = some (.string x1026))) ∧
  (0 ≤ i ∧ i < ((promptsN : Nat) : Int)) ∧ someV promptsA fun p_1 =>
  ∃ (x106A : Option Addr), ∃ (x106N : Nat), ∃ (x106C : Nat), (∀ w24, vS_1 w24 → w24.cell? (p_1.add (i.toNat * 1)) = some (.slice x106A x106N x106C)) ∧
  Calls Tryz.prog 11 #[(.agg #[(.int .i64 x1020), (.int .i64 x1021), (.int .i64 x1022), (.int .i64 x1023), (.int .i64 x1024), (.int .i64 x1025), (.string x1026)]), (.slice x106A x106N x106C), (.int .i64 most), (.slice none 0 0), (.bool true)] w22 (Ret fun v_11 w25 => ∃ (x108_0A : Option Addr), ∃ (x108_0N : Nat), ∃ (x108_0C : Nat), ∃ (x108_1 : Int), v_11 = (.tuple #[(.slice x108_0A x108_0N x108_0C), (.int .i64 x108_1)]) ∧
  vS_1 w25 ∧
  ∃ vS_2 : World → Prop, ∀ w26 : World, w26 = w25.drew → vS_2 w26 ∧
  ∃ (x1120 : Int), ∃ (x1121 : Int), ∃ (x1122 : Int), ∃ (x1123 : Int), ∃ (x1124 : Int), ∃ (x1125 : Int), ∃ (x1126 : ByteArray), ((∀ w27, vS_2 w27 → w27.cell? (⟨w18.heap.size, 0, none⟩ : Addr) = some (.int .i64 x1120)) ∧ (∀ w27, vS_2 w27 → w27.cell? (⟨w18.heap.size, 1, none⟩ : Addr) = some (.int .i64 x1121)) ∧ (∀ w27, vS_2 w27 → w27.cell? (⟨w18.heap.size, 2, none⟩ : Addr) = some (.int .i64 x1122)) ∧ (∀ w27, vS_2 w27 → w27.cell? (⟨w18.heap.size, 3, none⟩ : Addr) = some (.int .i64 x1123)) ∧ (∀ w27, vS_2 w27 → w27.cell? (⟨w18.heap.size, 4, none⟩ : Addr) = some (.int .i64 x1124)) ∧ (∀ w27, vS_2 w27 → w27.cell? (⟨w18.heap.size, 5, none⟩ : Addr) = some (.int .i64 x1125)) ∧ (∀ w27, vS_2 w27 → w27.cell? (⟨w18.heap.size, 6, none⟩ : Addr) = some (.string x1126))) ∧
  (0 ≤ i ∧ i < ((promptsN : Nat) : Int)) ∧ someV promptsA fun p_2 =>
  ∃ (x116A : Option Addr), ∃ (x116N : Nat), ∃ (x116C : Nat), (∀ w28, vS_2 w28 → w28.cell? (p_2.add (i.toNat * 1)) = some (.slice x116A x116N x116C)) ∧
  Calls Tryz.prog 11 #[(.agg #[(.int .i64 x1120), (.int .i64 x1121), (.int .i64 x1122), (.int .i64 x1123), (.int .i64 x1124), (.int .i64 x1125), (.string x1126)]), (.slice x116A x116N x116C), (.int .i64 most), (.slice none 0 0), (.bool true)] w26 (Ret fun v_12 w29 => ∃ (x118_0A : Option Addr), ∃ (x118_0N : Nat), ∃ (x118_0C : Nat), ∃ (x118_1 : Int), v_12 = (.tuple #[(.slice x118_0A x118_0N x118_0C), (.int .i64 x118_1)]) ∧
  vS_2 w29 ∧
  ((x108_1 == (0 : Int)) = true →
  ((x118_1 == (0 : Int)) = true →
  Calls Tryz.prog 12 #[(.slice x108_0A x108_0N x108_0C), (.slice x118_0A x118_0N x118_0C)] w29 (Ret fun v_13 w30 => ∃ (x130 : Bool), v_13 = (.bool x130) ∧
  (x130 = true →
  ∃ vk_1 : Nat, vk_1 < vk ∧ vI (IntKind.i64.wrap (want + 1)) (IntKind.i64.wrap (i + 1)) vk_1 w30) ∧
  (x130 = false →
  ∃ vk_1 : Nat, vk_1 < vk ∧ vI want (IntKind.i64.wrap (i + 1)) vk_1 w30))) ∧
  ((x118_1 == (0 : Int)) = false →
  ∃ vk_1 : Nat, vk_1 < vk ∧ vI want (IntKind.i64.wrap (i + 1)) vk_1 w29)) ∧
  ((x108_1 == (0 : Int)) = false →
  ∃ vk_1 : Nat, vk_1 < vk ∧ vI want (IntKind.i64.wrap (i + 1)) vk_1 w29))))) ∧
  (decide (i < ((promptsN : Nat) : Int)) = false →
  Calls Tryz.prog 10 #[(.pointer x51_0), (.pointer x57_0), (.int .i64 most), (.slice promptsA promptsN promptsC)] w21 (Ret fun v_14 w31 => ∃ (x139_0 : Int), ∃ (x139_1 : Int), v_14 = (.tuple #[(.int .i64 x139_0), (.int .i64 x139_1)]) ∧
  Calls Tryz.prog 13 #[(.pointer none), (.pointer x51_0)] w31 (Ret fun v_15 w32 => ∃ (x144_0A : Option Addr), ∃ (x144_0N : Nat), ∃ (x144_0C : Nat), ∃ (x144_1 : Int), v_15 = (.tuple #[(.slice x144_0A x144_0N x144_0C), (.int .i64 x144_1)]) ∧
  Calls Tryz.prog 14 #[(.pointer x51_0), (.pointer none)] w32 (Ret fun v_16 w33 => ∃ (x149_0 : Int), ∃ (x149_1 : Int), v_16 = (.tuple #[(.int .i64 x149_0), (.int .i64 x149_1)]) ∧
  Calls Tryz.prog 15 #[(.pointer none), (.pointer none), (.int .i64 0), (.int .i64 1)] w33 (Ret fun v_17 w34 => ∃ (x153_0 : Option Addr), ∃ (x153_1 : Int), v_17 = (.tuple #[(.pointer x153_0), (.int .i64 x153_1)]) ∧
  ((x139_0 == want) = true →
  ((x139_1 == (0 : Int)) = true →
  ((x144_1 == (2 : Int)) = true →
  ((x149_1 == (2 : Int)) = true →
  R (.bool (x153_1 == (2 : Int))) w34) ∧
  ((x149_1 == (2 : Int)) = false →
  R (.bool false) w34)) ∧
  ((x144_1 == (2 : Int)) = false →
  R (.bool false) w34)) ∧
  ((x139_1 == (0 : Int)) = false →
  R (.bool false) w34)) ∧
  ((x139_0 == want) = false →
  R (.bool false) w34))))))))))))))))))))))
theorem coadjutorlaw39_LensAgrees.vc_eq (va : ByteArray) (b : ByteArray) (most : Int) (promptsA : Option Addr) (promptsN : Nat) (promptsC : Nat) (place0 : Int) (place1 : Int) (w : World) (R : Value → World → Prop) : fnV Tryz.prog Tryz.f3 (.c .nil (.at_ 3 3 (.k .nil) (.at_ 3 8 (.k .nil) (.c .nil (.tk 0 (.tk 2 (.tk 3 (.tk 4 (.tk 5 (.alt 1 (.alt 6 (.tk 7 (.fin (.c .nil (.at_ 9 2 (.k .nil) (.c .nil (.lp [(10, none), (19, some (.int .i64)), (20, some (.int .i64)), (21, none), (22, none), (23, none), (24, none), (89, none), (90, none), (91, none), (92, none), (93, none), (94, none), (95, none), (96, none), (97, none), (98, none), (99, none), (100, none), (101, none), (102, none), (103, none), (104, none), (105, none), (106, none), (107, none), (108, none), (109, none), (110, none), (111, none), (112, none), (113, none), (114, none), (115, none), (116, none), (117, none), (118, none), (119, none), (120, none), (121, none), (122, none), (123, none), (124, none), (125, none), (126, none), (127, none), (128, none), (129, none), (130, none), (131, none), (132, none), (133, none)] (.c (.c .nil (.tk 0 (.tk 1 (.tk 2 (.tk 3 (.tk 4 (.tk 5 (.alt 6 (.tk 7 (.tk 8 (.tk 9 (.tk 10 (.tk 11 (.fin (.tk 0 (.tk 1 (.tk 2 (.tk 3 (.tk 4 (.tk 5 (.alt 6 (.tk 7 (.tk 8 (.tk 9 (.tk 10 (.tk 11 (.fin (.at_ 22 2 (.at_ 22 6 (.c .nil .nil) (.k .nil)) (.k .nil)))))))) .nil))))))))))))) .nil)))))))) (.at_ 28 3 (.at_ 28 7 (.at_ 28 11 (.at_ 28 15 .nil .nil) .nil) .nil) .nil)))))))) .nil) .nil)))))))))) [(.string va), (.string b), (.int .i64 most), (.slice promptsA promptsN promptsC), (.agg #[(.int .i64 place0), (.int .i64 place1)])] w R = coadjutorlaw39_LensAgrees.vc va b most promptsA promptsN promptsC place0 place1 w R := by kernel_rfl
theorem coadjutorlaw39_LensAgrees.calls (va : ByteArray) (b : ByteArray) (most : Int) (promptsA : Option Addr) (promptsN : Nat) (promptsC : Nat) (place0 : Int) (place1 : Int) {w : World} {R : Value → World → Prop} (h : coadjutorlaw39_LensAgrees.vc va b most promptsA promptsN promptsC place0 place1 w R) : Calls Tryz.prog 3 #[(.string va), (.string b), (.int .i64 most), (.slice promptsA promptsN promptsC), (.agg #[(.int .i64 place0), (.int .i64 place1)])] w (Ret R) :=
  calls_V fit Tryz.func3 (.c .nil (.at_ 3 3 (.k .nil) (.at_ 3 8 (.k .nil) (.c .nil (.tk 0 (.tk 2 (.tk 3 (.tk 4 (.tk 5 (.alt 1 (.alt 6 (.tk 7 (.fin (.c .nil (.at_ 9 2 (.k .nil) (.c .nil (.lp [(10, none), (19, some (.int .i64)), (20, some (.int .i64)), (21, none), (22, none), (23, none), (24, none), (89, none), (90, none), (91, none), (92, none), (93, none), (94, none), (95, none), (96, none), (97, none), (98, none), (99, none), (100, none), (101, none), (102, none), (103, none), (104, none), (105, none), (106, none), (107, none), (108, none), (109, none), (110, none), (111, none), (112, none), (113, none), (114, none), (115, none), (116, none), (117, none), (118, none), (119, none), (120, none), (121, none), (122, none), (123, none), (124, none), (125, none), (126, none), (127, none), (128, none), (129, none), (130, none), (131, none), (132, none), (133, none)] (.c (.c .nil (.tk 0 (.tk 1 (.tk 2 (.tk 3 (.tk 4 (.tk 5 (.alt 6 (.tk 7 (.tk 8 (.tk 9 (.tk 10 (.tk 11 (.fin (.tk 0 (.tk 1 (.tk 2 (.tk 3 (.tk 4 (.tk 5 (.alt 6 (.tk 7 (.tk 8 (.tk 9 (.tk 10 (.tk 11 (.fin (.at_ 22 2 (.at_ 22 6 (.c .nil .nil) (.k .nil)) (.k .nil)))))))) .nil))))))))))))) .nil)))))))) (.at_ 28 3 (.at_ 28 7 (.at_ 28 11 (.at_ 28 15 .nil .nil) .nil) .nil) .nil)))))))) .nil) .nil)))))))))) (by rw [show (#[(.string va), (.string b), (.int .i64 most), (.slice promptsA promptsN promptsC), (.agg #[(.int .i64 place0), (.int .i64 place1)])] : Array Value).toList = [(.string va), (.string b), (.int .i64 most), (.slice promptsA promptsN promptsC), (.agg #[(.int .i64 place0), (.int .i64 place1)])] from rfl, coadjutorlaw39_LensAgrees.vc_eq]; exact h)
end Go.Proofs.YtbadkcnemcnhfaaGreatDoor.Vc
