import Derived.Test.YtpefegcdcojokaaVc
import Derived.Test.YtpefegcdcojokaaH
import Derived.Test.YtpefegcdcojokaaProg
import Derived.KernelRfl
set_option linter.unusedVariables false
set_option maxRecDepth 100000
namespace Go.Proofs.Ytpefegcdcojokaa.Vc
open Go Go.Proofs Go.Proofs.Ytpefegcdcojokaa.V
/-- function 36 -/
def slices_Clone.vc (sA : Option Addr) (sN : Nat) (sC : Nat) (w : World) (R : Value → World → Prop) : Prop :=
  (sA.isNone = true →
  R (.slice none 0 0) w) ∧
  (sA.isNone = false →
  ∀ w1 : World, w1 = w.alloc (.cells #[] 4 (0, 0)) →
  ∃ (x7A : Option Addr), ∃ (x7N : Nat), ∃ (x7C : Nat), ∃ w2 : World, (Builtin.append_ #[23, 23] 23 #[(.slice (some (⟨w.heap.size, 0, none⟩ : Addr)) 0 0), (.slice sA sN sC)]).run Try.prog w1 = .ok (.slice x7A x7N x7C) w2 ∧
  R (.slice x7A x7N x7C) w2)
theorem slices_Clone.vc_eq (sA : Option Addr) (sN : Nat) (sC : Nat) (w : World) (R : Value → World → Prop) : fnV Try.prog Try.f36 (.c .nil .nil) [(.slice sA sN sC)] w R = slices_Clone.vc sA sN sC w R := by kernel_rfl
theorem slices_Clone.calls (sA : Option Addr) (sN : Nat) (sC : Nat) {w : World} {R : Value → World → Prop} (h : slices_Clone.vc sA sN sC w R) : Calls Try.prog 36 #[(.slice sA sN sC)] w (Ret R) :=
  calls_V fit Try.func36 (.c .nil .nil) (by rw [show (#[(.slice sA sN sC)] : Array Value).toList = [(.slice sA sN sC)] from rfl, slices_Clone.vc_eq]; exact h)
/-- function 9 -/
def disk_New.vc (n : Int) (w : World) (R : Value → World → Prop) : Prop :=
  Calls Try.prog 31 #[(.string (ByteArray.mk #[0])), (.int .i64 (IntKind.i64.wrap ((if (4096 : Int) < (if (0 : Int) > n then (0 : Int) else n) then (4096 : Int) else (if (0 : Int) > n then (0 : Int) else n)) * 32)))] w (Ret fun v w1 => ∃ (x7 : ByteArray), v = (.string x7) ∧
  Calls Try.prog 17 #[(.string x7)] w1 (Ret fun v_1 w2 => ∃ (x8 : Option Addr), v_1 = (.pointer x8) ∧
  R (.pointer x8) w2))
theorem disk_New.vc_eq (n : Int) (w : World) (R : Value → World → Prop) : fnV Try.prog Try.f9 .nil [(.int .i64 n)] w R = disk_New.vc n w R := by kernel_rfl
theorem disk_New.calls (n : Int) {w : World} {R : Value → World → Prop} (h : disk_New.vc n w R) : Calls Try.prog 9 #[(.int .i64 n)] w (Ret R) :=
  calls_V fit Try.func9 .nil (by rw [show (#[(.int .i64 n)] : Array Value).toList = [(.int .i64 n)] from rfl, disk_New.vc_eq]; exact h)
/-- function 17 -/
def disk_Of.vc (image : ByteArray) (w : World) (R : Value → World → Prop) : Prop :=
  ∀ w1 : World, w1 = w.alloc (.cells #[(.bool false), (.int .i64 (-1)), (.slice none 0 0), (.slice none 0 0), (.slice none 0 0), (.int .i64 0)] 58 (0, 0)) →
  ∃ vI : ByteArray → Nat → World → Prop, (∃ vk_2 : Nat, vI image vk_2 w1) ∧
  ∀ (jk : Nat → Value) (image_1 : ByteArray), ∀ (vk : Nat) (w2 : World), vI image_1 vk w2 →
  (decide (((image_1.size : Nat) : Int) ≥ (32 : Int)) = true →
  ∃ (x14A : Option Addr), ∃ (x14N : Nat), ∃ (x14C : Nat), w2.cell? (⟨w.heap.size, 3, none⟩ : Addr) = some (.slice x14A x14N x14C) ∧
  (decide (((x14N : Nat) : Int) < (4096 : Int)) = true →
  ∃ vS : World → Prop, ∀ w3 : World, w3 = w2.drew → vS w3 ∧
  ∃ (x22A : Option Addr), ∃ (x22N : Nat), ∃ (x22C : Nat), (∀ w4, vS w4 → w4.cell? (⟨w.heap.size, 3, none⟩ : Addr) = some (.slice x22A x22N x22C)) ∧
  (0 ≤ (32 : Int) ∧ (32 : Int) ≤ ((image_1.size : Nat) : Int)) ∧
  ∀ w5 : World, w5 = w3.alloc (.cells #[(.string (image_1.extract 0 (32 : Int).toNat))] 9 (0, 0)) →
  vS w5 ∧
  ∃ (x26A : Option Addr), ∃ (x26N : Nat), ∃ (x26C : Nat), ∃ w6 : World, (Builtin.append_ #[55, 55] 55 #[(.slice x22A x22N x22C), (.slice (some (⟨w3.heap.size, 0, none⟩ : Addr)) 1 1)]).run Try.prog w5 = .ok (.slice x26A x26N x26C) w6 ∧
  vS w6 ∧
  (((∃ u, w6.cell? (⟨w.heap.size, 3, none⟩ : Addr) = some u) ∧ w6.frozen? (⟨w.heap.size, 3, none⟩ : Addr) = false)) ∧ ∀ w7 : World, w7 = (w6.setCell (⟨w.heap.size, 3, none⟩ : Addr) (.slice x26A x26N x26C)) →
  (0 ≤ (32 : Int) ∧ (32 : Int) ≤ ((image_1.size : Nat) : Int)) ∧
  ∃ vk_1 : Nat, vk_1 < vk ∧ vI (image_1.extract (32 : Int).toNat image_1.size) vk_1 w7) ∧
  (decide (((x14N : Nat) : Int) < (4096 : Int)) = false →
  R (.pointer (some (⟨w.heap.size, 0, none⟩ : Addr))) w2)) ∧
  (decide (((image_1.size : Nat) : Int) ≥ (32 : Int)) = false →
  R (.pointer (some (⟨w.heap.size, 0, none⟩ : Addr))) w2)
theorem disk_Of.vc_eq (image : ByteArray) (w : World) (R : Value → World → Prop) : fnV Try.prog Try.f17 (.lp [(0, some (.str)), (7, none), (8, none), (9, none), (10, none), (11, none), (12, none), (13, none), (14, none), (15, none), (16, none), (17, none), (18, none), (19, none), (20, none), (21, none), (22, none), (23, none), (24, none), (25, none), (26, none), (27, none), (28, none), (29, none), (30, none)] (.at_ 2 3 (.c (.tk 0 (.tk 1 (.tk 2 (.tk 3 (.tk 4 (.tk 5 (.tk 6 (.alt 7 (.alt 8 (.tk 9 (.tk 10 (.last 11 (.fin .nil)))) .nil) .nil)))))))) .nil) (.k .nil))) [(.string image)] w R = disk_Of.vc image w R := by kernel_rfl
theorem disk_Of.calls (image : ByteArray) {w : World} {R : Value → World → Prop} (h : disk_Of.vc image w R) : Calls Try.prog 17 #[(.string image)] w (Ret R) :=
  calls_V fit Try.func17 (.lp [(0, some (.str)), (7, none), (8, none), (9, none), (10, none), (11, none), (12, none), (13, none), (14, none), (15, none), (16, none), (17, none), (18, none), (19, none), (20, none), (21, none), (22, none), (23, none), (24, none), (25, none), (26, none), (27, none), (28, none), (29, none), (30, none)] (.at_ 2 3 (.c (.tk 0 (.tk 1 (.tk 2 (.tk 3 (.tk 4 (.tk 5 (.tk 6 (.alt 7 (.alt 8 (.tk 9 (.tk 10 (.last 11 (.fin .nil)))) .nil) .nil)))))))) .nil) (.k .nil))) (by rw [show (#[(.string image)] : Array Value).toList = [(.string image)] from rfl, disk_Of.vc_eq]; exact h)
/-- function 37 -/
def disk_power_IsOn.vc (pB : Nat) (w : World) (R : Value → World → Prop) : Prop :=
  ∃ (x9 : Bool), w.cell? (⟨pB, 0, none⟩ : Addr) = some (.bool x9) ∧
  R (.bool (!x9)) w
theorem disk_power_IsOn.vc_eq (pB : Nat) (w : World) (R : Value → World → Prop) : fnV Try.prog Try.f37 .nil [(.pointer (some (⟨pB, 0, none⟩ : Addr)))] w R = disk_power_IsOn.vc pB w R := by kernel_rfl
theorem disk_power_IsOn.calls (pB : Nat) {w : World} {R : Value → World → Prop} (h : disk_power_IsOn.vc pB w R) : Calls Try.prog 37 #[(.pointer (some (⟨pB, 0, none⟩ : Addr)))] w (Ret R) :=
  calls_V fit Try.func37 .nil (by rw [show (#[(.pointer (some (⟨pB, 0, none⟩ : Addr)))] : Array Value).toList = [(.pointer (some (⟨pB, 0, none⟩ : Addr)))] from rfl, disk_power_IsOn.vc_eq]; exact h)
/-- function 21 -/
def disk_Disk_IsOn.vc (dB : Nat) (w : World) (R : Value → World → Prop) : Prop :=
  Calls Try.prog 37 #[(.pointer (some (⟨dB, 0, none⟩ : Addr)))] w (Ret fun v w1 => ∃ (x9 : Bool), v = (.bool x9) ∧
  R (.bool x9) w1)
theorem disk_Disk_IsOn.vc_eq (dB : Nat) (w : World) (R : Value → World → Prop) : fnV Try.prog Try.f21 .nil [(.pointer (some (⟨dB, 0, none⟩ : Addr)))] w R = disk_Disk_IsOn.vc dB w R := by kernel_rfl
theorem disk_Disk_IsOn.calls (dB : Nat) {w : World} {R : Value → World → Prop} (h : disk_Disk_IsOn.vc dB w R) : Calls Try.prog 21 #[(.pointer (some (⟨dB, 0, none⟩ : Addr)))] w (Ret R) :=
  calls_V fit Try.func21 .nil (by rw [show (#[(.pointer (some (⟨dB, 0, none⟩ : Addr)))] : Array Value).toList = [(.pointer (some (⟨dB, 0, none⟩ : Addr)))] from rfl, disk_Disk_IsOn.vc_eq]; exact h)
/-- function 19 -/
def disk_Disk_Len.vc (dB : Nat) (w : World) (R : Value → World → Prop) : Prop :=
  ∃ (x8A : Option Addr), ∃ (x8N : Nat), ∃ (x8C : Nat), w.cell? (⟨dB, 3, none⟩ : Addr) = some (.slice x8A x8N x8C) ∧
  R (.int .i64 ((x8N : Nat) : Int)) w
theorem disk_Disk_Len.vc_eq (dB : Nat) (w : World) (R : Value → World → Prop) : fnV Try.prog Try.f19 (.k .nil) [(.pointer (some (⟨dB, 0, none⟩ : Addr)))] w R = disk_Disk_Len.vc dB w R := by kernel_rfl
theorem disk_Disk_Len.calls (dB : Nat) {w : World} {R : Value → World → Prop} (h : disk_Disk_Len.vc dB w R) : Calls Try.prog 19 #[(.pointer (some (⟨dB, 0, none⟩ : Addr)))] w (Ret R) :=
  calls_V fit Try.func19 (.k .nil) (by rw [show (#[(.pointer (some (⟨dB, 0, none⟩ : Addr)))] : Array Value).toList = [(.pointer (some (⟨dB, 0, none⟩ : Addr)))] from rfl, disk_Disk_Len.vc_eq]; exact h)
/-- function 33 -/
def disk_Disk_check.vc (dB : Nat) (vat : Int) (w : World) (R : Value → World → Prop) : Prop :=
  (decide (vat < (0 : Int)) = true →
  R (.int .i64 3) w) ∧
  (decide (vat < (0 : Int)) = false →
  ∃ (x16A : Option Addr), ∃ (x16N : Nat), ∃ (x16C : Nat), w.cell? (⟨dB, 3, none⟩ : Addr) = some (.slice x16A x16N x16C) ∧
  (decide (vat ≥ ((x16N : Nat) : Int)) = true →
  R (.int .i64 3) w) ∧
  (decide (vat ≥ ((x16N : Nat) : Int)) = false →
  ∃ (x25 : Bool), w.cell? (⟨dB, 0, none⟩ : Addr) = some (.bool x25) ∧
  (x25 = true →
  R (.int .i64 4) w) ∧
  (x25 = false →
  R (.int .i64 0) w)))
theorem disk_Disk_check.vc_eq (dB : Nat) (vat : Int) (w : World) (R : Value → World → Prop) : fnV Try.prog Try.f33 (.k (.at_ 3 2 (.k .nil) (.c .nil (.c .nil .nil)))) [(.pointer (some (⟨dB, 0, none⟩ : Addr))), (.int .i64 vat)] w R = disk_Disk_check.vc dB vat w R := by kernel_rfl
theorem disk_Disk_check.calls (dB : Nat) (vat : Int) {w : World} {R : Value → World → Prop} (h : disk_Disk_check.vc dB vat w R) : Calls Try.prog 33 #[(.pointer (some (⟨dB, 0, none⟩ : Addr))), (.int .i64 vat)] w (Ret R) :=
  calls_V fit Try.func33 (.k (.at_ 3 2 (.k .nil) (.c .nil (.c .nil .nil)))) (by rw [show (#[(.pointer (some (⟨dB, 0, none⟩ : Addr))), (.int .i64 vat)] : Array Value).toList = [(.pointer (some (⟨dB, 0, none⟩ : Addr))), (.int .i64 vat)] from rfl, disk_Disk_check.vc_eq]; exact h)
/-- function 32 -/
def disk_Disk_use.vc (dB : Nat) (w : World) (R : Value → World → Prop) : Prop :=
  ∃ (x7 : Int), w.cell? (⟨dB, 1, none⟩ : Addr) = some (.int .i64 x7) ∧
  ((x7 == (0 : Int)) = true →
  ∃ (x14A : Option Addr), ∃ (x14N : Nat), ∃ (x14C : Nat), w.cell? (⟨dB, 2, none⟩ : Addr) = some (.slice x14A x14N x14C) ∧
  Calls Try.prog 13 #[(.pointer (some (⟨dB, 0, none⟩ : Addr))), (.slice x14A x14N x14C)] w (Ret fun v w1 => v = .tuple #[] ∧
  R (.int .i64 4) w1)) ∧
  ((x7 == (0 : Int)) = false →
  ∃ (x21 : Int), w.cell? (⟨dB, 1, none⟩ : Addr) = some (.int .i64 x21) ∧
  (((∃ u, w.cell? (⟨dB, 1, none⟩ : Addr) = some u) ∧ w.frozen? (⟨dB, 1, none⟩ : Addr) = false)) ∧ ∀ w2 : World, w2 = (w.setCell (⟨dB, 1, none⟩ : Addr) (.int .i64 (if (-1 : Int) > (IntKind.i64.wrap (x21 - 1)) then (-1 : Int) else (IntKind.i64.wrap (x21 - 1))))) →
  ∃ (x30 : Int), w2.cell? (⟨dB, 5, none⟩ : Addr) = some (.int .i64 x30) ∧
  (((∃ u, w2.cell? (⟨dB, 5, none⟩ : Addr) = some u) ∧ w2.frozen? (⟨dB, 5, none⟩ : Addr) = false)) ∧ ∀ w3 : World, w3 = (w2.setCell (⟨dB, 5, none⟩ : Addr) (.int .i64 (IntKind.i64.wrap (x30 + 1)))) →
  R (.int .i64 0) w3)
theorem disk_Disk_use.vc_eq (dB : Nat) (w : World) (R : Value → World → Prop) : fnV Try.prog Try.f32 (.c .nil .nil) [(.pointer (some (⟨dB, 0, none⟩ : Addr)))] w R = disk_Disk_use.vc dB w R := by kernel_rfl
theorem disk_Disk_use.calls (dB : Nat) {w : World} {R : Value → World → Prop} (h : disk_Disk_use.vc dB w R) : Calls Try.prog 32 #[(.pointer (some (⟨dB, 0, none⟩ : Addr)))] w (Ret R) :=
  calls_V fit Try.func32 (.c .nil .nil) (by rw [show (#[(.pointer (some (⟨dB, 0, none⟩ : Addr)))] : Array Value).toList = [(.pointer (some (⟨dB, 0, none⟩ : Addr)))] from rfl, disk_Disk_use.vc_eq]; exact h)
/-- function 11 -/
def disk_Disk_Write.vc (dB : Nat) (vat : Int) (s : ByteArray) (w : World) (R : Value → World → Prop) : Prop :=
  ((((s.size : Nat) : Int) != (32 : Int)) = true →
  R (.int .i64 1) w) ∧
  ((((s.size : Nat) : Int) != (32 : Int)) = false →
  Calls Try.prog 33 #[(.pointer (some (⟨dB, 0, none⟩ : Addr))), (.int .i64 vat)] w (Ret fun v w1 => ∃ (x18 : Int), v = (.int .i64 x18) ∧
  ((x18 != (0 : Int)) = true →
  R (.int .i64 x18) w1) ∧
  ((x18 != (0 : Int)) = false →
  Calls Try.prog 32 #[(.pointer (some (⟨dB, 0, none⟩ : Addr)))] w1 (Ret fun v_1 w2 => ∃ (x23 : Int), v_1 = (.int .i64 x23) ∧
  ((x23 != (0 : Int)) = true →
  R (.int .i64 x23) w2) ∧
  ((x23 != (0 : Int)) = false →
  ∃ (x31A : Option Addr), ∃ (x31N : Nat), ∃ (x31C : Nat), w2.cell? (⟨dB, 4, none⟩ : Addr) = some (.slice x31A x31N x31C) ∧
  ∀ w3 : World, w3 = w2.alloc (.cells #[(.int .i64 vat), (.string s)] 60 (0, 0)) →
  ∃ (x36A : Option Addr), ∃ (x36N : Nat), ∃ (x36C : Nat), ∃ w4 : World, (Builtin.append_ #[56, 56] 56 #[(.slice x31A x31N x31C), (.slice (some (⟨w2.heap.size, 0, none⟩ : Addr)) 1 1)]).run Try.prog w3 = .ok (.slice x36A x36N x36C) w4 ∧
  (((∃ u, w4.cell? (⟨dB, 4, none⟩ : Addr) = some u) ∧ w4.frozen? (⟨dB, 4, none⟩ : Addr) = false)) ∧ ∀ w5 : World, w5 = (w4.setCell (⟨dB, 4, none⟩ : Addr) (.slice x36A x36N x36C)) →
  R (.int .i64 0) w5)))))
theorem disk_Disk_Write.vc_eq (dB : Nat) (vat : Int) (s : ByteArray) (w : World) (R : Value → World → Prop) : fnV Try.prog Try.f11 (.c .nil (.c .nil (.c .nil .nil))) [(.pointer (some (⟨dB, 0, none⟩ : Addr))), (.int .i64 vat), (.string s)] w R = disk_Disk_Write.vc dB vat s w R := by kernel_rfl
theorem disk_Disk_Write.calls (dB : Nat) (vat : Int) (s : ByteArray) {w : World} {R : Value → World → Prop} (h : disk_Disk_Write.vc dB vat s w R) : Calls Try.prog 11 #[(.pointer (some (⟨dB, 0, none⟩ : Addr))), (.int .i64 vat), (.string s)] w (Ret R) :=
  calls_V fit Try.func11 (.c .nil (.c .nil (.c .nil .nil))) (by rw [show (#[(.pointer (some (⟨dB, 0, none⟩ : Addr))), (.int .i64 vat), (.string s)] : Array Value).toList = [(.pointer (some (⟨dB, 0, none⟩ : Addr))), (.int .i64 vat), (.string s)] from rfl, disk_Disk_Write.vc_eq]; exact h)
/-- function 10 -/
def disk_Disk_Sync.vc (dB : Nat) (w : World) (R : Value → World → Prop) : Prop :=
  ∃ (x14 : Bool), w.cell? (⟨dB, 0, none⟩ : Addr) = some (.bool x14) ∧
  (x14 = true →
  R (.int .i64 4) w) ∧
  (x14 = false →
  Calls Try.prog 32 #[(.pointer (some (⟨dB, 0, none⟩ : Addr)))] w (Ret fun v w1 => ∃ (x16 : Int), v = (.int .i64 x16) ∧
  ((x16 != (0 : Int)) = true →
  R (.int .i64 x16) w1) ∧
  ((x16 != (0 : Int)) = false →
  ∃ (x23A : Option Addr), ∃ (x23N : Nat), ∃ (x23C : Nat), w1.cell? (⟨dB, 4, none⟩ : Addr) = some (.slice x23A x23N x23C) ∧
  ∃ vI : Int → Nat → World → Prop, (∃ vk_2 : Nat, vI 0 vk_2 w1) ∧
  ∀ (jk : Nat → Value) (x25 : Int), ∀ (vk : Nat) (w2 : World), vI x25 vk w2 →
  (decide (x25 < ((x23N : Nat) : Int)) = true →
  (0 ≤ x25 ∧ x25 < ((x23N : Nat) : Int)) ∧ someV x23A fun p =>
  ∃ (x280 : Int), ∃ (x281 : ByteArray), (w2.cell? (p.add (x25.toNat * 2)) = some (.int .i64 x280) ∧ w2.cell? ((p.add (x25.toNat * 2)).add 1) = some (.string x281)) ∧
  ∀ w3 : World, w3 = w2.alloc (.cells #[(.int .i64 0), (.string ByteArray.empty)] 60 (0, 0)) →
  (((∃ u, w3.cell? (⟨w2.heap.size, 0, none⟩ : Addr) = some u) ∧ w3.frozen? (⟨w2.heap.size, 0, none⟩ : Addr) = false) ∧ ((∃ u, w3.cell? (⟨w2.heap.size, 1, none⟩ : Addr) = some u) ∧ w3.frozen? (⟨w2.heap.size, 1, none⟩ : Addr) = false)) ∧ ∀ w4 : World, w4 = ((w3.setCell (⟨w2.heap.size, 0, none⟩ : Addr) (.int .i64 x280)).setCell (⟨w2.heap.size, 1, none⟩ : Addr) (.string x281)) →
  ∃ vS : World → Prop, ∀ w5 : World, w5 = w4.drew → vS w5 ∧
  ∃ (x32A : Option Addr), ∃ (x32N : Nat), ∃ (x32C : Nat), (∀ w6, vS w6 → w6.cell? (⟨dB, 3, none⟩ : Addr) = some (.slice x32A x32N x32C)) ∧
  ∃ (x34 : Int), (∀ w7, vS w7 → w7.cell? (⟨w2.heap.size, 0, none⟩ : Addr) = some (.int .i64 x34)) ∧
  ∃ (x36 : ByteArray), (∀ w8, vS w8 → w8.cell? (⟨w2.heap.size, 1, none⟩ : Addr) = some (.string x36)) ∧
  (0 ≤ x34 ∧ x34 < ((x32N : Nat) : Int)) ∧ someV x32A fun p_1 =>
  (((∃ u, w5.cell? (p_1.add (x34.toNat * 1)) = some u) ∧ w5.frozen? (p_1.add (x34.toNat * 1)) = false)) ∧ ∀ w9 : World, w9 = (w5.setCell (p_1.add (x34.toNat * 1)) (.string x36)) →
  vS w9 ∧
  ∃ vk_1 : Nat, vk_1 < vk ∧ vI (IntKind.i64.wrap (x25 + 1)) vk_1 w9) ∧
  (decide (x25 < ((x23N : Nat) : Int)) = false →
  (((∃ u, w2.cell? (⟨dB, 4, none⟩ : Addr) = some u) ∧ w2.frozen? (⟨dB, 4, none⟩ : Addr) = false)) ∧ ∀ w10 : World, w10 = (w2.setCell (⟨dB, 4, none⟩ : Addr) (.slice none 0 0)) →
  R (.int .i64 0) w10))))
theorem disk_Disk_Sync.vc_eq (dB : Nat) (w : World) (R : Value → World → Prop) : fnV Try.prog Try.f10 (.k (.c .nil (.c .nil (.lp [(5, none), (25, some (.int .i64)), (26, none), (27, none), (28, none), (29, none), (30, none), (31, none), (32, none), (33, none), (34, none), (35, none), (36, none), (37, none), (38, none)] (.c (.tk 0 (.tk 1 (.tk 2 (.tk 3 (.tk 4 (.tk 5 (.tk 6 (.tk 7 (.tk 8 (.alt 9 (.fin .nil) .nil)))))))))) .nil))))) [(.pointer (some (⟨dB, 0, none⟩ : Addr)))] w R = disk_Disk_Sync.vc dB w R := by kernel_rfl
theorem disk_Disk_Sync.calls (dB : Nat) {w : World} {R : Value → World → Prop} (h : disk_Disk_Sync.vc dB w R) : Calls Try.prog 10 #[(.pointer (some (⟨dB, 0, none⟩ : Addr)))] w (Ret R) :=
  calls_V fit Try.func10 (.k (.c .nil (.c .nil (.lp [(5, none), (25, some (.int .i64)), (26, none), (27, none), (28, none), (29, none), (30, none), (31, none), (32, none), (33, none), (34, none), (35, none), (36, none), (37, none), (38, none)] (.c (.tk 0 (.tk 1 (.tk 2 (.tk 3 (.tk 4 (.tk 5 (.tk 6 (.tk 7 (.tk 8 (.alt 9 (.fin .nil) .nil)))))))))) .nil))))) (by rw [show (#[(.pointer (some (⟨dB, 0, none⟩ : Addr)))] : Array Value).toList = [(.pointer (some (⟨dB, 0, none⟩ : Addr)))] from rfl, disk_Disk_Sync.vc_eq]; exact h)
/-- function 13 -/
def disk_Disk_Cut.vc (dB : Nat) (keepA : Option Addr) (keepN : Nat) (keepC : Nat) (w : World) (R : Value → World → Prop) : Prop :=
  Calls Try.prog 21 #[(.pointer (some (⟨dB, 0, none⟩ : Addr)))] w (Ret fun v w1 => ∃ (x7 : Bool), v = (.bool x7) ∧
  ((!x7) = true →
  R (.tuple #[]) w1) ∧
  ((!x7) = false →
  ∃ (x12A : Option Addr), ∃ (x12N : Nat), ∃ (x12C : Nat), w1.cell? (⟨dB, 4, none⟩ : Addr) = some (.slice x12A x12N x12C) ∧
  ∃ vI : Int → Nat → World → Prop, (∃ vk_2 : Nat, vI 0 vk_2 w1) ∧
  ∀ (jk : Nat → Value) (x14 : Int), ∀ (vk : Nat) (w2 : World), vI x14 vk w2 →
  (decide (x14 < ((x12N : Nat) : Int)) = true →
  (0 ≤ x14 ∧ x14 < ((x12N : Nat) : Int)) ∧ someV x12A fun p =>
  ∃ (x180 : Int), ∃ (x181 : ByteArray), (w2.cell? (p.add (x14.toNat * 2)) = some (.int .i64 x180) ∧ w2.cell? ((p.add (x14.toNat * 2)).add 1) = some (.string x181)) ∧
  ∀ w3 : World, w3 = w2.alloc (.cells #[(.int .i64 0), (.string ByteArray.empty)] 60 (0, 0)) →
  (((∃ u, w3.cell? (⟨w2.heap.size, 0, none⟩ : Addr) = some u) ∧ w3.frozen? (⟨w2.heap.size, 0, none⟩ : Addr) = false) ∧ ((∃ u, w3.cell? (⟨w2.heap.size, 1, none⟩ : Addr) = some u) ∧ w3.frozen? (⟨w2.heap.size, 1, none⟩ : Addr) = false)) ∧ ∀ w4 : World, w4 = ((w3.setCell (⟨w2.heap.size, 0, none⟩ : Addr) (.int .i64 x180)).setCell (⟨w2.heap.size, 1, none⟩ : Addr) (.string x181)) →
  (decide (x14 < ((keepN : Nat) : Int)) = true →
  (0 ≤ x14 ∧ x14 < ((keepN : Nat) : Int)) ∧ someV keepA fun p_1 =>
  ∃ (x27 : Bool), w4.cell? (p_1.add (x14.toNat * 1)) = some (.bool x27) ∧
  (x27 = true →
  ∃ vS : World → Prop, ∀ w5 : World, w5 = w4.drew → vS w5 ∧
  ∃ (x32A : Option Addr), ∃ (x32N : Nat), ∃ (x32C : Nat), (∀ w6, vS w6 → w6.cell? (⟨dB, 3, none⟩ : Addr) = some (.slice x32A x32N x32C)) ∧
  ∃ (x34 : Int), (∀ w7, vS w7 → w7.cell? (⟨w2.heap.size, 0, none⟩ : Addr) = some (.int .i64 x34)) ∧
  ∃ (x36 : ByteArray), (∀ w8, vS w8 → w8.cell? (⟨w2.heap.size, 1, none⟩ : Addr) = some (.string x36)) ∧
  (0 ≤ x34 ∧ x34 < ((x32N : Nat) : Int)) ∧ someV x32A fun p_2 =>
  (((∃ u, w5.cell? (p_2.add (x34.toNat * 1)) = some u) ∧ w5.frozen? (p_2.add (x34.toNat * 1)) = false)) ∧ ∀ w9 : World, w9 = (w5.setCell (p_2.add (x34.toNat * 1)) (.string x36)) →
  vS w9 ∧
  ∃ vk_1 : Nat, vk_1 < vk ∧ vI (IntKind.i64.wrap (x14 + 1)) vk_1 w9) ∧
  (x27 = false →
  ∃ vk_1 : Nat, vk_1 < vk ∧ vI (IntKind.i64.wrap (x14 + 1)) vk_1 w4)) ∧
  (decide (x14 < ((keepN : Nat) : Int)) = false →
  ∃ vk_1 : Nat, vk_1 < vk ∧ vI (IntKind.i64.wrap (x14 + 1)) vk_1 w4)) ∧
  (decide (x14 < ((x12N : Nat) : Int)) = false →
  (((∃ u, w2.cell? (⟨dB, 4, none⟩ : Addr) = some u) ∧ w2.frozen? (⟨dB, 4, none⟩ : Addr) = false)) ∧ ∀ w10 : World, w10 = (w2.setCell (⟨dB, 4, none⟩ : Addr) (.slice none 0 0)) →
  (((∃ u, w10.cell? (⟨dB, 0, none⟩ : Addr) = some u) ∧ w10.frozen? (⟨dB, 0, none⟩ : Addr) = false)) ∧ ∀ w11 : World, w11 = (w10.setCell (⟨dB, 0, none⟩ : Addr) (.bool true)) →
  R (.tuple #[]) w11)))
theorem disk_Disk_Cut.vc_eq (dB : Nat) (keepA : Option Addr) (keepN : Nat) (keepC : Nat) (w : World) (R : Value → World → Prop) : fnV Try.prog Try.f13 (.c .nil (.lp [(4, none), (5, none), (14, some (.int .i64)), (15, none), (16, none), (17, none), (18, none), (19, none), (20, none), (21, none), (22, none), (23, none), (24, none), (25, none), (26, none), (27, none), (28, none), (29, none), (30, none), (31, none), (32, none), (33, none), (34, none), (35, none), (36, none), (37, none), (38, none)] (.c (.at_ 4 4 (.c (.tk 0 (.tk 1 (.tk 2 (.tk 3 (.tk 4 (.tk 5 (.tk 6 (.tk 7 (.tk 8 (.alt 9 (.fin .nil) .nil)))))))))) .nil) (.k .nil)) .nil))) [(.pointer (some (⟨dB, 0, none⟩ : Addr))), (.slice keepA keepN keepC)] w R = disk_Disk_Cut.vc dB keepA keepN keepC w R := by kernel_rfl
theorem disk_Disk_Cut.calls (dB : Nat) (keepA : Option Addr) (keepN : Nat) (keepC : Nat) {w : World} {R : Value → World → Prop} (h : disk_Disk_Cut.vc dB keepA keepN keepC w R) : Calls Try.prog 13 #[(.pointer (some (⟨dB, 0, none⟩ : Addr))), (.slice keepA keepN keepC)] w (Ret R) :=
  calls_V fit Try.func13 (.c .nil (.lp [(4, none), (5, none), (14, some (.int .i64)), (15, none), (16, none), (17, none), (18, none), (19, none), (20, none), (21, none), (22, none), (23, none), (24, none), (25, none), (26, none), (27, none), (28, none), (29, none), (30, none), (31, none), (32, none), (33, none), (34, none), (35, none), (36, none), (37, none), (38, none)] (.c (.at_ 4 4 (.c (.tk 0 (.tk 1 (.tk 2 (.tk 3 (.tk 4 (.tk 5 (.tk 6 (.tk 7 (.tk 8 (.alt 9 (.fin .nil) .nil)))))))))) .nil) (.k .nil)) .nil))) (by rw [show (#[(.pointer (some (⟨dB, 0, none⟩ : Addr))), (.slice keepA keepN keepC)] : Array Value).toList = [(.pointer (some (⟨dB, 0, none⟩ : Addr))), (.slice keepA keepN keepC)] from rfl, disk_Disk_Cut.vc_eq]; exact h)
/-- function 20 -/
def disk_Disk_Fuse.vc (dB : Nat) (n : Int) (keepA : Option Addr) (keepN : Nat) (keepC : Nat) (w : World) (R : Value → World → Prop) : Prop :=
  Calls Try.prog 21 #[(.pointer (some (⟨dB, 0, none⟩ : Addr)))] w (Ret fun v w1 => ∃ (x7 : Bool), v = (.bool x7) ∧
  (x7 = true →
  Calls Try.prog 36 #[(.slice keepA keepN keepC)] w1 (Ret fun v_1 w2 => ∃ (x13A : Option Addr), ∃ (x13N : Nat), ∃ (x13C : Nat), v_1 = (.slice x13A x13N x13C) ∧
  (((∃ u, w2.cell? (⟨dB, 1, none⟩ : Addr) = some u) ∧ w2.frozen? (⟨dB, 1, none⟩ : Addr) = false)) ∧ ∀ w3 : World, w3 = (w2.setCell (⟨dB, 1, none⟩ : Addr) (.int .i64 (if (-1 : Int) > n then (-1 : Int) else n))) →
  (((∃ u, w3.cell? (⟨dB, 2, none⟩ : Addr) = some u) ∧ w3.frozen? (⟨dB, 2, none⟩ : Addr) = false)) ∧ ∀ w4 : World, w4 = (w3.setCell (⟨dB, 2, none⟩ : Addr) (.slice x13A x13N x13C)) →
  R (.tuple #[]) w4)) ∧
  (x7 = false →
  R (.tuple #[]) w1))
theorem disk_Disk_Fuse.vc_eq (dB : Nat) (n : Int) (keepA : Option Addr) (keepN : Nat) (keepC : Nat) (w : World) (R : Value → World → Prop) : fnV Try.prog Try.f20 (.c .nil .nil) [(.pointer (some (⟨dB, 0, none⟩ : Addr))), (.int .i64 n), (.slice keepA keepN keepC)] w R = disk_Disk_Fuse.vc dB n keepA keepN keepC w R := by kernel_rfl
theorem disk_Disk_Fuse.calls (dB : Nat) (n : Int) (keepA : Option Addr) (keepN : Nat) (keepC : Nat) {w : World} {R : Value → World → Prop} (h : disk_Disk_Fuse.vc dB n keepA keepN keepC w R) : Calls Try.prog 20 #[(.pointer (some (⟨dB, 0, none⟩ : Addr))), (.int .i64 n), (.slice keepA keepN keepC)] w (Ret R) :=
  calls_V fit Try.func20 (.c .nil .nil) (by rw [show (#[(.pointer (some (⟨dB, 0, none⟩ : Addr))), (.int .i64 n), (.slice keepA keepN keepC)] : Array Value).toList = [(.pointer (some (⟨dB, 0, none⟩ : Addr))), (.int .i64 n), (.slice keepA keepN keepC)] from rfl, disk_Disk_Fuse.vc_eq]; exact h)
/-- function 14 -/
def disk_Disk_Come.vc (dB : Nat) (w : World) (R : Value → World → Prop) : Prop :=
  ∃ (x9 : Bool), w.cell? (⟨dB, 0, none⟩ : Addr) = some (.bool x9) ∧
  (x9 = true →
  (((∃ u, w.cell? (⟨dB, 0, none⟩ : Addr) = some u) ∧ w.frozen? (⟨dB, 0, none⟩ : Addr) = false)) ∧ ∀ w1 : World, w1 = (w.setCell (⟨dB, 0, none⟩ : Addr) (.bool false)) →
  (((∃ u, w1.cell? (⟨dB, 1, none⟩ : Addr) = some u) ∧ w1.frozen? (⟨dB, 1, none⟩ : Addr) = false)) ∧ ∀ w2 : World, w2 = (w1.setCell (⟨dB, 1, none⟩ : Addr) (.int .i64 (-1))) →
  R (.tuple #[]) w2) ∧
  (x9 = false →
  R (.tuple #[]) w)
theorem disk_Disk_Come.vc_eq (dB : Nat) (w : World) (R : Value → World → Prop) : fnV Try.prog Try.f14 (.c .nil .nil) [(.pointer (some (⟨dB, 0, none⟩ : Addr)))] w R = disk_Disk_Come.vc dB w R := by kernel_rfl
theorem disk_Disk_Come.calls (dB : Nat) {w : World} {R : Value → World → Prop} (h : disk_Disk_Come.vc dB w R) : Calls Try.prog 14 #[(.pointer (some (⟨dB, 0, none⟩ : Addr)))] w (Ret R) :=
  calls_V fit Try.func14 (.c .nil .nil) (by rw [show (#[(.pointer (some (⟨dB, 0, none⟩ : Addr)))] : Array Value).toList = [(.pointer (some (⟨dB, 0, none⟩ : Addr)))] from rfl, disk_Disk_Come.vc_eq]; exact h)
/-- function 16 -/
def disk_Disk_Loose.vc (dB : Nat) (w : World) (R : Value → World → Prop) : Prop :=
  ∃ (x8A : Option Addr), ∃ (x8N : Nat), ∃ (x8C : Nat), w.cell? (⟨dB, 4, none⟩ : Addr) = some (.slice x8A x8N x8C) ∧
  R (.int .i64 ((x8N : Nat) : Int)) w
theorem disk_Disk_Loose.vc_eq (dB : Nat) (w : World) (R : Value → World → Prop) : fnV Try.prog Try.f16 (.k .nil) [(.pointer (some (⟨dB, 0, none⟩ : Addr)))] w R = disk_Disk_Loose.vc dB w R := by kernel_rfl
theorem disk_Disk_Loose.calls (dB : Nat) {w : World} {R : Value → World → Prop} (h : disk_Disk_Loose.vc dB w R) : Calls Try.prog 16 #[(.pointer (some (⟨dB, 0, none⟩ : Addr)))] w (Ret R) :=
  calls_V fit Try.func16 (.k .nil) (by rw [show (#[(.pointer (some (⟨dB, 0, none⟩ : Addr)))] : Array Value).toList = [(.pointer (some (⟨dB, 0, none⟩ : Addr)))] from rfl, disk_Disk_Loose.vc_eq]; exact h)
/-- function 22 -/
def disk_Disk_Done.vc (dB : Nat) (w : World) (R : Value → World → Prop) : Prop :=
  ∃ (x8 : Int), w.cell? (⟨dB, 5, none⟩ : Addr) = some (.int .i64 x8) ∧
  R (.int .i64 x8) w
theorem disk_Disk_Done.vc_eq (dB : Nat) (w : World) (R : Value → World → Prop) : fnV Try.prog Try.f22 (.k .nil) [(.pointer (some (⟨dB, 0, none⟩ : Addr)))] w R = disk_Disk_Done.vc dB w R := by kernel_rfl
theorem disk_Disk_Done.calls (dB : Nat) {w : World} {R : Value → World → Prop} (h : disk_Disk_Done.vc dB w R) : Calls Try.prog 22 #[(.pointer (some (⟨dB, 0, none⟩ : Addr)))] w (Ret R) :=
  calls_V fit Try.func22 (.k .nil) (by rw [show (#[(.pointer (some (⟨dB, 0, none⟩ : Addr)))] : Array Value).toList = [(.pointer (some (⟨dB, 0, none⟩ : Addr)))] from rfl, disk_Disk_Done.vc_eq]; exact h)
/-- function 18 -/
def disk_Disk_Image.vc (dB : Nat) (w : World) (R : Value → World → Prop) : Prop :=
  ∃ (x8A : Option Addr), ∃ (x8N : Nat), ∃ (x8C : Nat), w.cell? (⟨dB, 3, none⟩ : Addr) = some (.slice x8A x8N x8C) ∧
  Calls Try.prog 35 #[(.slice x8A x8N x8C), (.string (ByteArray.mk #[]))] w (Ret fun v w1 => ∃ (x9 : ByteArray), v = (.string x9) ∧
  R (.string x9) w1)
theorem disk_Disk_Image.vc_eq (dB : Nat) (w : World) (R : Value → World → Prop) : fnV Try.prog Try.f18 (.k .nil) [(.pointer (some (⟨dB, 0, none⟩ : Addr)))] w R = disk_Disk_Image.vc dB w R := by kernel_rfl
theorem disk_Disk_Image.calls (dB : Nat) {w : World} {R : Value → World → Prop} (h : disk_Disk_Image.vc dB w R) : Calls Try.prog 18 #[(.pointer (some (⟨dB, 0, none⟩ : Addr)))] w (Ret R) :=
  calls_V fit Try.func18 (.k .nil) (by rw [show (#[(.pointer (some (⟨dB, 0, none⟩ : Addr)))] : Array Value).toList = [(.pointer (some (⟨dB, 0, none⟩ : Addr)))] from rfl, disk_Disk_Image.vc_eq]; exact h)
end Go.Proofs.Ytpefegcdcojokaa.Vc
