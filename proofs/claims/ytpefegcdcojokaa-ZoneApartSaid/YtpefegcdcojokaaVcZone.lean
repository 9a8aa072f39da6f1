import Derived.Test.YtpefegcdcojokaaVc
import Derived.Test.YtpefegcdcojokaaH
import Derived.Test.YtpefegcdcojokaaProg
import Derived.KernelRfl
set_option linter.unusedVariables false
set_option maxRecDepth 100000
namespace Go.Proofs.Ytpefegcdcojokaa.Vc
open Go Go.Proofs Go.Proofs.Ytpefegcdcojokaa.V
/-- function 39 -/
def zone_isPart.vc (vfrom : Int) (size : Int) (all : Int) (w : World) (R : Value → World → Prop) : Prop :=
  (decide (size ≥ (1 : Int)) = true →
  (decide (vfrom ≥ (0 : Int)) = true →
  (decide (vfrom < all) = true →
  R (.bool (decide (size ≤ (IntKind.i64.wrap (all - vfrom))))) w) ∧
  (decide (vfrom < all) = false →
  R (.bool false) w)) ∧
  (decide (vfrom ≥ (0 : Int)) = false →
  R (.bool false) w)) ∧
  (decide (size ≥ (1 : Int)) = false →
  R (.bool false) w)
theorem zone_isPart.vc_eq (vfrom : Int) (size : Int) (all : Int) (w : World) (R : Value → World → Prop) : fnV Try.prog Try.f39 (.at_ 1 2 (.at_ 1 6 (.at_ 1 11 .nil .nil) .nil) .nil) [(.int .i64 vfrom), (.int .i64 size), (.int .i64 all)] w R = zone_isPart.vc vfrom size all w R := by kernel_rfl
theorem zone_isPart.calls (vfrom : Int) (size : Int) (all : Int) {w : World} {R : Value → World → Prop} (h : zone_isPart.vc vfrom size all w R) : Calls Try.prog 39 #[(.int .i64 vfrom), (.int .i64 size), (.int .i64 all)] w (Ret R) :=
  calls_V fit Try.func39 (.at_ 1 2 (.at_ 1 6 (.at_ 1 11 .nil .nil) .nil) .nil) (by rw [show (#[(.int .i64 vfrom), (.int .i64 size), (.int .i64 all)] : Array Value).toList = [(.int .i64 vfrom), (.int .i64 size), (.int .i64 all)] from rfl, zone_isPart.vc_eq]; exact h)
/-- function 24 -/
def zone_New.vc (dB : Nat) (vfrom : Int) (size : Int) (w : World) (R : Value → World → Prop) : Prop :=
  Calls Try.prog 19 #[(.pointer (some (⟨dB, 0, none⟩ : Addr)))] w (Ret fun v w1 => ∃ (x15 : Int), v = (.int .i64 x15) ∧
  Calls Try.prog 39 #[(.int .i64 vfrom), (.int .i64 size), (.int .i64 x15)] w1 (Ret fun v_1 w2 => ∃ (x16 : Bool), v_1 = (.bool x16) ∧
  ((!x16) = true →
  R (.tuple #[(.pointer none), (.int .i64 1)]) w2) ∧
  ((!x16) = false →
  ∀ w3 : World, w3 = w2.alloc (.cells #[(.pointer (some (⟨dB, 0, none⟩ : Addr))), (.int .i64 vfrom), (.int .i64 size)] 47 (0, 0)) →
  R (.tuple #[(.pointer (some (⟨w2.heap.size, 0, none⟩ : Addr))), (.int .i64 0)]) w3)))
theorem zone_New.vc_eq (dB : Nat) (vfrom : Int) (size : Int) (w : World) (R : Value → World → Prop) : fnV Try.prog Try.f24 (.k (.c .nil .nil)) [(.pointer (some (⟨dB, 0, none⟩ : Addr))), (.int .i64 vfrom), (.int .i64 size)] w R = zone_New.vc dB vfrom size w R := by kernel_rfl
theorem zone_New.calls (dB : Nat) (vfrom : Int) (size : Int) {w : World} {R : Value → World → Prop} (h : zone_New.vc dB vfrom size w R) : Calls Try.prog 24 #[(.pointer (some (⟨dB, 0, none⟩ : Addr))), (.int .i64 vfrom), (.int .i64 size)] w (Ret R) :=
  calls_V fit Try.func24 (.k (.c .nil .nil)) (by rw [show (#[(.pointer (some (⟨dB, 0, none⟩ : Addr))), (.int .i64 vfrom), (.int .i64 size)] : Array Value).toList = [(.pointer (some (⟨dB, 0, none⟩ : Addr))), (.int .i64 vfrom), (.int .i64 size)] from rfl, zone_New.vc_eq]; exact h)
/-- function 27 -/
def zone_Zone_Len.vc (zB : Nat) (w : World) (R : Value → World → Prop) : Prop :=
  ∃ (x8 : Int), w.cell? (⟨zB, 2, none⟩ : Addr) = some (.int .i64 x8) ∧
  R (.int .i64 x8) w
theorem zone_Zone_Len.vc_eq (zB : Nat) (w : World) (R : Value → World → Prop) : fnV Try.prog Try.f27 (.k .nil) [(.pointer (some (⟨zB, 0, none⟩ : Addr)))] w R = zone_Zone_Len.vc zB w R := by kernel_rfl
theorem zone_Zone_Len.calls (zB : Nat) {w : World} {R : Value → World → Prop} (h : zone_Zone_Len.vc zB w R) : Calls Try.prog 27 #[(.pointer (some (⟨zB, 0, none⟩ : Addr)))] w (Ret R) :=
  calls_V fit Try.func27 (.k .nil) (by rw [show (#[(.pointer (some (⟨zB, 0, none⟩ : Addr)))] : Array Value).toList = [(.pointer (some (⟨zB, 0, none⟩ : Addr)))] from rfl, zone_Zone_Len.vc_eq]; exact h)
/-- function 42 -/
def zone_Zone_isIn.vc (zB : Nat) (vat : Int) (w : World) (R : Value → World → Prop) : Prop :=
  (decide (vat ≥ (0 : Int)) = true →
  ∃ (x12 : Int), w.cell? (⟨zB, 2, none⟩ : Addr) = some (.int .i64 x12) ∧
  R (.bool (decide (vat < x12))) w) ∧
  (decide (vat ≥ (0 : Int)) = false →
  R (.bool false) w)
theorem zone_Zone_isIn.vc_eq (zB : Nat) (vat : Int) (w : World) (R : Value → World → Prop) : fnV Try.prog Try.f42 (.at_ 1 2 .nil .nil) [(.pointer (some (⟨zB, 0, none⟩ : Addr))), (.int .i64 vat)] w R = zone_Zone_isIn.vc zB vat w R := by kernel_rfl
theorem zone_Zone_isIn.calls (zB : Nat) (vat : Int) {w : World} {R : Value → World → Prop} (h : zone_Zone_isIn.vc zB vat w R) : Calls Try.prog 42 #[(.pointer (some (⟨zB, 0, none⟩ : Addr))), (.int .i64 vat)] w (Ret R) :=
  calls_V fit Try.func42 (.at_ 1 2 .nil .nil) (by rw [show (#[(.pointer (some (⟨zB, 0, none⟩ : Addr))), (.int .i64 vat)] : Array Value).toList = [(.pointer (some (⟨zB, 0, none⟩ : Addr))), (.int .i64 vat)] from rfl, zone_Zone_isIn.vc_eq]; exact h)
/-- function 38 -/
def zone_Zone_Read.vc (zB : Nat) (vat : Int) (w : World) (R : Value → World → Prop) : Prop :=
  Calls Try.prog 42 #[(.pointer (some (⟨zB, 0, none⟩ : Addr))), (.int .i64 vat)] w (Ret fun v w1 => ∃ (x12 : Bool), v = (.bool x12) ∧
  ((!x12) = true →
  R (.tuple #[(.string (ByteArray.mk #[])), (.int .i64 3)]) w1) ∧
  ((!x12) = false →
  ∃ vS : World → Prop, ∀ w2 : World, w2 = w1.drew → vS w2 ∧
  ∃ (x17 : Option Addr), (∀ w3, vS w3 → w3.cell? (⟨zB, 0, none⟩ : Addr) = some (.pointer x17)) ∧
  ∃ (x21 : Int), (∀ w4, vS w4 → w4.cell? (⟨zB, 1, none⟩ : Addr) = some (.int .i64 x21)) ∧
  Calls Try.prog 15 #[(.pointer x17), (.int .i64 (IntKind.i64.wrap (x21 + vat)))] w2 (Ret fun v_1 w5 => ∃ (x24_0 : ByteArray), ∃ (x24_1 : Int), v_1 = (.tuple #[(.string x24_0), (.int .i64 x24_1)]) ∧
  vS w5 ∧
  R (.tuple #[(.string x24_0), (.int .i64 x24_1)]) w5)))
theorem zone_Zone_Read.vc_eq (zB : Nat) (vat : Int) (w : World) (R : Value → World → Prop) : fnV Try.prog Try.f38 (.k (.c .nil (.tk 0 (.tk 1 (.tk 2 (.tk 3 (.tk 4 (.tk 5 (.tk 6 (.tk 7 (.tk 8 (.tk 9 (.alt 10 (.tk 11 (.tk 12 (.tk 13 (.tk 14 (.fin .nil))))) .nil))))))))))))) [(.pointer (some (⟨zB, 0, none⟩ : Addr))), (.int .i64 vat)] w R = zone_Zone_Read.vc zB vat w R := by kernel_rfl
theorem zone_Zone_Read.calls (zB : Nat) (vat : Int) {w : World} {R : Value → World → Prop} (h : zone_Zone_Read.vc zB vat w R) : Calls Try.prog 38 #[(.pointer (some (⟨zB, 0, none⟩ : Addr))), (.int .i64 vat)] w (Ret R) :=
  calls_V fit Try.func38 (.k (.c .nil (.tk 0 (.tk 1 (.tk 2 (.tk 3 (.tk 4 (.tk 5 (.tk 6 (.tk 7 (.tk 8 (.tk 9 (.alt 10 (.tk 11 (.tk 12 (.tk 13 (.tk 14 (.fin .nil))))) .nil))))))))))))) (by rw [show (#[(.pointer (some (⟨zB, 0, none⟩ : Addr))), (.int .i64 vat)] : Array Value).toList = [(.pointer (some (⟨zB, 0, none⟩ : Addr))), (.int .i64 vat)] from rfl, zone_Zone_Read.vc_eq]; exact h)
/-- function 28 -/
def zone_Zone_Write.vc (zB : Nat) (vat : Int) (s : ByteArray) (w : World) (R : Value → World → Prop) : Prop :=
  ((((s.size : Nat) : Int) != (32 : Int)) = true →
  R (.int .i64 1) w) ∧
  ((((s.size : Nat) : Int) != (32 : Int)) = false →
  Calls Try.prog 42 #[(.pointer (some (⟨zB, 0, none⟩ : Addr))), (.int .i64 vat)] w (Ret fun v w1 => ∃ (x17 : Bool), v = (.bool x17) ∧
  ((!x17) = true →
  R (.int .i64 3) w1) ∧
  ((!x17) = false →
  ∃ vS : World → Prop, ∀ w2 : World, w2 = w1.drew → vS w2 ∧
  ∃ (x22 : Option Addr), (∀ w3, vS w3 → w3.cell? (⟨zB, 0, none⟩ : Addr) = some (.pointer x22)) ∧
  ∃ (x26 : Int), (∀ w4, vS w4 → w4.cell? (⟨zB, 1, none⟩ : Addr) = some (.int .i64 x26)) ∧
  Calls Try.prog 11 #[(.pointer x22), (.int .i64 (IntKind.i64.wrap (x26 + vat))), (.string s)] w2 (Ret fun v_1 w5 => ∃ (x30 : Int), v_1 = (.int .i64 x30) ∧
  vS w5 ∧
  R (.int .i64 x30) w5))))
theorem zone_Zone_Write.vc_eq (zB : Nat) (vat : Int) (s : ByteArray) (w : World) (R : Value → World → Prop) : fnV Try.prog Try.f28 (.k (.c .nil (.c .nil (.tk 0 (.tk 1 (.tk 2 (.tk 3 (.tk 4 (.tk 5 (.tk 6 (.tk 7 (.tk 8 (.tk 9 (.tk 10 (.alt 11 (.tk 12 (.fin .nil)) .nil))))))))))))))) [(.pointer (some (⟨zB, 0, none⟩ : Addr))), (.int .i64 vat), (.string s)] w R = zone_Zone_Write.vc zB vat s w R := by kernel_rfl
theorem zone_Zone_Write.calls (zB : Nat) (vat : Int) (s : ByteArray) {w : World} {R : Value → World → Prop} (h : zone_Zone_Write.vc zB vat s w R) : Calls Try.prog 28 #[(.pointer (some (⟨zB, 0, none⟩ : Addr))), (.int .i64 vat), (.string s)] w (Ret R) :=
  calls_V fit Try.func28 (.k (.c .nil (.c .nil (.tk 0 (.tk 1 (.tk 2 (.tk 3 (.tk 4 (.tk 5 (.tk 6 (.tk 7 (.tk 8 (.tk 9 (.tk 10 (.alt 11 (.tk 12 (.fin .nil)) .nil))))))))))))))) (by rw [show (#[(.pointer (some (⟨zB, 0, none⟩ : Addr))), (.int .i64 vat), (.string s)] : Array Value).toList = [(.pointer (some (⟨zB, 0, none⟩ : Addr))), (.int .i64 vat), (.string s)] from rfl, zone_Zone_Write.vc_eq]; exact h)
/-- function 25 -/
def zone_Zone_Fill.vc (zB : Nat) (b : Int) (w : World) (R : Value → World → Prop) : Prop :=
  ∀ w1 : World, w1 = w.alloc (.cells #[(.int .u8 b)] 5 (0, 0)) →
  ∃ (x13 : ByteArray), ∃ w2 : World, (convert 22 9 (.slice (some (⟨w.heap.size, 0, none⟩ : Addr)) 1 1)).run Try.prog w1 = .ok (.string x13) w2 ∧
  Calls Try.prog 31 #[(.string x13), (.int .i64 32)] w2 (Ret fun v w3 => ∃ (x14 : ByteArray), v = (.string x14) ∧
  ∃ (x18 : Int), w3.cell? (⟨zB, 2, none⟩ : Addr) = some (.int .i64 x18) ∧
  ∃ vI : Int → Nat → World → Prop, (∃ vk_2 : Nat, vI 0 vk_2 w3) ∧
  ∀ (jk : Nat → Value) (x19 : Int), ∀ (vk : Nat) (w4 : World), vI x19 vk w4 →
  (decide (x19 < x18) = true →
  Calls Try.prog 38 #[(.pointer (some (⟨zB, 0, none⟩ : Addr))), (.int .i64 x19)] w4 (Ret fun v_1 w5 => ∃ (x25_0 : ByteArray), ∃ (x25_1 : Int), v_1 = (.tuple #[(.string x25_0), (.int .i64 x25_1)]) ∧
  ((x25_1 == (0 : Int)) = true →
  ((!(x25_0.toList == x14.toList)) = true →
  Calls Try.prog 28 #[(.pointer (some (⟨zB, 0, none⟩ : Addr))), (.int .i64 x19), (.string x14)] w5 (Ret fun v_2 w6 => ∃ (x38 : Int), v_2 = (.int .i64 x38) ∧
  ((x38 != (0 : Int)) = true →
  R (.int .i64 x38) w6) ∧
  ((x38 != (0 : Int)) = false →
  ∃ vk_1 : Nat, vk_1 < vk ∧ vI (IntKind.i64.wrap (x19 + 1)) vk_1 w6))) ∧
  ((!(x25_0.toList == x14.toList)) = false →
  ((x25_1 != (0 : Int)) = true →
  R (.int .i64 x25_1) w5) ∧
  ((x25_1 != (0 : Int)) = false →
  ∃ vk_1 : Nat, vk_1 < vk ∧ vI (IntKind.i64.wrap (x19 + 1)) vk_1 w5))) ∧
  ((x25_1 == (0 : Int)) = false →
  ((x25_1 != (0 : Int)) = true →
  R (.int .i64 x25_1) w5) ∧
  ((x25_1 != (0 : Int)) = false →
  ∃ vk_1 : Nat, vk_1 < vk ∧ vI (IntKind.i64.wrap (x19 + 1)) vk_1 w5)))) ∧
  (decide (x19 < x18) = false →
  R (.int .i64 0) w4))
theorem zone_Zone_Fill.vc_eq (zB : Nat) (b : Int) (w : World) (R : Value → World → Prop) : fnV Try.prog Try.f25 (.k (.lp [(4, none), (6, none), (7, none), (8, none), (19, some (.int .i64)), (20, none), (21, none), (22, none), (23, none), (24, none), (25, none), (26, none), (27, none), (28, none), (29, none), (30, none), (31, none), (32, none), (33, none), (34, none), (35, none), (36, none), (37, none), (38, none), (39, none), (40, none), (41, none), (42, none)] (.c (.at_ 8 2 (.c (.c .nil .nil) (.c .nil .nil)) (.k (.c .nil .nil))) .nil))) [(.pointer (some (⟨zB, 0, none⟩ : Addr))), (.int .u8 b)] w R = zone_Zone_Fill.vc zB b w R := by kernel_rfl
theorem zone_Zone_Fill.calls (zB : Nat) (b : Int) {w : World} {R : Value → World → Prop} (h : zone_Zone_Fill.vc zB b w R) : Calls Try.prog 25 #[(.pointer (some (⟨zB, 0, none⟩ : Addr))), (.int .u8 b)] w (Ret R) :=
  calls_V fit Try.func25 (.k (.lp [(4, none), (6, none), (7, none), (8, none), (19, some (.int .i64)), (20, none), (21, none), (22, none), (23, none), (24, none), (25, none), (26, none), (27, none), (28, none), (29, none), (30, none), (31, none), (32, none), (33, none), (34, none), (35, none), (36, none), (37, none), (38, none), (39, none), (40, none), (41, none), (42, none)] (.c (.at_ 8 2 (.c (.c .nil .nil) (.c .nil .nil)) (.k (.c .nil .nil))) .nil))) (by rw [show (#[(.pointer (some (⟨zB, 0, none⟩ : Addr))), (.int .u8 b)] : Array Value).toList = [(.pointer (some (⟨zB, 0, none⟩ : Addr))), (.int .u8 b)] from rfl, zone_Zone_Fill.vc_eq]; exact h)
/-- function 30 -/
def zone_Zone_Part.vc (zB : Nat) (vfrom : Int) (size : Int) (w : World) (R : Value → World → Prop) : Prop :=
  ∃ (x17 : Int), w.cell? (⟨zB, 2, none⟩ : Addr) = some (.int .i64 x17) ∧
  Calls Try.prog 39 #[(.int .i64 vfrom), (.int .i64 size), (.int .i64 x17)] w (Ret fun v w1 => ∃ (x18 : Bool), v = (.bool x18) ∧
  ((!x18) = true →
  R (.tuple #[(.pointer none), (.int .i64 1)]) w1) ∧
  ((!x18) = false →
  ∃ vS : World → Prop, ∀ w2 : World, w2 = w1.drew → vS w2 ∧
  ∃ (x23 : Option Addr), (∀ w3, vS w3 → w3.cell? (⟨zB, 0, none⟩ : Addr) = some (.pointer x23)) ∧
  ∃ (x27 : Int), (∀ w4, vS w4 → w4.cell? (⟨zB, 1, none⟩ : Addr) = some (.int .i64 x27)) ∧
  Calls Try.prog 24 #[(.pointer x23), (.int .i64 (IntKind.i64.wrap (x27 + vfrom))), (.int .i64 size)] w2 (Ret fun v_1 w5 => ∃ (x31_0 : Option Addr), ∃ (x31_1 : Int), v_1 = (.tuple #[(.pointer x31_0), (.int .i64 x31_1)]) ∧
  vS w5 ∧
  R (.tuple #[(.pointer x31_0), (.int .i64 x31_1)]) w5)))
theorem zone_Zone_Part.vc_eq (zB : Nat) (vfrom : Int) (size : Int) (w : World) (R : Value → World → Prop) : fnV Try.prog Try.f30 (.k (.c .nil (.tk 0 (.tk 1 (.tk 2 (.tk 3 (.tk 4 (.tk 5 (.tk 6 (.tk 7 (.tk 8 (.tk 9 (.tk 10 (.alt 11 (.tk 12 (.tk 13 (.tk 14 (.tk 15 (.fin .nil))))) .nil)))))))))))))) [(.pointer (some (⟨zB, 0, none⟩ : Addr))), (.int .i64 vfrom), (.int .i64 size)] w R = zone_Zone_Part.vc zB vfrom size w R := by kernel_rfl
theorem zone_Zone_Part.calls (zB : Nat) (vfrom : Int) (size : Int) {w : World} {R : Value → World → Prop} (h : zone_Zone_Part.vc zB vfrom size w R) : Calls Try.prog 30 #[(.pointer (some (⟨zB, 0, none⟩ : Addr))), (.int .i64 vfrom), (.int .i64 size)] w (Ret R) :=
  calls_V fit Try.func30 (.k (.c .nil (.tk 0 (.tk 1 (.tk 2 (.tk 3 (.tk 4 (.tk 5 (.tk 6 (.tk 7 (.tk 8 (.tk 9 (.tk 10 (.alt 11 (.tk 12 (.tk 13 (.tk 14 (.tk 15 (.fin .nil))))) .nil)))))))))))))) (by rw [show (#[(.pointer (some (⟨zB, 0, none⟩ : Addr))), (.int .i64 vfrom), (.int .i64 size)] : Array Value).toList = [(.pointer (some (⟨zB, 0, none⟩ : Addr))), (.int .i64 vfrom), (.int .i64 size)] from rfl, zone_Zone_Part.vc_eq]; exact h)
/-- function 26 -/
def zone_Zone_All.vc (zB : Nat) (w : World) (R : Value → World → Prop) : Prop :=
  ∀ w1 : World, w1 = w.alloc (.cells #[(.pointer none), (.slice none 0 0)] 70 (0, 0)) →
  ∃ (x13 : Int), w1.cell? (⟨zB, 2, none⟩ : Addr) = some (.int .i64 x13) ∧
  ∃ vI : Int → Nat → World → Prop, (∃ vk_2 : Nat, vI 0 vk_2 w1) ∧
  ∀ (jk : Nat → Value) (x14 : Int), ∀ (vk : Nat) (w2 : World), vI x14 vk w2 →
  (decide (x14 < x13) = true →
  Calls Try.prog 38 #[(.pointer (some (⟨zB, 0, none⟩ : Addr))), (.int .i64 x14)] w2 (Ret fun v w3 => ∃ (x20_0 : ByteArray), ∃ (x20_1 : Int), v = (.tuple #[(.string x20_0), (.int .i64 x20_1)]) ∧
  ((x20_1 != (0 : Int)) = true →
  R (.tuple #[(.string (ByteArray.mk #[])), (.int .i64 x20_1)]) w3) ∧
  ((x20_1 != (0 : Int)) = false →
  Calls Try.prog 40 #[(.pointer (some (⟨w.heap.size, 0, none⟩ : Addr))), (.string x20_0)] w3 (Ret fun v_1 w4 => ∃ (x27_0 : Int), ∃ (x27_1 : Value), v_1 = (.tuple #[(.int .i64 x27_0), x27_1]) ∧
  ∃ vk_1 : Nat, vk_1 < vk ∧ vI (IntKind.i64.wrap (x14 + 1)) vk_1 w4)))) ∧
  (decide (x14 < x13) = false →
  Calls Try.prog 41 #[(.pointer (some (⟨w.heap.size, 0, none⟩ : Addr)))] w2 (Ret fun v_2 w5 => ∃ (x29 : ByteArray), v_2 = (.string x29) ∧
  R (.tuple #[(.string x29), (.int .i64 0)]) w5))
theorem zone_Zone_All.vc_eq (zB : Nat) (w : World) (R : Value → World → Prop) : fnV Try.prog Try.f26 (.k (.lp [(2, none), (3, none), (5, none), (6, none), (7, none), (14, some (.int .i64)), (15, none), (16, none), (17, none), (18, none), (19, none), (20, none), (21, none), (22, none), (23, none), (24, none), (25, none), (26, none), (27, none), (28, none)] (.c (.c .nil .nil) .nil))) [(.pointer (some (⟨zB, 0, none⟩ : Addr)))] w R = zone_Zone_All.vc zB w R := by kernel_rfl
theorem zone_Zone_All.calls (zB : Nat) {w : World} {R : Value → World → Prop} (h : zone_Zone_All.vc zB w R) : Calls Try.prog 26 #[(.pointer (some (⟨zB, 0, none⟩ : Addr)))] w (Ret R) :=
  calls_V fit Try.func26 (.k (.lp [(2, none), (3, none), (5, none), (6, none), (7, none), (14, some (.int .i64)), (15, none), (16, none), (17, none), (18, none), (19, none), (20, none), (21, none), (22, none), (23, none), (24, none), (25, none), (26, none), (27, none), (28, none)] (.c (.c .nil .nil) .nil))) (by rw [show (#[(.pointer (some (⟨zB, 0, none⟩ : Addr)))] : Array Value).toList = [(.pointer (some (⟨zB, 0, none⟩ : Addr)))] from rfl, zone_Zone_All.vc_eq]; exact h)
/-- function 29 -/
def coadjutorlaw05_of.vc (b : Int) (w : World) (R : Value → World → Prop) : Prop :=
  ((32 : Int) = (32 : Int) ∧ 0 ≤ (32 : Int) ∧ (32 : Int) * (1 : Int) ≤ 140737488355328) ∧ ∀ w1 : World, w1 = w.alloc (.cells (zeroRow [(.int .u8 0)] (32 : Int).toNat).toArray 5 (0, 0)) →
  ∃ vI : Int → Nat → World → Prop, (∃ vk_2 : Nat, vI 0 vk_2 w1) ∧
  ∀ (jk : Nat → Value) (i : Int), ∀ (vk : Nat) (w2 : World), vI i vk w2 →
  (decide (i < (((32 : Int).toNat : Nat) : Int)) = true →
  (0 ≤ i ∧ i < (((32 : Int).toNat : Nat) : Int)) ∧
  (((∃ u, w2.cell? ((⟨w.heap.size, 0, none⟩ : Addr).add (i.toNat * 1)) = some u) ∧ w2.frozen? ((⟨w.heap.size, 0, none⟩ : Addr).add (i.toNat * 1)) = false)) ∧ ∀ w3 : World, w3 = (w2.setCell ((⟨w.heap.size, 0, none⟩ : Addr).add (i.toNat * 1)) (.int .u8 b)) →
  ∃ vk_1 : Nat, vk_1 < vk ∧ vI (IntKind.i64.wrap (i + 1)) vk_1 w3) ∧
  (decide (i < (((32 : Int).toNat : Nat) : Int)) = false →
  ∃ (x17 : ByteArray), ∃ w4 : World, (convert 22 9 (.slice (some (⟨w.heap.size, 0, none⟩ : Addr)) ((32 : Int).toNat) ((32 : Int).toNat))).run Try.prog w2 = .ok (.string x17) w4 ∧
  R (.string x17) w4)
theorem coadjutorlaw05_of.vc_eq (b : Int) (w : World) (R : Value → World → Prop) : fnV Try.prog Try.f29 (.lp [(4, some (.int .i64)), (6, none), (7, none), (8, none), (9, none), (10, none), (11, none), (12, none), (13, none), (14, none), (15, none)] (.c .nil .nil)) [(.int .u8 b)] w R = coadjutorlaw05_of.vc b w R := by kernel_rfl
theorem coadjutorlaw05_of.calls (b : Int) {w : World} {R : Value → World → Prop} (h : coadjutorlaw05_of.vc b w R) : Calls Try.prog 29 #[(.int .u8 b)] w (Ret R) :=
  calls_V fit Try.func29 (.lp [(4, some (.int .i64)), (6, none), (7, none), (8, none), (9, none), (10, none), (11, none), (12, none), (13, none), (14, none), (15, none)] (.c .nil .nil)) (by rw [show (#[(.int .u8 b)] : Array Value).toList = [(.int .u8 b)] from rfl, coadjutorlaw05_of.vc_eq]; exact h)
/-- function 23 -/
def coadjutorlaw05_awake.vc (w : World) (R : Value → World → Prop) : Prop :=
  Calls Try.prog 9 #[(.int .i64 4)] w (Ret fun v w1 => ∃ (x9 : Option Addr), v = (.pointer x9) ∧
  Calls Try.prog 24 #[(.pointer x9), (.int .i64 2), (.int .i64 2)] w1 (Ret fun v_1 w2 => ∃ (x12_0 : Option Addr), ∃ (x12_1 : Int), v_1 = (.tuple #[(.pointer x12_0), (.int .i64 x12_1)]) ∧
  ((x12_1 != (0 : Int)) = true →
  R (.bool false) w2) ∧
  ((x12_1 != (0 : Int)) = false →
  (x12_0.isNone = true →
  R (.bool false) w2) ∧
  (x12_0.isNone = false →
  Calls Try.prog 29 #[(.int .u8 97)] w2 (Ret fun v_2 w3 => ∃ (x22 : ByteArray), v_2 = (.string x22) ∧
  Calls Try.prog 28 #[(.pointer x12_0), (.int .i64 1), (.string x22)] w3 (Ret fun v_3 w4 => ∃ (x23 : Int), v_3 = (.int .i64 x23) ∧
  Calls Try.prog 15 #[(.pointer x9), (.int .i64 3)] w4 (Ret fun v_4 w5 => ∃ (x26_0 : ByteArray), ∃ (x26_1 : Int), v_4 = (.tuple #[(.string x26_0), (.int .i64 x26_1)]) ∧
  Calls Try.prog 38 #[(.pointer x12_0), (.int .i64 2)] w5 (Ret fun v_5 w6 => ∃ (x31_0 : ByteArray), ∃ (x31_1 : Int), v_5 = (.tuple #[(.string x31_0), (.int .i64 x31_1)]) ∧
  ((x23 == (0 : Int)) = true →
  Calls Try.prog 29 #[(.int .u8 97)] w6 (Ret fun v_6 w7 => ∃ (x38 : ByteArray), v_6 = (.string x38) ∧
  ((x26_0.toList == x38.toList) = true →
  ((x26_1 == (0 : Int)) = true →
  ((x31_1 == (3 : Int)) = true →
  Calls Try.prog 27 #[(.pointer x12_0)] w7 (Ret fun v_7 w8 => ∃ (x51 : Int), v_7 = (.int .i64 x51) ∧
  ((x51 == (2 : Int)) = true →
  someV x12_0 fun p =>
  ∃ (x58 : Option Addr), w8.cell? p = some (.pointer x58) ∧
  Calls Try.prog 21 #[(.pointer x58)] w8 (Ret fun v_8 w9 => ∃ (x59 : Bool), v_8 = (.bool x59) ∧
  (x59 = true →
  someV x12_0 fun p_1 =>
  ∃ (x65 : Option Addr), w9.cell? p_1 = some (.pointer x65) ∧
  Calls Try.prog 10 #[(.pointer x65)] w9 (Ret fun v_9 w10 => ∃ (x66 : Int), v_9 = (.int .i64 x66) ∧
  ((x66 == (0 : Int)) = true →
  someV x12_0 fun p_2 =>
  ∃ (x73 : Option Addr), w10.cell? p_2 = some (.pointer x73) ∧
  Calls Try.prog 18 #[(.pointer x73)] w10 (Ret fun v_10 w11 => ∃ (x74 : ByteArray), v_10 = (.string x74) ∧
  Calls Try.prog 18 #[(.pointer x9)] w11 (Ret fun v_11 w12 => ∃ (x76 : ByteArray), v_11 = (.string x76) ∧
  R (.bool (x74.toList == x76.toList)) w12))) ∧
  ((x66 == (0 : Int)) = false →
  R (.bool false) w10))) ∧
  (x59 = false →
  R (.bool false) w9))) ∧
  ((x51 == (2 : Int)) = false →
  R (.bool false) w8))) ∧
  ((x31_1 == (3 : Int)) = false →
  R (.bool false) w7)) ∧
  ((x26_1 == (0 : Int)) = false →
  R (.bool false) w7)) ∧
  ((x26_0.toList == x38.toList) = false →
  R (.bool false) w7))) ∧
  ((x23 == (0 : Int)) = false →
  R (.bool false) w6)))))))))
theorem coadjutorlaw05_awake.vc_eq (w : World) (R : Value → World → Prop) : fnV Try.prog Try.f23 (.at_ 3 2 (.k .nil) (.c .nil (.at_ 8 2 (.at_ 8 7 (.at_ 8 11 (.at_ 8 15 (.at_ 8 20 (.at_ 8 27 (.at_ 8 35 .nil .nil) .nil) .nil) .nil) .nil) .nil) .nil))) [] w R = coadjutorlaw05_awake.vc  w R := by kernel_rfl
theorem coadjutorlaw05_awake.calls {w : World} {R : Value → World → Prop} (h : coadjutorlaw05_awake.vc  w R) : Calls Try.prog 23 #[] w (Ret R) :=
  calls_V fit Try.func23 (.at_ 3 2 (.k .nil) (.c .nil (.at_ 8 2 (.at_ 8 7 (.at_ 8 11 (.at_ 8 15 (.at_ 8 20 (.at_ 8 27 (.at_ 8 35 .nil .nil) .nil) .nil) .nil) .nil) .nil) .nil))) (by rw [show (#[] : Array Value).toList = [] from rfl, coadjutorlaw05_awake.vc_eq]; exact h)
end Go.Proofs.Ytpefegcdcojokaa.Vc
