import Derived.Test.YtamkffjmggbekaaVc
import Derived.Test.YtamkffjmggbekaaH
import Derived.Test.YtamkffjmggbekaaProg
import Derived.KernelRfl
set_option linter.unusedVariables false
set_option maxRecDepth 100000
namespace Go.Proofs.Ytamkffjmggbekaa.Vc
open Go Go.Proofs Go.Proofs.Ytamkffjmggbekaa.V
/-- function 75 -/
def pen_Pen_Byte.vc (pB : Nat) (listA : Option Addr) (listN : Nat) (listC : Nat) (w : World) (R : Value → World → Prop) : Prop :=
  Calls Try.prog 103 #[(.pointer (some (⟨pB, 0, none⟩ : Addr))), (.slice listA listN listC)] w (Ret fun v w1 => ∃ (x10_0 : Int), ∃ (x10_1 : Value), v = (.tuple #[(.int .i64 x10_0), x10_1]) ∧
  R (.tuple #[]) w1)
theorem pen_Pen_Byte.vc_eq (pB : Nat) (listA : Option Addr) (listN : Nat) (listC : Nat) (w : World) (R : Value → World → Prop) : fnV Try.prog Try.f75 (.k .nil) [(.pointer (some (⟨pB, 0, none⟩ : Addr))), (.slice listA listN listC)] w R = pen_Pen_Byte.vc pB listA listN listC w R := by kernel_rfl
theorem pen_Pen_Byte.calls (pB : Nat) (listA : Option Addr) (listN : Nat) (listC : Nat) {w : World} {R : Value → World → Prop} (h : pen_Pen_Byte.vc pB listA listN listC w R) : Calls Try.prog 75 #[(.pointer (some (⟨pB, 0, none⟩ : Addr))), (.slice listA listN listC)] w (Ret R) :=
  calls_V fit Try.func75 (.k .nil) (by rw [show (#[(.pointer (some (⟨pB, 0, none⟩ : Addr))), (.slice listA listN listC)] : Array Value).toList = [(.pointer (some (⟨pB, 0, none⟩ : Addr))), (.slice listA listN listC)] from rfl, pen_Pen_Byte.vc_eq]; exact h)
/-- function 63 -/
def pen_Pen_Num.vc (pB : Nat) (listA : Option Addr) (listN : Nat) (listC : Nat) (w : World) (R : Value → World → Prop) : Prop :=
  ∃ vI : Int → Nat → World → Prop, (∃ vk_2 : Nat, vI 0 vk_2 w) ∧
  ∀ (jk : Nat → Value) (x11 : Int), ∀ (vk : Nat) (w1 : World), vI x11 vk w1 →
  (decide (x11 < ((listN : Nat) : Int)) = true →
  (0 ≤ x11 ∧ x11 < ((listN : Nat) : Int)) ∧ someV listA fun p =>
  ∃ (x14 : Int), w1.cell? (p.add (x11.toNat * 1)) = some (.int .i64 x14) ∧
  ∃ J : Int → World → Prop, ((decide (x14 < (0 : Int)) = true →
  (((∃ u, w1.cell? (⟨pB, 2, none⟩ : Addr) = some u) ∧ w1.frozen? (⟨pB, 2, none⟩ : Addr) = false)) ∧ ∀ w2 : World, w2 = (w1.setCell (⟨pB, 2, none⟩ : Addr) (.bool true)) →
  J 0 w2) ∧
  (decide (x14 < (0 : Int)) = false →
  (decide (x14 ≥ (4294967296 : Int)) = true →
  (((∃ u, w1.cell? (⟨pB, 2, none⟩ : Addr) = some u) ∧ w1.frozen? (⟨pB, 2, none⟩ : Addr) = false)) ∧ ∀ w3 : World, w3 = (w1.setCell (⟨pB, 2, none⟩ : Addr) (.bool true)) →
  J 0 w3) ∧
  (decide (x14 ≥ (4294967296 : Int)) = false →
  J x14 w1))) ∧
  ∀ (jk : Nat → Value) (n : Int), ∀ w4 : World, J n w4 →
  ∃ vI_1 : Int → Nat → World → Prop, (∃ vk_5 : Nat, vI_1 0 vk_5 w4) ∧
  ∀ (jk : Nat → Value) (x24 : Int), ∀ (vk_3 : Nat) (w5 : World), vI_1 x24 vk_3 w5 →
  (decide (x24 < (4 : Int)) = true →
  ∃ vS : World → Prop, ∀ w6 : World, w6 = w5.drew → vS w6 ∧
  0 ≤ (IntKind.i64.wrap (8 * x24)) ∧
  Calls Try.prog 96 #[(.pointer (some (⟨pB, 0, none⟩ : Addr))), (.int .u8 (IntKind.u8.wrap (Int.fdiv n (2 ^ (min (IntKind.i64.wrap (8 * x24)).toNat IntKind.i64.bits)))))] w6 (Ret fun v w7 => ∃ (x35 : Value), v = x35 ∧
  vS w7 ∧
  ∃ vk_4 : Nat, vk_4 < vk_3 ∧ vI_1 (IntKind.i64.wrap (x24 + 1)) vk_4 w7)) ∧
  (decide (x24 < (4 : Int)) = false →
  ∃ vk_1 : Nat, vk_1 < vk ∧ vI (IntKind.i64.wrap (x11 + 1)) vk_1 w5)) ∧
  (decide (x11 < ((listN : Nat) : Int)) = false →
  R (.tuple #[]) w1)
theorem pen_Pen_Num.vc_eq (pB : Nat) (listA : Option Addr) (listN : Nat) (listC : Nat) (w : World) (R : Value → World → Prop) : fnV Try.prog Try.f63 (.k (.lp [(5, none), (6, none), (11, some (.int .i64)), (12, none), (13, none), (14, none), (15, none), (16, none), (17, none), (18, none), (19, none), (20, none), (21, none), (22, none), (23, none), (24, none), (25, none), (26, none), (27, none), (28, none), (29, none), (30, none), (31, none), (32, none), (33, none), (34, none), (35, none), (36, none), (37, none)] (.c (.cut 2 [(5, some (.int .i64)), (15, none), (16, none), (17, none), (18, none), (19, none), (20, none), (21, none), (22, none), (23, none)] (.at_ 4 2 (.k .nil) (.c .nil .nil)) (.lp [(6, none), (24, some (.int .i64)), (25, none), (26, none), (27, none), (28, none), (29, none), (30, none), (31, none), (32, none), (33, none), (34, none), (35, none), (36, none)] (.c (.tk 0 (.tk 1 (.tk 2 (.tk 3 (.tk 4 (.tk 5 (.tk 6 (.tk 7 (.alt 8 (.fin .nil) .nil))))))))) .nil))) .nil))) [(.pointer (some (⟨pB, 0, none⟩ : Addr))), (.slice listA listN listC)] w R = pen_Pen_Num.vc pB listA listN listC w R := by kernel_rfl
theorem pen_Pen_Num.calls (pB : Nat) (listA : Option Addr) (listN : Nat) (listC : Nat) {w : World} {R : Value → World → Prop} (h : pen_Pen_Num.vc pB listA listN listC w R) : Calls Try.prog 63 #[(.pointer (some (⟨pB, 0, none⟩ : Addr))), (.slice listA listN listC)] w (Ret R) :=
  calls_V fit Try.func63 (.k (.lp [(5, none), (6, none), (11, some (.int .i64)), (12, none), (13, none), (14, none), (15, none), (16, none), (17, none), (18, none), (19, none), (20, none), (21, none), (22, none), (23, none), (24, none), (25, none), (26, none), (27, none), (28, none), (29, none), (30, none), (31, none), (32, none), (33, none), (34, none), (35, none), (36, none), (37, none)] (.c (.cut 2 [(5, some (.int .i64)), (15, none), (16, none), (17, none), (18, none), (19, none), (20, none), (21, none), (22, none), (23, none)] (.at_ 4 2 (.k .nil) (.c .nil .nil)) (.lp [(6, none), (24, some (.int .i64)), (25, none), (26, none), (27, none), (28, none), (29, none), (30, none), (31, none), (32, none), (33, none), (34, none), (35, none), (36, none)] (.c (.tk 0 (.tk 1 (.tk 2 (.tk 3 (.tk 4 (.tk 5 (.tk 6 (.tk 7 (.alt 8 (.fin .nil) .nil))))))))) .nil))) .nil))) (by rw [show (#[(.pointer (some (⟨pB, 0, none⟩ : Addr))), (.slice listA listN listC)] : Array Value).toList = [(.pointer (some (⟨pB, 0, none⟩ : Addr))), (.slice listA listN listC)] from rfl, pen_Pen_Num.vc_eq]; exact h)
/-- function 64 -/
def pen_Pen_Text.vc (pB : Nat) (listA : Option Addr) (listN : Nat) (listC : Nat) (w : World) (R : Value → World → Prop) : Prop :=
  ∃ vI : Int → Nat → World → Prop, (∃ vk_2 : Nat, vI 0 vk_2 w) ∧
  ∀ (jk : Nat → Value) (x8 : Int), ∀ (vk : Nat) (w1 : World), vI x8 vk w1 →
  (decide (x8 < ((listN : Nat) : Int)) = true →
  (0 ≤ x8 ∧ x8 < ((listN : Nat) : Int)) ∧ someV listA fun p =>
  ∃ (x11 : ByteArray), w1.cell? (p.add (x8.toNat * 1)) = some (.string x11) ∧
  ∀ w2 : World, w2 = w1.alloc (.cells #[(.int .i64 ((x11.size : Nat) : Int))] 3 (0, 0)) →
  Calls Try.prog 63 #[(.pointer (some (⟨pB, 0, none⟩ : Addr))), (.slice (some (⟨w1.heap.size, 0, none⟩ : Addr)) 1 1)] w2 (Ret fun v w3 => v = .tuple #[] ∧
  ∃ (x19A : Option Addr), ∃ (x19N : Nat), ∃ (x19C : Nat), ∃ w4 : World, (convert 9 99 (.string x11)).run Try.prog w3 = .ok (.slice x19A x19N x19C) w4 ∧
  Calls Try.prog 75 #[(.pointer (some (⟨pB, 0, none⟩ : Addr))), (.slice x19A x19N x19C)] w4 (Ret fun v_1 w5 => v_1 = .tuple #[] ∧
  ∃ vk_1 : Nat, vk_1 < vk ∧ vI (IntKind.i64.wrap (x8 + 1)) vk_1 w5))) ∧
  (decide (x8 < ((listN : Nat) : Int)) = false →
  R (.tuple #[]) w1)
theorem pen_Pen_Text.vc_eq (pB : Nat) (listA : Option Addr) (listN : Nat) (listC : Nat) (w : World) (R : Value → World → Prop) : fnV Try.prog Try.f64 (.lp [(5, none), (8, some (.int .i64)), (9, none), (10, none), (11, none), (12, none), (13, none), (14, none), (15, none), (16, none), (17, none), (18, none), (19, none), (20, none), (21, none)] (.c .nil .nil)) [(.pointer (some (⟨pB, 0, none⟩ : Addr))), (.slice listA listN listC)] w R = pen_Pen_Text.vc pB listA listN listC w R := by kernel_rfl
theorem pen_Pen_Text.calls (pB : Nat) (listA : Option Addr) (listN : Nat) (listC : Nat) {w : World} {R : Value → World → Prop} (h : pen_Pen_Text.vc pB listA listN listC w R) : Calls Try.prog 64 #[(.pointer (some (⟨pB, 0, none⟩ : Addr))), (.slice listA listN listC)] w (Ret R) :=
  calls_V fit Try.func64 (.lp [(5, none), (8, some (.int .i64)), (9, none), (10, none), (11, none), (12, none), (13, none), (14, none), (15, none), (16, none), (17, none), (18, none), (19, none), (20, none), (21, none)] (.c .nil .nil)) (by rw [show (#[(.pointer (some (⟨pB, 0, none⟩ : Addr))), (.slice listA listN listC)] : Array Value).toList = [(.pointer (some (⟨pB, 0, none⟩ : Addr))), (.slice listA listN listC)] from rfl, pen_Pen_Text.vc_eq]; exact h)
/-- function 65 -/
def pen_Pen_Bytes.vc (pB : Nat) (w : World) (R : Value → World → Prop) : Prop :=
  Calls Try.prog 97 #[(.pointer (some (⟨pB, 0, none⟩ : Addr)))] w (Ret fun v w1 => ∃ (x8 : ByteArray), v = (.string x8) ∧
  R (.string x8) w1)
theorem pen_Pen_Bytes.vc_eq (pB : Nat) (w : World) (R : Value → World → Prop) : fnV Try.prog Try.f65 (.k .nil) [(.pointer (some (⟨pB, 0, none⟩ : Addr)))] w R = pen_Pen_Bytes.vc pB w R := by kernel_rfl
theorem pen_Pen_Bytes.calls (pB : Nat) {w : World} {R : Value → World → Prop} (h : pen_Pen_Bytes.vc pB w R) : Calls Try.prog 65 #[(.pointer (some (⟨pB, 0, none⟩ : Addr)))] w (Ret R) :=
  calls_V fit Try.func65 (.k .nil) (by rw [show (#[(.pointer (some (⟨pB, 0, none⟩ : Addr)))] : Array Value).toList = [(.pointer (some (⟨pB, 0, none⟩ : Addr)))] from rfl, pen_Pen_Bytes.vc_eq]; exact h)
/-- function 68 -/
def pen_Of.vc (s : ByteArray) (w : World) (R : Value → World → Prop) : Prop :=
  ∀ w1 : World, w1 = w.alloc (.cells #[(.string s), (.bool false)] 156 (0, 0)) →
  R (.pointer (some (⟨w.heap.size, 0, none⟩ : Addr))) w1
theorem pen_Of.vc_eq (s : ByteArray) (w : World) (R : Value → World → Prop) : fnV Try.prog Try.f68 .nil [(.string s)] w R = pen_Of.vc s w R := by kernel_rfl
theorem pen_Of.calls (s : ByteArray) {w : World} {R : Value → World → Prop} (h : pen_Of.vc s w R) : Calls Try.prog 68 #[(.string s)] w (Ret R) :=
  calls_V fit Try.func68 .nil (by rw [show (#[(.string s)] : Array Value).toList = [(.string s)] from rfl, pen_Of.vc_eq]; exact h)
/-- function 99 -/
def pen_Eye_fail.vc (eB : Nat) (w : World) (R : Value → World → Prop) : Prop :=
  (((∃ u, w.cell? (⟨eB, 0, none⟩ : Addr) = some u) ∧ w.frozen? (⟨eB, 0, none⟩ : Addr) = false)) ∧ ∀ w1 : World, w1 = (w.setCell (⟨eB, 0, none⟩ : Addr) (.string (ByteArray.mk #[]))) →
  (((∃ u, w1.cell? (⟨eB, 1, none⟩ : Addr) = some u) ∧ w1.frozen? (⟨eB, 1, none⟩ : Addr) = false)) ∧ ∀ w2 : World, w2 = (w1.setCell (⟨eB, 1, none⟩ : Addr) (.bool true)) →
  R (.tuple #[]) w2
theorem pen_Eye_fail.vc_eq (eB : Nat) (w : World) (R : Value → World → Prop) : fnV Try.prog Try.f99 .nil [(.pointer (some (⟨eB, 0, none⟩ : Addr)))] w R = pen_Eye_fail.vc eB w R := by kernel_rfl
theorem pen_Eye_fail.calls (eB : Nat) {w : World} {R : Value → World → Prop} (h : pen_Eye_fail.vc eB w R) : Calls Try.prog 99 #[(.pointer (some (⟨eB, 0, none⟩ : Addr)))] w (Ret R) :=
  calls_V fit Try.func99 .nil (by rw [show (#[(.pointer (some (⟨eB, 0, none⟩ : Addr)))] : Array Value).toList = [(.pointer (some (⟨eB, 0, none⟩ : Addr)))] from rfl, pen_Eye_fail.vc_eq]; exact h)
/-- function 98 -/
def pen_Eye_take.vc (eB : Nat) (n : Int) (w : World) (R : Value → World → Prop) : Prop :=
  ∃ (x12 : Bool), w.cell? (⟨eB, 1, none⟩ : Addr) = some (.bool x12) ∧
  (x12 = true →
  Calls Try.prog 99 #[(.pointer (some (⟨eB, 0, none⟩ : Addr)))] w (Ret fun v w1 => v = .tuple #[] ∧
  R (.tuple #[(.string (ByteArray.mk #[])), (.bool false)]) w1)) ∧
  (x12 = false →
  ∃ (x18 : ByteArray), w.cell? (⟨eB, 0, none⟩ : Addr) = some (.string x18) ∧
  (decide (n > ((x18.size : Nat) : Int)) = true →
  Calls Try.prog 99 #[(.pointer (some (⟨eB, 0, none⟩ : Addr)))] w (Ret fun v_1 w2 => v_1 = .tuple #[] ∧
  R (.tuple #[(.string (ByteArray.mk #[])), (.bool false)]) w2)) ∧
  (decide (n > ((x18.size : Nat) : Int)) = false →
  ∃ (x27 : ByteArray), w.cell? (⟨eB, 0, none⟩ : Addr) = some (.string x27) ∧
  (0 ≤ n ∧ n ≤ ((x27.size : Nat) : Int)) ∧
  ∃ (x34 : ByteArray), w.cell? (⟨eB, 0, none⟩ : Addr) = some (.string x34) ∧
  (0 ≤ n ∧ n ≤ ((x34.size : Nat) : Int)) ∧
  (((∃ u, w.cell? (⟨eB, 0, none⟩ : Addr) = some u) ∧ w.frozen? (⟨eB, 0, none⟩ : Addr) = false)) ∧ ∀ w3 : World, w3 = (w.setCell (⟨eB, 0, none⟩ : Addr) (.string (x34.extract n.toNat x34.size))) →
  R (.tuple #[(.string (x27.extract 0 n.toNat)), (.bool true)]) w3))
theorem pen_Eye_take.vc_eq (eB : Nat) (n : Int) (w : World) (R : Value → World → Prop) : fnV Try.prog Try.f98 (.k (.at_ 3 4 (.k .nil) (.c .nil .nil))) [(.pointer (some (⟨eB, 0, none⟩ : Addr))), (.int .i64 n)] w R = pen_Eye_take.vc eB n w R := by kernel_rfl
theorem pen_Eye_take.calls (eB : Nat) (n : Int) {w : World} {R : Value → World → Prop} (h : pen_Eye_take.vc eB n w R) : Calls Try.prog 98 #[(.pointer (some (⟨eB, 0, none⟩ : Addr))), (.int .i64 n)] w (Ret R) :=
  calls_V fit Try.func98 (.k (.at_ 3 4 (.k .nil) (.c .nil .nil))) (by rw [show (#[(.pointer (some (⟨eB, 0, none⟩ : Addr))), (.int .i64 n)] : Array Value).toList = [(.pointer (some (⟨eB, 0, none⟩ : Addr))), (.int .i64 n)] from rfl, pen_Eye_take.vc_eq]; exact h)
/-- function 82 -/
def pen_Eye_Byte.vc (eB : Nat) (w : World) (R : Value → World → Prop) : Prop :=
  Calls Try.prog 98 #[(.pointer (some (⟨eB, 0, none⟩ : Addr))), (.int .i64 1)] w (Ret fun v w1 => ∃ (x7_0 : ByteArray), ∃ (x7_1 : Bool), v = (.tuple #[(.string x7_0), (.bool x7_1)]) ∧
  ((!x7_1) = true →
  R (.int .u8 0) w1) ∧
  ((!x7_1) = false →
  (0 ≤ (0 : Int) ∧ (0 : Int) < ((x7_0.size : Nat) : Int)) ∧
  R (.int .u8 (bt x7_0 0)) w1))
theorem pen_Eye_Byte.vc_eq (eB : Nat) (w : World) (R : Value → World → Prop) : fnV Try.prog Try.f82 (.c .nil .nil) [(.pointer (some (⟨eB, 0, none⟩ : Addr)))] w R = pen_Eye_Byte.vc eB w R := by kernel_rfl
theorem pen_Eye_Byte.calls (eB : Nat) {w : World} {R : Value → World → Prop} (h : pen_Eye_Byte.vc eB w R) : Calls Try.prog 82 #[(.pointer (some (⟨eB, 0, none⟩ : Addr)))] w (Ret R) :=
  calls_V fit Try.func82 (.c .nil .nil) (by rw [show (#[(.pointer (some (⟨eB, 0, none⟩ : Addr)))] : Array Value).toList = [(.pointer (some (⟨eB, 0, none⟩ : Addr)))] from rfl, pen_Eye_Byte.vc_eq]; exact h)
/-- function 69 -/
def pen_Eye_Num.vc (eB : Nat) (most : Int) (w : World) (R : Value → World → Prop) : Prop :=
  Calls Try.prog 98 #[(.pointer (some (⟨eB, 0, none⟩ : Addr))), (.int .i64 4)] w (Ret fun v w1 => ∃ (x12_0 : ByteArray), ∃ (x12_1 : Bool), v = (.tuple #[(.string x12_0), (.bool x12_1)]) ∧
  ((!x12_1) = true →
  R (.int .i64 0) w1) ∧
  ((!x12_1) = false →
  ∃ (x18A : Option Addr), ∃ (x18N : Nat), ∃ (x18C : Nat), ∃ w2 : World, (convert 9 99 (.string x12_0)).run Try.prog w1 = .ok (.slice x18A x18N x18C) w2 ∧
  ∃ vI : Int → Int → Nat → World → Prop, (∃ vk_2 : Nat, vI 0 0 vk_2 w2) ∧
  ∀ (jk : Nat → Value) (n : Int) (x20 : Int), ∀ (vk : Nat) (w3 : World), vI n x20 vk w3 →
  (decide (x20 < ((x18N : Nat) : Int)) = true →
  (0 ≤ x20 ∧ x20 < ((x18N : Nat) : Int)) ∧ someV x18A fun p =>
  ∃ (x24 : Int), w3.cell? (p.add (x20.toNat * 1)) = some (.int .u8 x24) ∧
  0 ≤ (IntKind.i64.wrap (8 * x20)) ∧
  ∃ vk_1 : Nat, vk_1 < vk ∧ vI (Go.bits .or .i64 n (IntKind.i64.wrap ((IntKind.i64.wrap x24) * 2 ^ (min (IntKind.i64.wrap (8 * x20)).toNat IntKind.i64.bits)))) (IntKind.i64.wrap (x20 + 1)) vk_1 w3) ∧
  (decide (x20 < ((x18N : Nat) : Int)) = false →
  (decide (n > most) = true →
  Calls Try.prog 99 #[(.pointer (some (⟨eB, 0, none⟩ : Addr)))] w3 (Ret fun v_1 w4 => v_1 = .tuple #[] ∧
  R (.int .i64 0) w4)) ∧
  (decide (n > most) = false →
  R (.int .i64 n) w3))))
theorem pen_Eye_Num.vc_eq (eB : Nat) (most : Int) (w : World) (R : Value → World → Prop) : fnV Try.prog Try.f69 (.c .nil (.lp [(7, some (.int .i64)), (8, none), (9, none), (20, some (.int .i64)), (21, none), (22, none), (23, none), (24, none), (25, none), (26, none), (27, none), (28, none), (29, none), (30, none), (31, none), (32, none)] (.c .nil (.c .nil .nil)))) [(.pointer (some (⟨eB, 0, none⟩ : Addr))), (.int .i64 most)] w R = pen_Eye_Num.vc eB most w R := by kernel_rfl
theorem pen_Eye_Num.calls (eB : Nat) (most : Int) {w : World} {R : Value → World → Prop} (h : pen_Eye_Num.vc eB most w R) : Calls Try.prog 69 #[(.pointer (some (⟨eB, 0, none⟩ : Addr))), (.int .i64 most)] w (Ret R) :=
  calls_V fit Try.func69 (.c .nil (.lp [(7, some (.int .i64)), (8, none), (9, none), (20, some (.int .i64)), (21, none), (22, none), (23, none), (24, none), (25, none), (26, none), (27, none), (28, none), (29, none), (30, none), (31, none), (32, none)] (.c .nil (.c .nil .nil)))) (by rw [show (#[(.pointer (some (⟨eB, 0, none⟩ : Addr))), (.int .i64 most)] : Array Value).toList = [(.pointer (some (⟨eB, 0, none⟩ : Addr))), (.int .i64 most)] from rfl, pen_Eye_Num.vc_eq]; exact h)
/-- function 70 -/
def pen_Eye_Text.vc (eB : Nat) (most : Int) (w : World) (R : Value → World → Prop) : Prop :=
  Calls Try.prog 69 #[(.pointer (some (⟨eB, 0, none⟩ : Addr))), (.int .i64 most)] w (Ret fun v w1 => ∃ (x10 : Int), v = (.int .i64 x10) ∧
  Calls Try.prog 98 #[(.pointer (some (⟨eB, 0, none⟩ : Addr))), (.int .i64 x10)] w1 (Ret fun v_1 w2 => ∃ (x14_0 : ByteArray), ∃ (x14_1 : Bool), v_1 = (.tuple #[(.string x14_0), (.bool x14_1)]) ∧
  R (.string x14_0) w2))
theorem pen_Eye_Text.vc_eq (eB : Nat) (most : Int) (w : World) (R : Value → World → Prop) : fnV Try.prog Try.f70 .nil [(.pointer (some (⟨eB, 0, none⟩ : Addr))), (.int .i64 most)] w R = pen_Eye_Text.vc eB most w R := by kernel_rfl
theorem pen_Eye_Text.calls (eB : Nat) (most : Int) {w : World} {R : Value → World → Prop} (h : pen_Eye_Text.vc eB most w R) : Calls Try.prog 70 #[(.pointer (some (⟨eB, 0, none⟩ : Addr))), (.int .i64 most)] w (Ret R) :=
  calls_V fit Try.func70 .nil (by rw [show (#[(.pointer (some (⟨eB, 0, none⟩ : Addr))), (.int .i64 most)] : Array Value).toList = [(.pointer (some (⟨eB, 0, none⟩ : Addr))), (.int .i64 most)] from rfl, pen_Eye_Text.vc_eq]; exact h)
/-- function 101 -/
def pen_Eye_Left.vc (eB : Nat) (w : World) (R : Value → World → Prop) : Prop :=
  ∃ (x8 : ByteArray), w.cell? (⟨eB, 0, none⟩ : Addr) = some (.string x8) ∧
  R (.int .i64 ((x8.size : Nat) : Int)) w
theorem pen_Eye_Left.vc_eq (eB : Nat) (w : World) (R : Value → World → Prop) : fnV Try.prog Try.f101 (.k .nil) [(.pointer (some (⟨eB, 0, none⟩ : Addr)))] w R = pen_Eye_Left.vc eB w R := by kernel_rfl
theorem pen_Eye_Left.calls (eB : Nat) {w : World} {R : Value → World → Prop} (h : pen_Eye_Left.vc eB w R) : Calls Try.prog 101 #[(.pointer (some (⟨eB, 0, none⟩ : Addr)))] w (Ret R) :=
  calls_V fit Try.func101 (.k .nil) (by rw [show (#[(.pointer (some (⟨eB, 0, none⟩ : Addr)))] : Array Value).toList = [(.pointer (some (⟨eB, 0, none⟩ : Addr)))] from rfl, pen_Eye_Left.vc_eq]; exact h)
/-- function 100 -/
def pen_Eye_Err.vc (eB : Nat) (w : World) (R : Value → World → Prop) : Prop :=
  ∃ (x10 : Bool), w.cell? (⟨eB, 1, none⟩ : Addr) = some (.bool x10) ∧
  (x10 = true →
  R (.int .i64 5) w) ∧
  (x10 = false →
  R (.int .i64 0) w)
theorem pen_Eye_Err.vc_eq (eB : Nat) (w : World) (R : Value → World → Prop) : fnV Try.prog Try.f100 (.k (.c .nil .nil)) [(.pointer (some (⟨eB, 0, none⟩ : Addr)))] w R = pen_Eye_Err.vc eB w R := by kernel_rfl
theorem pen_Eye_Err.calls (eB : Nat) {w : World} {R : Value → World → Prop} (h : pen_Eye_Err.vc eB w R) : Calls Try.prog 100 #[(.pointer (some (⟨eB, 0, none⟩ : Addr)))] w (Ret R) :=
  calls_V fit Try.func100 (.k (.c .nil .nil)) (by rw [show (#[(.pointer (some (⟨eB, 0, none⟩ : Addr)))] : Array Value).toList = [(.pointer (some (⟨eB, 0, none⟩ : Addr)))] from rfl, pen_Eye_Err.vc_eq]; exact h)
/-- function 71 -/
def pen_Eye_End.vc (eB : Nat) (w : World) (R : Value → World → Prop) : Prop :=
  Calls Try.prog 100 #[(.pointer (some (⟨eB, 0, none⟩ : Addr)))] w (Ret fun v w1 => ∃ (x5 : Int), v = (.int .i64 x5) ∧
  ((x5 != (0 : Int)) = true →
  R (.int .i64 x5) w1) ∧
  ((x5 != (0 : Int)) = false →
  Calls Try.prog 101 #[(.pointer (some (⟨eB, 0, none⟩ : Addr)))] w1 (Ret fun v_1 w2 => ∃ (x10 : Int), v_1 = (.int .i64 x10) ∧
  ((x10 == (0 : Int)) = true →
  R (.int .i64 x5) w2) ∧
  ((x10 == (0 : Int)) = false →
  R (.int .i64 5) w2))))
theorem pen_Eye_End.vc_eq (eB : Nat) (w : World) (R : Value → World → Prop) : fnV Try.prog Try.f71 (.at_ 2 2 (.k .nil) (.c .nil .nil)) [(.pointer (some (⟨eB, 0, none⟩ : Addr)))] w R = pen_Eye_End.vc eB w R := by kernel_rfl
theorem pen_Eye_End.calls (eB : Nat) {w : World} {R : Value → World → Prop} (h : pen_Eye_End.vc eB w R) : Calls Try.prog 71 #[(.pointer (some (⟨eB, 0, none⟩ : Addr)))] w (Ret R) :=
  calls_V fit Try.func71 (.at_ 2 2 (.k .nil) (.c .nil .nil)) (by rw [show (#[(.pointer (some (⟨eB, 0, none⟩ : Addr)))] : Array Value).toList = [(.pointer (some (⟨eB, 0, none⟩ : Addr)))] from rfl, pen_Eye_End.vc_eq]; exact h)
end Go.Proofs.Ytamkffjmggbekaa.Vc
