import Derived.Test.YtbadkcnemcnhfaaGreatDoorVc
import Derived.Test.YtbadkcnemcnhfaaGreatDoorH
import Derived.Test.YtbadkcnemcnhfaaGreatDoorProg
import Derived.KernelRfl
set_option linter.unusedVariables false
set_option maxRecDepth 100000
namespace Go.Proofs.YtbadkcnemcnhfaaGreatDoor.Vc
open Go Go.Proofs Go.Proofs.YtbadkcnemcnhfaaGreatDoor.V
/-- function 79 -/
def pen_Pen_Num.vc (pB : Nat) (listA : Option Addr) (listN : Nat) (listC : Nat) (w : World) (R : Value → World → Prop) : Prop :=
  ∃ vI : Int → Nat → World → Prop, (∃ vk_2 : Nat, vI 0 vk_2 w) ∧
  ∀ (jk : Nat → Value) (x11 : Int), ∀ (vk : Nat) (w1 : World), vI x11 vk w1 →
  (decide (x11 < ((listN : Nat) : Int)) = true →
  (0 ≤ x11 ∧ x11 < ((listN : Nat) : Int)) ∧ someV listA fun p =>
  ∃ (x14 : Int), w1.cell? (p.add (x11.toNat * 1)) = some (.int .i64 x14) ∧
  ∃ J : Int → World → Prop, ((decide (x14 < (0 : Int)) = true →
  (((∃ u, w1.cell? (⟨pB, 2, none⟩ : Addr) = some u) ∧ w1.frozen? (⟨pB, 2, none⟩ : Addr) = false)) ∧ ∀ w2 : World, w2 = (w1.setCell (⟨pB, 2, none⟩ : Addr) (.bool true)) →
  J 0 w2) ∧
  (decide (x14 < (0 : Int)) = false →
  (decide (x14 ≥ (4294967296 : Int)) = true →
  (((∃ u, w1.cell? (⟨pB, 2, none⟩ : Addr) = some u) ∧ w1.frozen? (⟨pB, 2, none⟩ : Addr) = false)) ∧ ∀ w3 : World, w3 = (w1.setCell (⟨pB, 2, none⟩ : Addr) (.bool true)) →
  J 0 w3) ∧
  (decide (x14 ≥ (4294967296 : Int)) = false →
  J x14 w1))) ∧
  ∀ (jk : Nat → Value) (n : Int), ∀ w4 : World, J n w4 →
  ∃ vI_1 : Int → Nat → World → Prop, (∃ vk_5 : Nat, vI_1 0 vk_5 w4) ∧
  ∀ (jk : Nat → Value) (x24 : Int), ∀ (vk_3 : Nat) (w5 : World), vI_1 x24 vk_3 w5 →
  (decide (x24 < (4 : Int)) = true →
  ∃ vS : World → Prop, ∀ w6 : World, w6 = w5.drew → vS w6 ∧
  0 ≤ (IntKind.i64.wrap (8 * x24)) ∧
  Calls Tryz.prog 101 #[(.pointer (some (⟨pB, 0, none⟩ : Addr))), (.int .u8 (IntKind.u8.wrap (Int.fdiv n (2 ^ (min (IntKind.i64.wrap (8 * x24)).toNat IntKind.i64.bits)))))] w6 (Ret fun v w7 => ∃ (x35 : Value), v = x35 ∧
  vS w7 ∧
  ∃ vk_4 : Nat, vk_4 < vk_3 ∧ vI_1 (IntKind.i64.wrap (x24 + 1)) vk_4 w7)) ∧
  (decide (x24 < (4 : Int)) = false →
  ∃ vk_1 : Nat, vk_1 < vk ∧ vI (IntKind.i64.wrap (x11 + 1)) vk_1 w5)) ∧
  (decide (x11 < ((listN : Nat) : Int)) = false →
  R (.tuple #[]) w1)
theorem pen_Pen_Num.vc_eq (pB : Nat) (listA : Option Addr) (listN : Nat) (listC : Nat) (w : World) (R : Value → World → Prop) : fnV Tryz.prog Tryz.f79 (.k (.lp [(5, none), (6, none), (11, some (.int .i64)), (12, none), (13, none), (14, none), (15, none), (16, none), (17, none), (18, none), (19, none), (20, none), (21, none), (22, none), (23, none), (24, none), (25, none), (26, none), (27, none), (28, none), (29, none), (30, none), (31, none), (32, none), (33, none), (34, none), (35, none), (36, none), (37, none)] (.c (.cut 2 [(5, some (.int .i64)), (15, none), (16, none), (17, none), (18, none), (19, none), (20, none), (21, none), (22, none), (23, none)] (.at_ 4 2 (.k .nil) (.c .nil .nil)) (.lp [(6, none), (24, some (.int .i64)), (25, none), (26, none), (27, none), (28, none), (29, none), (30, none), (31, none), (32, none), (33, none), (34, none), (35, none), (36, none)] (.c (.tk 0 (.tk 1 (.tk 2 (.tk 3 (.tk 4 (.tk 5 (.tk 6 (.tk 7 (.alt 8 (.fin .nil) .nil))))))))) .nil))) .nil))) [(.pointer (some (⟨pB, 0, none⟩ : Addr))), (.slice listA listN listC)] w R = pen_Pen_Num.vc pB listA listN listC w R := by kernel_rfl
theorem pen_Pen_Num.calls (pB : Nat) (listA : Option Addr) (listN : Nat) (listC : Nat) {w : World} {R : Value → World → Prop} (h : pen_Pen_Num.vc pB listA listN listC w R) : Calls Tryz.prog 79 #[(.pointer (some (⟨pB, 0, none⟩ : Addr))), (.slice listA listN listC)] w (Ret R) :=
  calls_V fit Tryz.func79 (.k (.lp [(5, none), (6, none), (11, some (.int .i64)), (12, none), (13, none), (14, none), (15, none), (16, none), (17, none), (18, none), (19, none), (20, none), (21, none), (22, none), (23, none), (24, none), (25, none), (26, none), (27, none), (28, none), (29, none), (30, none), (31, none), (32, none), (33, none), (34, none), (35, none), (36, none), (37, none)] (.c (.cut 2 [(5, some (.int .i64)), (15, none), (16, none), (17, none), (18, none), (19, none), (20, none), (21, none), (22, none), (23, none)] (.at_ 4 2 (.k .nil) (.c .nil .nil)) (.lp [(6, none), (24, some (.int .i64)), (25, none), (26, none), (27, none), (28, none), (29, none), (30, none), (31, none), (32, none), (33, none), (34, none), (35, none), (36, none)] (.c (.tk 0 (.tk 1 (.tk 2 (.tk 3 (.tk 4 (.tk 5 (.tk 6 (.tk 7 (.alt 8 (.fin .nil) .nil))))))))) .nil))) .nil))) (by rw [show (#[(.pointer (some (⟨pB, 0, none⟩ : Addr))), (.slice listA listN listC)] : Array Value).toList = [(.pointer (some (⟨pB, 0, none⟩ : Addr))), (.slice listA listN listC)] from rfl, pen_Pen_Num.vc_eq]; exact h)
/-- function 80 -/
def pen_Pen_Bytes.vc (pB : Nat) (w : World) (R : Value → World → Prop) : Prop :=
  Calls Tryz.prog 102 #[(.pointer (some (⟨pB, 0, none⟩ : Addr)))] w (Ret fun v w1 => ∃ (x8 : ByteArray), v = (.string x8) ∧
  R (.string x8) w1)
theorem pen_Pen_Bytes.vc_eq (pB : Nat) (w : World) (R : Value → World → Prop) : fnV Tryz.prog Tryz.f80 (.k .nil) [(.pointer (some (⟨pB, 0, none⟩ : Addr)))] w R = pen_Pen_Bytes.vc pB w R := by kernel_rfl
theorem pen_Pen_Bytes.calls (pB : Nat) {w : World} {R : Value → World → Prop} (h : pen_Pen_Bytes.vc pB w R) : Calls Tryz.prog 80 #[(.pointer (some (⟨pB, 0, none⟩ : Addr)))] w (Ret R) :=
  calls_V fit Tryz.func80 (.k .nil) (by rw [show (#[(.pointer (some (⟨pB, 0, none⟩ : Addr)))] : Array Value).toList = [(.pointer (some (⟨pB, 0, none⟩ : Addr)))] from rfl, pen_Pen_Bytes.vc_eq]; exact h)
end Go.Proofs.YtbadkcnemcnhfaaGreatDoor.Vc
