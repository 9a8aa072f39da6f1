import Derived.Test.YtpcddfhfchempaaVc
import Derived.Test.YtpcddfhfchempaaH
import Derived.Test.YtpcddfhfchempaaProg
import Derived.KernelRfl
set_option linter.unusedVariables false
set_option maxRecDepth 100000
namespace Go.Proofs.Ytpcddfhfchempaa.Vc
open Go Go.Proofs Go.Proofs.Ytpcddfhfchempaa.V
/-- function 58 -/
def pages_Pool_is.vc_nil (id : Int) (w : World) (R : Value → World → Prop) : Prop :=
  R (.bool false) w
theorem pages_Pool_is.vc_nil_eq (id : Int) (w : World) (R : Value → World → Prop) : fnV Try.prog Try.f58 .nil [(.pointer none), (.int .i64 id)] w R = pages_Pool_is.vc_nil id w R := by kernel_rfl
theorem pages_Pool_is.calls_nil (id : Int) {w : World} {R : Value → World → Prop} (h : pages_Pool_is.vc_nil id w R) : Calls Try.prog 58 #[(.pointer none), (.int .i64 id)] w (Ret R) :=
  calls_V fit Try.func58 .nil (by rw [show (#[(.pointer none), (.int .i64 id)] : Array Value).toList = [(.pointer none), (.int .i64 id)] from rfl, pages_Pool_is.vc_nil_eq]; exact h)
/-- function 17 -/
def pages_Pool_Take.vc_nil (version : Int) (w : World) (R : Value → World → Prop) : Prop :=
  R (.tuple #[(.int .i64 0), (.int .i64 2)]) w
theorem pages_Pool_Take.vc_nil_eq (version : Int) (w : World) (R : Value → World → Prop) : fnV Try.prog Try.f17 (.k .nil) [(.pointer none), (.int .i64 version)] w R = pages_Pool_Take.vc_nil version w R := by kernel_rfl
theorem pages_Pool_Take.calls_nil (version : Int) {w : World} {R : Value → World → Prop} (h : pages_Pool_Take.vc_nil version w R) : Calls Try.prog 17 #[(.pointer none), (.int .i64 version)] w (Ret R) :=
  calls_V fit Try.func17 (.k .nil) (by rw [show (#[(.pointer none), (.int .i64 version)] : Array Value).toList = [(.pointer none), (.int .i64 version)] from rfl, pages_Pool_Take.vc_nil_eq]; exact h)
/-- function 57 -/
def pages_Pool_check.vc_nil (listA : Option Addr) (listN : Nat) (listC : Nat) (w : World) (R : Value → World → Prop) : Prop :=
  ∀ w1 : World, w1 = w.alloc (.cells #[(.pointer none)] 25 (0, 0)) →
  ∃ (x6 : Option Addr), w1.cell? (⟨w.heap.size, 0, none⟩ : Addr) = some (.pointer x6) ∧
  (x6.isNone = true →
  R (.int .i64 2) w1) ∧
  (x6.isNone = false →
  Calls Try.prog 96 #[(.slice listA listN listC), (.func (.func 97) #[] #[(.pointer (some (⟨w.heap.size, 0, none⟩ : Addr)))])] w1 (Ret fun v w2 => ∃ (x11 : Bool), v = (.bool x11) ∧
  (x11 = true →
  R (.int .i64 8) w2) ∧
  (x11 = false →
  R (.int .i64 0) w2)))
theorem pages_Pool_check.vc_nil_eq (listA : Option Addr) (listN : Nat) (listC : Nat) (w : World) (R : Value → World → Prop) : fnV Try.prog Try.f57 (.c .nil (.c .nil .nil)) [(.pointer none), (.slice listA listN listC)] w R = pages_Pool_check.vc_nil listA listN listC w R := by kernel_rfl
theorem pages_Pool_check.calls_nil (listA : Option Addr) (listN : Nat) (listC : Nat) {w : World} {R : Value → World → Prop} (h : pages_Pool_check.vc_nil listA listN listC w R) : Calls Try.prog 57 #[(.pointer none), (.slice listA listN listC)] w (Ret R) :=
  calls_V fit Try.func57 (.c .nil (.c .nil .nil)) (by rw [show (#[(.pointer none), (.slice listA listN listC)] : Array Value).toList = [(.pointer none), (.slice listA listN listC)] from rfl, pages_Pool_check.vc_nil_eq]; exact h)
/-- function 13 -/
def pages_Pool_Share.vc_nil (listA : Option Addr) (listN : Nat) (listC : Nat) (w : World) (R : Value → World → Prop) : Prop :=
  Calls Try.prog 57 #[(.pointer none), (.slice listA listN listC)] w (Ret fun v w1 => ∃ (x10 : Int), v = (.int .i64 x10) ∧
  ((x10 != (0 : Int)) = true →
  R (.int .i64 x10) w1) ∧
  ((x10 != (0 : Int)) = false →
  ∃ vI : Int → Nat → World → Prop, (∃ vk_2 : Nat, vI 0 vk_2 w1) ∧
  ∀ (jk : Nat → Value) (x16 : Int), ∀ (vk : Nat) (w2 : World), vI x16 vk w2 →
  (decide (x16 < ((listN : Nat) : Int)) = true →
  (0 ≤ x16 ∧ x16 < ((listN : Nat) : Int)) ∧ someV listA fun p =>
  ∃ (x19 : Int), w2.cell? (p.add (x16.toNat * 1)) = some (.int .i64 x19) ∧
  False) ∧
  (decide (x16 < ((listN : Nat) : Int)) = false →
  R (.int .i64 0) w2)))
theorem pages_Pool_Share.vc_nil_eq (listA : Option Addr) (listN : Nat) (listC : Nat) (w : World) (R : Value → World → Prop) : fnV Try.prog Try.f13 (.c .nil (.lp [(7, none), (16, some (.int .i64)), (17, none), (18, none), (19, none), (20, none), (21, none), (22, none), (23, none), (24, none), (25, none), (26, none), (27, none), (28, none), (29, none), (30, none), (31, none)] (.c .nil .nil))) [(.pointer none), (.slice listA listN listC)] w R = pages_Pool_Share.vc_nil listA listN listC w R := by kernel_rfl
theorem pages_Pool_Share.calls_nil (listA : Option Addr) (listN : Nat) (listC : Nat) {w : World} {R : Value → World → Prop} (h : pages_Pool_Share.vc_nil listA listN listC w R) : Calls Try.prog 13 #[(.pointer none), (.slice listA listN listC)] w (Ret R) :=
  calls_V fit Try.func13 (.c .nil (.lp [(7, none), (16, some (.int .i64)), (17, none), (18, none), (19, none), (20, none), (21, none), (22, none), (23, none), (24, none), (25, none), (26, none), (27, none), (28, none), (29, none), (30, none), (31, none)] (.c .nil .nil))) (by rw [show (#[(.pointer none), (.slice listA listN listC)] : Array Value).toList = [(.pointer none), (.slice listA listN listC)] from rfl, pages_Pool_Share.vc_nil_eq]; exact h)
/-- function 14 -/
def pages_Pool_Drop.vc_nil (listA : Option Addr) (listN : Nat) (listC : Nat) (w : World) (R : Value → World → Prop) : Prop :=
  Calls Try.prog 57 #[(.pointer none), (.slice listA listN listC)] w (Ret fun v w1 => ∃ (x13 : Int), v = (.int .i64 x13) ∧
  ((x13 != (0 : Int)) = true →
  R (.int .i64 x13) w1) ∧
  ((x13 != (0 : Int)) = false →
  ∀ w2 : World, w2 = w1.alloc (.map #[] 0) →
  ∃ vI : Int → Nat → World → Prop, (∃ vk_2 : Nat, vI 0 vk_2 w2) ∧
  ∀ (jk : Nat → Value) (x20 : Int), ∀ (vk : Nat) (w3 : World), vI x20 vk w3 →
  (decide (x20 < ((listN : Nat) : Int)) = true →
  (0 ≤ x20 ∧ x20 < ((listN : Nat) : Int)) ∧ someV listA fun p =>
  ∃ (x23 : Int), w3.cell? (p.add (x20.toNat * 1)) = some (.int .i64 x23) ∧
  ∃ (x26 : Int), ∃ w4 : World, (Instr.lookup 110 (.map (some w1.heap.size)) (.int .i64 x23) false).run Try.prog w3 = .ok (.int .i64 x26) w4 ∧
  ∃ w5 : World, (Instr.mapUpdate 110 (.map (some w1.heap.size)) (.int .i64 x23) (.int .i64 (IntKind.i64.wrap (x26 + 1)))).run Try.prog w4 = .ok () w5 ∧
  ∃ vS : World → Prop, ∀ w6 : World, w6 = w5.drew → vS w6 ∧
  False) ∧
  (decide (x20 < ((listN : Nat) : Int)) = false →
  ∃ vI_1 : Int → Nat → World → Prop, (∃ vk_5 : Nat, vI_1 0 vk_5 w3) ∧
  ∀ (jk : Nat → Value) (x43 : Int), ∀ (vk_3 : Nat) (w7 : World), vI_1 x43 vk_3 w7 →
  (decide (x43 < ((listN : Nat) : Int)) = true →
  (0 ≤ x43 ∧ x43 < ((listN : Nat) : Int)) ∧ someV listA fun p_1 =>
  ∃ (x46 : Int), w7.cell? (p_1.add (x43.toNat * 1)) = some (.int .i64 x46) ∧
  False) ∧
  (decide (x43 < ((listN : Nat) : Int)) = false →
  R (.int .i64 0) w7))))
theorem pages_Pool_Drop.vc_nil_eq (listA : Option Addr) (listN : Nat) (listC : Nat) (w : World) (R : Value → World → Prop) : fnV Try.prog Try.f14 (.c .nil (.lp [(4, none), (8, none), (20, some (.int .i64)), (21, none), (22, none), (23, none), (24, none), (25, none), (26, none), (27, none), (28, none), (29, none), (30, none), (31, none), (32, none), (33, none), (34, none), (35, none), (36, none), (37, none), (38, none), (39, none), (40, none)] (.c (.tk 0 (.tk 1 (.tk 3 .nil))) (.lp [(10, none), (43, some (.int .i64)), (44, none), (45, none), (46, none), (47, none), (48, none), (49, none), (50, none), (51, none), (52, none), (53, none), (54, none), (55, none), (56, none), (57, none), (58, none), (59, none), (60, none), (61, none), (62, none), (63, none), (64, none), (65, none), (66, none), (67, none), (68, none), (69, none), (70, none), (71, none), (72, none), (73, none), (74, none)] (.c .nil .nil))))) [(.pointer none), (.slice listA listN listC)] w R = pages_Pool_Drop.vc_nil listA listN listC w R := by kernel_rfl
theorem pages_Pool_Drop.calls_nil (listA : Option Addr) (listN : Nat) (listC : Nat) {w : World} {R : Value → World → Prop} (h : pages_Pool_Drop.vc_nil listA listN listC w R) : Calls Try.prog 14 #[(.pointer none), (.slice listA listN listC)] w (Ret R) :=
  calls_V fit Try.func14 (.c .nil (.lp [(4, none), (8, none), (20, some (.int .i64)), (21, none), (22, none), (23, none), (24, none), (25, none), (26, none), (27, none), (28, none), (29, none), (30, none), (31, none), (32, none), (33, none), (34, none), (35, none), (36, none), (37, none), (38, none), (39, none), (40, none)] (.c (.tk 0 (.tk 1 (.tk 3 .nil))) (.lp [(10, none), (43, some (.int .i64)), (44, none), (45, none), (46, none), (47, none), (48, none), (49, none), (50, none), (51, none), (52, none), (53, none), (54, none), (55, none), (56, none), (57, none), (58, none), (59, none), (60, none), (61, none), (62, none), (63, none), (64, none), (65, none), (66, none), (67, none), (68, none), (69, none), (70, none), (71, none), (72, none), (73, none), (74, none)] (.c .nil .nil))))) (by rw [show (#[(.pointer none), (.slice listA listN listC)] : Array Value).toList = [(.pointer none), (.slice listA listN listC)] from rfl, pages_Pool_Drop.vc_nil_eq]; exact h)
/-- function 15 -/
def pages_Pool_Put.vc_nil (id : Int) (e0A : Option Addr) (e0N : Nat) (e0C : Nat) (e1A : Option Addr) (e1N : Nat) (e1C : Nat) (w : World) (R : Value → World → Prop) : Prop :=
  ∀ w1 : World, w1 = w.alloc (.cells #[(.slice e0A e0N e0C), (.slice e1A e1N e1C)] 35 (0, 0)) →
  R (.int .i64 2) w1
theorem pages_Pool_Put.vc_nil_eq (id : Int) (e0A : Option Addr) (e0N : Nat) (e0C : Nat) (e1A : Option Addr) (e1N : Nat) (e1C : Nat) (w : World) (R : Value → World → Prop) : fnV Try.prog Try.f15 (.k .nil) [(.pointer none), (.int .i64 id), (.agg #[(.slice e0A e0N e0C), (.slice e1A e1N e1C)])] w R = pages_Pool_Put.vc_nil id e0A e0N e0C e1A e1N e1C w R := by kernel_rfl
theorem pages_Pool_Put.calls_nil (id : Int) (e0A : Option Addr) (e0N : Nat) (e0C : Nat) (e1A : Option Addr) (e1N : Nat) (e1C : Nat) {w : World} {R : Value → World → Prop} (h : pages_Pool_Put.vc_nil id e0A e0N e0C e1A e1N e1C w R) : Calls Try.prog 15 #[(.pointer none), (.int .i64 id), (.agg #[(.slice e0A e0N e0C), (.slice e1A e1N e1C)])] w (Ret R) :=
  calls_V fit Try.func15 (.k .nil) (by rw [show (#[(.pointer none), (.int .i64 id), (.agg #[(.slice e0A e0N e0C), (.slice e1A e1N e1C)])] : Array Value).toList = [(.pointer none), (.int .i64 id), (.agg #[(.slice e0A e0N e0C), (.slice e1A e1N e1C)])] from rfl, pages_Pool_Put.vc_nil_eq]; exact h)
/-- function 21 -/
def pages_Pool_Get.vc_nil (listA : Option Addr) (listN : Nat) (listC : Nat) (w : World) (R : Value → World → Prop) : Prop :=
  ∃ vI : Option Addr → Nat → Nat → Int → Nat → World → Prop, (∃ vk_2 : Nat, vI none 0 0 0 vk_2 w) ∧
  ∀ (jk : Nat → Value) (outA : Option Addr) (outN : Nat) (outC : Nat) (x11 : Int), ∀ (vk : Nat) (w1 : World), vI outA outN outC x11 vk w1 →
  (decide (x11 < ((listN : Nat) : Int)) = true →
  (0 ≤ x11 ∧ x11 < ((listN : Nat) : Int)) ∧ someV listA fun p =>
  ∃ (x14 : Int), w1.cell? (p.add (x11.toNat * 1)) = some (.int .i64 x14) ∧
  Calls Try.prog 58 #[(.pointer none), (.int .i64 x14)] w1 (Ret fun v w2 => ∃ (x17 : Bool), v = (.bool x17) ∧
  ((!x17) = true →
  ∃ vk_1 : Nat, vk_1 < vk ∧ vI outA outN outC (IntKind.i64.wrap (x11 + 1)) vk_1 w2) ∧
  ((!x17) = false →
  False))) ∧
  (decide (x11 < ((listN : Nat) : Int)) = false →
  R (.slice outA outN outC) w1)
theorem pages_Pool_Get.vc_nil_eq (listA : Option Addr) (listN : Nat) (listC : Nat) (w : World) (R : Value → World → Prop) : fnV Try.prog Try.f21 (.lp [(4, some (.slice)), (6, none), (8, none), (11, some (.int .i64)), (12, none), (13, none), (14, none), (15, none), (16, none), (17, none), (18, none), (19, none), (20, none), (21, none), (22, none), (23, none), (24, none), (25, none), (26, none), (27, none), (28, none), (29, none), (30, none), (31, none), (32, none), (33, none), (34, none), (35, none), (36, none), (37, none), (38, none)] (.c (.c .nil .nil) .nil)) [(.pointer none), (.slice listA listN listC)] w R = pages_Pool_Get.vc_nil listA listN listC w R := by kernel_rfl
theorem pages_Pool_Get.calls_nil (listA : Option Addr) (listN : Nat) (listC : Nat) {w : World} {R : Value → World → Prop} (h : pages_Pool_Get.vc_nil listA listN listC w R) : Calls Try.prog 21 #[(.pointer none), (.slice listA listN listC)] w (Ret R) :=
  calls_V fit Try.func21 (.lp [(4, some (.slice)), (6, none), (8, none), (11, some (.int .i64)), (12, none), (13, none), (14, none), (15, none), (16, none), (17, none), (18, none), (19, none), (20, none), (21, none), (22, none), (23, none), (24, none), (25, none), (26, none), (27, none), (28, none), (29, none), (30, none), (31, none), (32, none), (33, none), (34, none), (35, none), (36, none), (37, none), (38, none)] (.c (.c .nil .nil) .nil)) (by rw [show (#[(.pointer none), (.slice listA listN listC)] : Array Value).toList = [(.pointer none), (.slice listA listN listC)] from rfl, pages_Pool_Get.vc_nil_eq]; exact h)
/-- function 29 -/
def pages_Pool_Version.vc_nil (id : Int) (w : World) (R : Value → World → Prop) : Prop :=
  Calls Try.prog 58 #[(.pointer none), (.int .i64 id)] w (Ret fun v w1 => ∃ (x7 : Bool), v = (.bool x7) ∧
  ((!x7) = true →
  R (.int .i64 0) w1) ∧
  ((!x7) = false →
  False))
theorem pages_Pool_Version.vc_nil_eq (id : Int) (w : World) (R : Value → World → Prop) : fnV Try.prog Try.f29 (.c .nil .nil) [(.pointer none), (.int .i64 id)] w R = pages_Pool_Version.vc_nil id w R := by kernel_rfl
theorem pages_Pool_Version.calls_nil (id : Int) {w : World} {R : Value → World → Prop} (h : pages_Pool_Version.vc_nil id w R) : Calls Try.prog 29 #[(.pointer none), (.int .i64 id)] w (Ret R) :=
  calls_V fit Try.func29 (.c .nil .nil) (by rw [show (#[(.pointer none), (.int .i64 id)] : Array Value).toList = [(.pointer none), (.int .i64 id)] from rfl, pages_Pool_Version.vc_nil_eq]; exact h)
/-- function 20 -/
def pages_Pool_Users.vc_nil (id : Int) (w : World) (R : Value → World → Prop) : Prop :=
  Calls Try.prog 58 #[(.pointer none), (.int .i64 id)] w (Ret fun v w1 => ∃ (x7 : Bool), v = (.bool x7) ∧
  ((!x7) = true →
  R (.int .i64 0) w1) ∧
  ((!x7) = false →
  False))
theorem pages_Pool_Users.vc_nil_eq (id : Int) (w : World) (R : Value → World → Prop) : fnV Try.prog Try.f20 (.c .nil .nil) [(.pointer none), (.int .i64 id)] w R = pages_Pool_Users.vc_nil id w R := by kernel_rfl
theorem pages_Pool_Users.calls_nil (id : Int) {w : World} {R : Value → World → Prop} (h : pages_Pool_Users.vc_nil id w R) : Calls Try.prog 20 #[(.pointer none), (.int .i64 id)] w (Ret R) :=
  calls_V fit Try.func20 (.c .nil .nil) (by rw [show (#[(.pointer none), (.int .i64 id)] : Array Value).toList = [(.pointer none), (.int .i64 id)] from rfl, pages_Pool_Users.vc_nil_eq]; exact h)
/-- function 31 -/
def pages_Pool_Len.vc_nil (w : World) (R : Value → World → Prop) : Prop :=
  R (.int .i64 0) w
theorem pages_Pool_Len.vc_nil_eq (w : World) (R : Value → World → Prop) : fnV Try.prog Try.f31 (.k .nil) [(.pointer none)] w R = pages_Pool_Len.vc_nil  w R := by kernel_rfl
theorem pages_Pool_Len.calls_nil {w : World} {R : Value → World → Prop} (h : pages_Pool_Len.vc_nil  w R) : Calls Try.prog 31 #[(.pointer none)] w (Ret R) :=
  calls_V fit Try.func31 (.k .nil) (by rw [show (#[(.pointer none)] : Array Value).toList = [(.pointer none)] from rfl, pages_Pool_Len.vc_nil_eq]; exact h)
/-- function 19 -/
def pages_Pool_Free.vc_nil (w : World) (R : Value → World → Prop) : Prop :=
  Calls Try.prog 31 #[(.pointer none)] w (Ret fun v w1 => ∃ (x6 : Int), v = (.int .i64 x6) ∧
  ∃ vI : Int → Int → Nat → World → Prop, (∃ vk_2 : Nat, vI 0 0 vk_2 w1) ∧
  ∀ (jk : Nat → Value) (n : Int) (x7 : Int), ∀ (vk : Nat) (w2 : World), vI n x7 vk w2 →
  (decide (x7 < x6) = true →
  Calls Try.prog 58 #[(.pointer none), (.int .i64 x7)] w2 (Ret fun v_1 w3 => ∃ (x12 : Bool), v_1 = (.bool x12) ∧
  ((!x12) = true →
  ∃ vk_1 : Nat, vk_1 < vk ∧ vI (IntKind.i64.wrap (n + 1)) (IntKind.i64.wrap (x7 + 1)) vk_1 w3) ∧
  ((!x12) = false →
  ∃ vk_1 : Nat, vk_1 < vk ∧ vI n (IntKind.i64.wrap (x7 + 1)) vk_1 w3))) ∧
  (decide (x7 < x6) = false →
  R (.int .i64 n) w2))
theorem pages_Pool_Free.vc_nil_eq (w : World) (R : Value → World → Prop) : fnV Try.prog Try.f19 (.lp [(3, some (.int .i64)), (4, none), (7, some (.int .i64)), (8, none), (9, none), (10, none), (11, none), (12, none), (13, none), (14, none), (15, none), (16, none)] (.c (.c .nil .nil) .nil)) [(.pointer none)] w R = pages_Pool_Free.vc_nil  w R := by kernel_rfl
theorem pages_Pool_Free.calls_nil {w : World} {R : Value → World → Prop} (h : pages_Pool_Free.vc_nil  w R) : Calls Try.prog 19 #[(.pointer none)] w (Ret R) :=
  calls_V fit Try.func19 (.lp [(3, some (.int .i64)), (4, none), (7, some (.int .i64)), (8, none), (9, none), (10, none), (11, none), (12, none), (13, none), (14, none), (15, none), (16, none)] (.c (.c .nil .nil) .nil)) (by rw [show (#[(.pointer none)] : Array Value).toList = [(.pointer none)] from rfl, pages_Pool_Free.vc_nil_eq]; exact h)
/-- function 18 -/
def pages_Pool_Of.vc_nil (version : Int) (w : World) (R : Value → World → Prop) : Prop :=
  Calls Try.prog 31 #[(.pointer none)] w (Ret fun v w1 => ∃ (x7 : Int), v = (.int .i64 x7) ∧
  ∃ vI : Option Addr → Nat → Nat → Int → Nat → World → Prop, (∃ vk_2 : Nat, vI none 0 0 0 vk_2 w1) ∧
  ∀ (jk : Nat → Value) (outA : Option Addr) (outN : Nat) (outC : Nat) (x8 : Int), ∀ (vk : Nat) (w2 : World), vI outA outN outC x8 vk w2 →
  (decide (x8 < x7) = true →
  Calls Try.prog 58 #[(.pointer none), (.int .i64 x8)] w2 (Ret fun v_1 w3 => ∃ (x13 : Bool), v_1 = (.bool x13) ∧
  (x13 = true →
  False) ∧
  (x13 = false →
  ∃ vk_1 : Nat, vk_1 < vk ∧ vI outA outN outC (IntKind.i64.wrap (x8 + 1)) vk_1 w3))) ∧
  (decide (x8 < x7) = false →
  R (.slice outA outN outC) w2))
theorem pages_Pool_Of.vc_nil_eq (version : Int) (w : World) (R : Value → World → Prop) : fnV Try.prog Try.f18 (.lp [(4, some (.slice)), (5, none), (8, some (.int .i64)), (9, none), (10, none), (11, none), (12, none), (13, none), (14, none), (15, none), (16, none), (17, none), (18, none), (19, none), (20, none), (21, none), (22, none), (23, none), (24, none), (25, none), (26, none), (27, none), (28, none), (29, none), (30, none)] (.c (.at_ 4 3 .nil (.k .nil)) .nil)) [(.pointer none), (.int .i64 version)] w R = pages_Pool_Of.vc_nil version w R := by kernel_rfl
theorem pages_Pool_Of.calls_nil (version : Int) {w : World} {R : Value → World → Prop} (h : pages_Pool_Of.vc_nil version w R) : Calls Try.prog 18 #[(.pointer none), (.int .i64 version)] w (Ret R) :=
  calls_V fit Try.func18 (.lp [(4, some (.slice)), (5, none), (8, some (.int .i64)), (9, none), (10, none), (11, none), (12, none), (13, none), (14, none), (15, none), (16, none), (17, none), (18, none), (19, none), (20, none), (21, none), (22, none), (23, none), (24, none), (25, none), (26, none), (27, none), (28, none), (29, none), (30, none)] (.c (.at_ 4 3 .nil (.k .nil)) .nil)) (by rw [show (#[(.pointer none), (.int .i64 version)] : Array Value).toList = [(.pointer none), (.int .i64 version)] from rfl, pages_Pool_Of.vc_nil_eq]; exact h)
/-- function 32 -/
def coadjutorlaw22_is.vc (e0A : Option Addr) (e0N : Nat) (e0C : Nat) (e1A : Option Addr) (e1N : Nat) (e1C : Nat) (w0A : Option Addr) (w0N : Nat) (w0C : Nat) (w1A : Option Addr) (w1N : Nat) (w1C : Nat) (w : World) (R : Value → World → Prop) : Prop :=
  ∀ w1 : World, w1 = w.alloc (.cells #[(.slice e0A e0N e0C), (.slice e1A e1N e1C)] 35 (0, 0)) →
  ∀ w2 : World, w2 = w1.alloc (.cells #[(.slice w0A w0N w0C), (.slice w1A w1N w1C)] 53 (0, 0)) →
  ∃ (x50A : Option Addr), ∃ (x50N : Nat), ∃ (x50C : Nat), ∃ (x51A : Option Addr), ∃ (x51N : Nat), ∃ (x51C : Nat), (w2.cell? (⟨w.heap.size, 0, none⟩ : Addr) = some (.slice x50A x50N x50C) ∧ w2.cell? (⟨w.heap.size, 1, none⟩ : Addr) = some (.slice x51A x51N x51C)) ∧
  ∃ (x7A : Option Addr), ∃ (x7N : Nat), ∃ (x7C : Nat), w2.cell? (⟨w1.heap.size, 0, none⟩ : Addr) = some (.slice x7A x7N x7C) ∧
  ∃ (x9A : Option Addr), ∃ (x9N : Nat), ∃ (x9C : Nat), w2.cell? (⟨w1.heap.size, 1, none⟩ : Addr) = some (.slice x9A x9N x9C) ∧
  Calls Try.prog 22 #[(.agg #[(.slice x50A x50N x50C), (.slice x51A x51N x51C)]), (.agg #[(.slice x7A x7N x7C), (.slice x9A x9N x9C)])] w2 (Ret fun v w3 => ∃ (x11 : Bool), v = (.bool x11) ∧
  R (.bool x11) w3)
theorem coadjutorlaw22_is.vc_eq (e0A : Option Addr) (e0N : Nat) (e0C : Nat) (e1A : Option Addr) (e1N : Nat) (e1C : Nat) (w0A : Option Addr) (w0N : Nat) (w0C : Nat) (w1A : Option Addr) (w1N : Nat) (w1C : Nat) (w : World) (R : Value → World → Prop) : fnV Try.prog Try.f32 .nil [(.agg #[(.slice e0A e0N e0C), (.slice e1A e1N e1C)]), (.agg #[(.slice w0A w0N w0C), (.slice w1A w1N w1C)])] w R = coadjutorlaw22_is.vc e0A e0N e0C e1A e1N e1C w0A w0N w0C w1A w1N w1C w R := by kernel_rfl
theorem coadjutorlaw22_is.calls (e0A : Option Addr) (e0N : Nat) (e0C : Nat) (e1A : Option Addr) (e1N : Nat) (e1C : Nat) (w0A : Option Addr) (w0N : Nat) (w0C : Nat) (w1A : Option Addr) (w1N : Nat) (w1C : Nat) {w : World} {R : Value → World → Prop} (h : coadjutorlaw22_is.vc e0A e0N e0C e1A e1N e1C w0A w0N w0C w1A w1N w1C w R) : Calls Try.prog 32 #[(.agg #[(.slice e0A e0N e0C), (.slice e1A e1N e1C)]), (.agg #[(.slice w0A w0N w0C), (.slice w1A w1N w1C)])] w (Ret R) :=
  calls_V fit Try.func32 .nil (by rw [show (#[(.agg #[(.slice e0A e0N e0C), (.slice e1A e1N e1C)]), (.agg #[(.slice w0A w0N w0C), (.slice w1A w1N w1C)])] : Array Value).toList = [(.agg #[(.slice e0A e0N e0C), (.slice e1A e1N e1C)]), (.agg #[(.slice w0A w0N w0C), (.slice w1A w1N w1C)])] from rfl, coadjutorlaw22_is.vc_eq]; exact h)
end Go.Proofs.Ytpcddfhfchempaa.Vc
