import Derived.Test.YtefidalhijpmdaaVc
import Derived.Test.YtefidalhijpmdaaH
import Derived.Test.YtefidalhijpmdaaProg
import Derived.KernelRfl
set_option linter.unusedVariables false
set_option maxRecDepth 100000
namespace Go.Proofs.Ytefidalhijpmdaa.Vc
open Go Go.Proofs Go.Proofs.Ytefidalhijpmdaa.V
/-- function 70 -/
def slices_IndexFunc.vc_put (sA : Option Addr) (sN : Nat) (sC : Nat) (c0B : Nat) (w : World) (R : Value → World → Prop) : Prop :=
  ∃ vI : Int → Nat → World → Prop, (∃ vk_2 : Nat, vI 0 vk_2 w) ∧
  ∀ (jk : Nat → Value) (x8 : Int), ∀ (vk : Nat) (w1 : World), vI x8 vk w1 →
  (decide (x8 < ((sN : Nat) : Int)) = true →
  (0 ≤ x8 ∧ x8 < ((sN : Nat) : Int)) ∧ someV sA fun p =>
  ∃ (x15 : Int), w1.cell? (p.add (x8.toNat * 1)) = some (.int .i64 x15) ∧
  Calls Try.prog 69 #[(.int .i64 x15), (.pointer (some (⟨c0B, 0, none⟩ : Addr)))] w1 (Ret fun v w2 => ∃ (x16 : Bool), v = (.bool x16) ∧
  (x16 = true →
  R (.int .i64 x8) w2) ∧
  (x16 = false →
  ∃ vk_1 : Nat, vk_1 < vk ∧ vI (IntKind.i64.wrap (x8 + 1)) vk_1 w2))) ∧
  (decide (x8 < ((sN : Nat) : Int)) = false →
  R (.int .i64 (-1)) w1)
theorem slices_IndexFunc.vc_put_eq (sA : Option Addr) (sN : Nat) (sC : Nat) (c0B : Nat) (w : World) (R : Value → World → Prop) : fnV Try.prog Try.f70 (.lp [(4, none), (5, none), (8, some (.int .i64)), (9, none), (10, none), (11, none), (12, none), (13, none), (14, none), (15, none), (16, none), (17, none), (18, none)] (.c (.c .nil .nil) .nil)) [(.slice sA sN sC), (.func (.func 69) #[] #[(.pointer (some (⟨c0B, 0, none⟩ : Addr)))])] w R = slices_IndexFunc.vc_put sA sN sC c0B w R := by kernel_rfl
theorem slices_IndexFunc.calls_put (sA : Option Addr) (sN : Nat) (sC : Nat) (c0B : Nat) {w : World} {R : Value → World → Prop} (h : slices_IndexFunc.vc_put sA sN sC c0B w R) : Calls Try.prog 70 #[(.slice sA sN sC), (.func (.func 69) #[] #[(.pointer (some (⟨c0B, 0, none⟩ : Addr)))])] w (Ret R) :=
  calls_V fit Try.func70 (.lp [(4, none), (5, none), (8, some (.int .i64)), (9, none), (10, none), (11, none), (12, none), (13, none), (14, none), (15, none), (16, none), (17, none), (18, none)] (.c (.c .nil .nil) .nil)) (by rw [show (#[(.slice sA sN sC), (.func (.func 69) #[] #[(.pointer (some (⟨c0B, 0, none⟩ : Addr)))])] : Array Value).toList = [(.slice sA sN sC), (.func (.func 69) #[] #[(.pointer (some (⟨c0B, 0, none⟩ : Addr)))])] from rfl, slices_IndexFunc.vc_put_eq]; exact h)
/-- function 62 -/
def slices_ContainsFunc.vc_put (sA : Option Addr) (sN : Nat) (sC : Nat) (c0B : Nat) (w : World) (R : Value → World → Prop) : Prop :=
  Calls Try.prog 70 #[(.slice sA sN sC), (.func (.func 69) #[] #[(.pointer (some (⟨c0B, 0, none⟩ : Addr)))])] w (Ret fun v w1 => ∃ (x7 : Int), v = (.int .i64 x7) ∧
  R (.bool (decide (x7 ≥ (0 : Int)))) w1)
theorem slices_ContainsFunc.vc_put_eq (sA : Option Addr) (sN : Nat) (sC : Nat) (c0B : Nat) (w : World) (R : Value → World → Prop) : fnV Try.prog Try.f62 .nil [(.slice sA sN sC), (.func (.func 69) #[] #[(.pointer (some (⟨c0B, 0, none⟩ : Addr)))])] w R = slices_ContainsFunc.vc_put sA sN sC c0B w R := by kernel_rfl
theorem slices_ContainsFunc.calls_put (sA : Option Addr) (sN : Nat) (sC : Nat) (c0B : Nat) {w : World} {R : Value → World → Prop} (h : slices_ContainsFunc.vc_put sA sN sC c0B w R) : Calls Try.prog 62 #[(.slice sA sN sC), (.func (.func 69) #[] #[(.pointer (some (⟨c0B, 0, none⟩ : Addr)))])] w (Ret R) :=
  calls_V fit Try.func62 .nil (by rw [show (#[(.slice sA sN sC), (.func (.func 69) #[] #[(.pointer (some (⟨c0B, 0, none⟩ : Addr)))])] : Array Value).toList = [(.slice sA sN sC), (.func (.func 69) #[] #[(.pointer (some (⟨c0B, 0, none⟩ : Addr)))])] from rfl, slices_ContainsFunc.vc_put_eq]; exact h)
/-- function 69 -/
def bits_Set_put_c1.vc (n : Int) (c0B : Nat) (w : World) (R : Value → World → Prop) : Prop :=
  (decide (n < (0 : Int)) = true →
  R (.bool true) w) ∧
  (decide (n < (0 : Int)) = false →
  ∃ (x8 : Option Addr), w.cell? (⟨c0B, 0, none⟩ : Addr) = some (.pointer x8) ∧
  someV x8 fun p =>
  ∃ (x11A : Option Addr), ∃ (x11N : Nat), ∃ (x11C : Nat), w.cell? p = some (.slice x11A x11N x11C) ∧
  R (.bool (decide (n ≥ ((x11N : Nat) : Int)))) w)
theorem bits_Set_put_c1.vc_eq (n : Int) (c0B : Nat) (w : World) (R : Value → World → Prop) : fnV Try.prog Try.f69 (.at_ 1 2 .nil .nil) [(.int .i64 n), (.pointer (some (⟨c0B, 0, none⟩ : Addr)))] w R = bits_Set_put_c1.vc n c0B w R := by kernel_rfl
theorem bits_Set_put_c1.calls (n : Int) (c0B : Nat) {w : World} {R : Value → World → Prop} (h : bits_Set_put_c1.vc n c0B w R) : Calls Try.prog 69 #[(.int .i64 n), (.pointer (some (⟨c0B, 0, none⟩ : Addr)))] w (Ret R) :=
  calls_V fit Try.func69 (.at_ 1 2 .nil .nil) (by rw [show (#[(.int .i64 n), (.pointer (some (⟨c0B, 0, none⟩ : Addr)))] : Array Value).toList = [(.int .i64 n), (.pointer (some (⟨c0B, 0, none⟩ : Addr)))] from rfl, bits_Set_put_c1.vc_eq]; exact h)
/-- function 70 -/
def slices_IndexFunc.vc_Has (sA : Option Addr) (sN : Nat) (sC : Nat) (c0B : Nat) (w : World) (R : Value → World → Prop) : Prop :=
  ∃ vI : Int → Nat → World → Prop, (∃ vk_2 : Nat, vI 0 vk_2 w) ∧
  ∀ (jk : Nat → Value) (x8 : Int), ∀ (vk : Nat) (w1 : World), vI x8 vk w1 →
  (decide (x8 < ((sN : Nat) : Int)) = true →
  (0 ≤ x8 ∧ x8 < ((sN : Nat) : Int)) ∧ someV sA fun p =>
  ∃ (x15 : Int), w1.cell? (p.add (x8.toNat * 1)) = some (.int .i64 x15) ∧
  Calls Try.prog 63 #[(.int .i64 x15), (.pointer (some (⟨c0B, 0, none⟩ : Addr)))] w1 (Ret fun v w2 => ∃ (x16 : Bool), v = (.bool x16) ∧
  (x16 = true →
  R (.int .i64 x8) w2) ∧
  (x16 = false →
  ∃ vk_1 : Nat, vk_1 < vk ∧ vI (IntKind.i64.wrap (x8 + 1)) vk_1 w2))) ∧
  (decide (x8 < ((sN : Nat) : Int)) = false →
  R (.int .i64 (-1)) w1)
theorem slices_IndexFunc.vc_Has_eq (sA : Option Addr) (sN : Nat) (sC : Nat) (c0B : Nat) (w : World) (R : Value → World → Prop) : fnV Try.prog Try.f70 (.lp [(4, none), (5, none), (8, some (.int .i64)), (9, none), (10, none), (11, none), (12, none), (13, none), (14, none), (15, none), (16, none), (17, none), (18, none)] (.c (.c .nil .nil) .nil)) [(.slice sA sN sC), (.func (.func 63) #[] #[(.pointer (some (⟨c0B, 0, none⟩ : Addr)))])] w R = slices_IndexFunc.vc_Has sA sN sC c0B w R := by kernel_rfl
theorem slices_IndexFunc.calls_Has (sA : Option Addr) (sN : Nat) (sC : Nat) (c0B : Nat) {w : World} {R : Value → World → Prop} (h : slices_IndexFunc.vc_Has sA sN sC c0B w R) : Calls Try.prog 70 #[(.slice sA sN sC), (.func (.func 63) #[] #[(.pointer (some (⟨c0B, 0, none⟩ : Addr)))])] w (Ret R) :=
  calls_V fit Try.func70 (.lp [(4, none), (5, none), (8, some (.int .i64)), (9, none), (10, none), (11, none), (12, none), (13, none), (14, none), (15, none), (16, none), (17, none), (18, none)] (.c (.c .nil .nil) .nil)) (by rw [show (#[(.slice sA sN sC), (.func (.func 63) #[] #[(.pointer (some (⟨c0B, 0, none⟩ : Addr)))])] : Array Value).toList = [(.slice sA sN sC), (.func (.func 63) #[] #[(.pointer (some (⟨c0B, 0, none⟩ : Addr)))])] from rfl, slices_IndexFunc.vc_Has_eq]; exact h)
/-- function 62 -/
def slices_ContainsFunc.vc_Has (sA : Option Addr) (sN : Nat) (sC : Nat) (c0B : Nat) (w : World) (R : Value → World → Prop) : Prop :=
  Calls Try.prog 70 #[(.slice sA sN sC), (.func (.func 63) #[] #[(.pointer (some (⟨c0B, 0, none⟩ : Addr)))])] w (Ret fun v w1 => ∃ (x7 : Int), v = (.int .i64 x7) ∧
  R (.bool (decide (x7 ≥ (0 : Int)))) w1)
theorem slices_ContainsFunc.vc_Has_eq (sA : Option Addr) (sN : Nat) (sC : Nat) (c0B : Nat) (w : World) (R : Value → World → Prop) : fnV Try.prog Try.f62 .nil [(.slice sA sN sC), (.func (.func 63) #[] #[(.pointer (some (⟨c0B, 0, none⟩ : Addr)))])] w R = slices_ContainsFunc.vc_Has sA sN sC c0B w R := by kernel_rfl
theorem slices_ContainsFunc.calls_Has (sA : Option Addr) (sN : Nat) (sC : Nat) (c0B : Nat) {w : World} {R : Value → World → Prop} (h : slices_ContainsFunc.vc_Has sA sN sC c0B w R) : Calls Try.prog 62 #[(.slice sA sN sC), (.func (.func 63) #[] #[(.pointer (some (⟨c0B, 0, none⟩ : Addr)))])] w (Ret R) :=
  calls_V fit Try.func62 .nil (by rw [show (#[(.slice sA sN sC), (.func (.func 63) #[] #[(.pointer (some (⟨c0B, 0, none⟩ : Addr)))])] : Array Value).toList = [(.slice sA sN sC), (.func (.func 63) #[] #[(.pointer (some (⟨c0B, 0, none⟩ : Addr)))])] from rfl, slices_ContainsFunc.vc_Has_eq]; exact h)
/-- function 63 -/
def bits_Set_Has_c1.vc (n : Int) (c0B : Nat) (w : World) (R : Value → World → Prop) : Prop :=
  (decide (n < (0 : Int)) = true →
  R (.bool true) w) ∧
  (decide (n < (0 : Int)) = false →
  ∃ (x8 : Option Addr), w.cell? (⟨c0B, 0, none⟩ : Addr) = some (.pointer x8) ∧
  someV x8 fun p =>
  ∃ (x11A : Option Addr), ∃ (x11N : Nat), ∃ (x11C : Nat), w.cell? p = some (.slice x11A x11N x11C) ∧
  (decide (n ≥ ((x11N : Nat) : Int)) = true →
  R (.bool true) w) ∧
  (decide (n ≥ ((x11N : Nat) : Int)) = false →
  ∃ (x16 : Option Addr), w.cell? (⟨c0B, 0, none⟩ : Addr) = some (.pointer x16) ∧
  someV x16 fun p_1 =>
  ∃ (x19A : Option Addr), ∃ (x19N : Nat), ∃ (x19C : Nat), w.cell? p_1 = some (.slice x19A x19N x19C) ∧
  (0 ≤ n ∧ n < ((x19N : Nat) : Int)) ∧ someV x19A fun p_2 =>
  ∃ (x22 : Bool), w.cell? (p_2.add (n.toNat * 1)) = some (.bool x22) ∧
  R (.bool (!x22)) w))
theorem bits_Set_Has_c1.vc_eq (n : Int) (c0B : Nat) (w : World) (R : Value → World → Prop) : fnV Try.prog Try.f63 (.at_ 1 2 .nil (.at_ 1 11 .nil .nil)) [(.int .i64 n), (.pointer (some (⟨c0B, 0, none⟩ : Addr)))] w R = bits_Set_Has_c1.vc n c0B w R := by kernel_rfl
theorem bits_Set_Has_c1.calls (n : Int) (c0B : Nat) {w : World} {R : Value → World → Prop} (h : bits_Set_Has_c1.vc n c0B w R) : Calls Try.prog 63 #[(.int .i64 n), (.pointer (some (⟨c0B, 0, none⟩ : Addr)))] w (Ret R) :=
  calls_V fit Try.func63 (.at_ 1 2 .nil (.at_ 1 11 .nil .nil)) (by rw [show (#[(.int .i64 n), (.pointer (some (⟨c0B, 0, none⟩ : Addr)))] : Array Value).toList = [(.int .i64 n), (.pointer (some (⟨c0B, 0, none⟩ : Addr)))] from rfl, bits_Set_Has_c1.vc_eq]; exact h)
/-- function 28 -/
def bits_New.vc (n : Int) (w : World) (R : Value → World → Prop) : Prop :=
  (decide (n < (1 : Int)) = true →
  R (.pointer none) w) ∧
  (decide (n < (1 : Int)) = false →
  (decide (n > (1024 : Int)) = true →
  R (.pointer none) w) ∧
  (decide (n > (1024 : Int)) = false →
  (n = n ∧ 0 ≤ n ∧ n * (1 : Int) ≤ 140737488355328) ∧ ∀ w1 : World, w1 = w.alloc (.cells (zeroRow [(.bool false)] n.toNat).toArray 4 (0, 0)) →
  ∀ w2 : World, w2 = w1.alloc (.cells #[(.slice (some (⟨w.heap.size, 0, none⟩ : Addr)) n.toNat n.toNat)] 79 (0, 0)) →
  R (.pointer (some (⟨w1.heap.size, 0, none⟩ : Addr))) w2))
theorem bits_New.vc_eq (n : Int) (w : World) (R : Value → World → Prop) : fnV Try.prog Try.f28 (.at_ 1 2 (.k .nil) (.c .nil .nil)) [(.int .i64 n)] w R = bits_New.vc n w R := by kernel_rfl
theorem bits_New.calls (n : Int) {w : World} {R : Value → World → Prop} (h : bits_New.vc n w R) : Calls Try.prog 28 #[(.int .i64 n)] w (Ret R) :=
  calls_V fit Try.func28 (.at_ 1 2 (.k .nil) (.c .nil .nil)) (by rw [show (#[(.int .i64 n)] : Array Value).toList = [(.int .i64 n)] from rfl, bits_New.vc_eq]; exact h)
/-- function 60 -/
def bits_Set_put.vc (sB : Nat) (is : Bool) (listA : Option Addr) (listN : Nat) (listC : Nat) (w : World) (R : Value → World → Prop) : Prop :=
  ∀ w1 : World, w1 = w.alloc (.cells #[(.pointer (some (⟨sB, 0, none⟩ : Addr)))] 30 (0, 0)) →
  ∃ (x10 : Option Addr), w1.cell? (⟨w.heap.size, 0, none⟩ : Addr) = some (.pointer x10) ∧
  (x10.isNone = true →
  R (.int .i64 2) w1) ∧
  (x10.isNone = false →
  Calls Try.prog 62 #[(.slice listA listN listC), (.func (.func 69) #[] #[(.pointer (some (⟨w.heap.size, 0, none⟩ : Addr)))])] w1 (Ret fun v w2 => ∃ (x15 : Bool), v = (.bool x15) ∧
  (x15 = true →
  R (.int .i64 3) w2) ∧
  (x15 = false →
  ∃ vI : Int → Nat → World → Prop, (∃ vk_2 : Nat, vI 0 vk_2 w2) ∧
  ∀ (jk : Nat → Value) (x18 : Int), ∀ (vk : Nat) (w3 : World), vI x18 vk w3 →
  (decide (x18 < ((listN : Nat) : Int)) = true →
  (0 ≤ x18 ∧ x18 < ((listN : Nat) : Int)) ∧ someV listA fun p =>
  ∃ (x21 : Int), w3.cell? (p.add (x18.toNat * 1)) = some (.int .i64 x21) ∧
  ∃ (x22 : Option Addr), w3.cell? (⟨w.heap.size, 0, none⟩ : Addr) = some (.pointer x22) ∧
  someV x22 fun p_1 =>
  ∃ (x25A : Option Addr), ∃ (x25N : Nat), ∃ (x25C : Nat), w3.cell? p_1 = some (.slice x25A x25N x25C) ∧
  (0 ≤ x21 ∧ x21 < ((x25N : Nat) : Int)) ∧ someV x25A fun p_2 =>
  (((∃ u, w3.cell? (p_2.add (x21.toNat * 1)) = some u) ∧ w3.frozen? (p_2.add (x21.toNat * 1)) = false)) ∧ ∀ w4 : World, w4 = (w3.setCell (p_2.add (x21.toNat * 1)) (.bool is)) →
  ∃ vk_1 : Nat, vk_1 < vk ∧ vI (IntKind.i64.wrap (x18 + 1)) vk_1 w4) ∧
  (decide (x18 < ((listN : Nat) : Int)) = false →
  R (.int .i64 0) w3))))
theorem bits_Set_put.vc_eq (sB : Nat) (is : Bool) (listA : Option Addr) (listN : Nat) (listC : Nat) (w : World) (R : Value → World → Prop) : fnV Try.prog Try.f60 (.c .nil (.c .nil (.lp [(8, none), (18, some (.int .i64)), (19, none), (20, none), (21, none), (22, none), (23, none), (24, none), (25, none), (26, none), (27, none), (28, none), (29, none)] (.c .nil .nil)))) [(.pointer (some (⟨sB, 0, none⟩ : Addr))), (.bool is), (.slice listA listN listC)] w R = bits_Set_put.vc sB is listA listN listC w R := by kernel_rfl
theorem bits_Set_put.calls (sB : Nat) (is : Bool) (listA : Option Addr) (listN : Nat) (listC : Nat) {w : World} {R : Value → World → Prop} (h : bits_Set_put.vc sB is listA listN listC w R) : Calls Try.prog 60 #[(.pointer (some (⟨sB, 0, none⟩ : Addr))), (.bool is), (.slice listA listN listC)] w (Ret R) :=
  calls_V fit Try.func60 (.c .nil (.c .nil (.lp [(8, none), (18, some (.int .i64)), (19, none), (20, none), (21, none), (22, none), (23, none), (24, none), (25, none), (26, none), (27, none), (28, none), (29, none)] (.c .nil .nil)))) (by rw [show (#[(.pointer (some (⟨sB, 0, none⟩ : Addr))), (.bool is), (.slice listA listN listC)] : Array Value).toList = [(.pointer (some (⟨sB, 0, none⟩ : Addr))), (.bool is), (.slice listA listN listC)] from rfl, bits_Set_put.vc_eq]; exact h)
/-- function 60 -/
def bits_Set_put.vc_nil (is : Bool) (listA : Option Addr) (listN : Nat) (listC : Nat) (w : World) (R : Value → World → Prop) : Prop :=
  ∀ w1 : World, w1 = w.alloc (.cells #[(.pointer none)] 30 (0, 0)) →
  ∃ (x10 : Option Addr), w1.cell? (⟨w.heap.size, 0, none⟩ : Addr) = some (.pointer x10) ∧
  (x10.isNone = true →
  R (.int .i64 2) w1) ∧
  (x10.isNone = false →
  Calls Try.prog 62 #[(.slice listA listN listC), (.func (.func 69) #[] #[(.pointer (some (⟨w.heap.size, 0, none⟩ : Addr)))])] w1 (Ret fun v w2 => ∃ (x15 : Bool), v = (.bool x15) ∧
  (x15 = true →
  R (.int .i64 3) w2) ∧
  (x15 = false →
  ∃ vI : Int → Nat → World → Prop, (∃ vk_2 : Nat, vI 0 vk_2 w2) ∧
  ∀ (jk : Nat → Value) (x18 : Int), ∀ (vk : Nat) (w3 : World), vI x18 vk w3 →
  (decide (x18 < ((listN : Nat) : Int)) = true →
  (0 ≤ x18 ∧ x18 < ((listN : Nat) : Int)) ∧ someV listA fun p =>
  ∃ (x21 : Int), w3.cell? (p.add (x18.toNat * 1)) = some (.int .i64 x21) ∧
  ∃ (x22 : Option Addr), w3.cell? (⟨w.heap.size, 0, none⟩ : Addr) = some (.pointer x22) ∧
  someV x22 fun p_1 =>
  ∃ (x25A : Option Addr), ∃ (x25N : Nat), ∃ (x25C : Nat), w3.cell? p_1 = some (.slice x25A x25N x25C) ∧
  (0 ≤ x21 ∧ x21 < ((x25N : Nat) : Int)) ∧ someV x25A fun p_2 =>
  (((∃ u, w3.cell? (p_2.add (x21.toNat * 1)) = some u) ∧ w3.frozen? (p_2.add (x21.toNat * 1)) = false)) ∧ ∀ w4 : World, w4 = (w3.setCell (p_2.add (x21.toNat * 1)) (.bool is)) →
  ∃ vk_1 : Nat, vk_1 < vk ∧ vI (IntKind.i64.wrap (x18 + 1)) vk_1 w4) ∧
  (decide (x18 < ((listN : Nat) : Int)) = false →
  R (.int .i64 0) w3))))
theorem bits_Set_put.vc_nil_eq (is : Bool) (listA : Option Addr) (listN : Nat) (listC : Nat) (w : World) (R : Value → World → Prop) : fnV Try.prog Try.f60 (.c .nil (.c .nil (.lp [(8, none), (18, some (.int .i64)), (19, none), (20, none), (21, none), (22, none), (23, none), (24, none), (25, none), (26, none), (27, none), (28, none), (29, none)] (.c .nil .nil)))) [(.pointer none), (.bool is), (.slice listA listN listC)] w R = bits_Set_put.vc_nil is listA listN listC w R := by kernel_rfl
theorem bits_Set_put.calls_nil (is : Bool) (listA : Option Addr) (listN : Nat) (listC : Nat) {w : World} {R : Value → World → Prop} (h : bits_Set_put.vc_nil is listA listN listC w R) : Calls Try.prog 60 #[(.pointer none), (.bool is), (.slice listA listN listC)] w (Ret R) :=
  calls_V fit Try.func60 (.c .nil (.c .nil (.lp [(8, none), (18, some (.int .i64)), (19, none), (20, none), (21, none), (22, none), (23, none), (24, none), (25, none), (26, none), (27, none), (28, none), (29, none)] (.c .nil .nil)))) (by rw [show (#[(.pointer none), (.bool is), (.slice listA listN listC)] : Array Value).toList = [(.pointer none), (.bool is), (.slice listA listN listC)] from rfl, bits_Set_put.vc_nil_eq]; exact h)
/-- function 29 -/
def bits_Set_Add.vc (sB : Nat) (listA : Option Addr) (listN : Nat) (listC : Nat) (w : World) (R : Value → World → Prop) : Prop :=
  Calls Try.prog 60 #[(.pointer (some (⟨sB, 0, none⟩ : Addr))), (.bool true), (.slice listA listN listC)] w (Ret fun v w1 => ∃ (x7 : Int), v = (.int .i64 x7) ∧
  R (.int .i64 x7) w1)
theorem bits_Set_Add.vc_eq (sB : Nat) (listA : Option Addr) (listN : Nat) (listC : Nat) (w : World) (R : Value → World → Prop) : fnV Try.prog Try.f29 .nil [(.pointer (some (⟨sB, 0, none⟩ : Addr))), (.slice listA listN listC)] w R = bits_Set_Add.vc sB listA listN listC w R := by kernel_rfl
theorem bits_Set_Add.calls (sB : Nat) (listA : Option Addr) (listN : Nat) (listC : Nat) {w : World} {R : Value → World → Prop} (h : bits_Set_Add.vc sB listA listN listC w R) : Calls Try.prog 29 #[(.pointer (some (⟨sB, 0, none⟩ : Addr))), (.slice listA listN listC)] w (Ret R) :=
  calls_V fit Try.func29 .nil (by rw [show (#[(.pointer (some (⟨sB, 0, none⟩ : Addr))), (.slice listA listN listC)] : Array Value).toList = [(.pointer (some (⟨sB, 0, none⟩ : Addr))), (.slice listA listN listC)] from rfl, bits_Set_Add.vc_eq]; exact h)
/-- function 29 -/
def bits_Set_Add.vc_nil (listA : Option Addr) (listN : Nat) (listC : Nat) (w : World) (R : Value → World → Prop) : Prop :=
  Calls Try.prog 60 #[(.pointer none), (.bool true), (.slice listA listN listC)] w (Ret fun v w1 => ∃ (x7 : Int), v = (.int .i64 x7) ∧
  R (.int .i64 x7) w1)
theorem bits_Set_Add.vc_nil_eq (listA : Option Addr) (listN : Nat) (listC : Nat) (w : World) (R : Value → World → Prop) : fnV Try.prog Try.f29 .nil [(.pointer none), (.slice listA listN listC)] w R = bits_Set_Add.vc_nil listA listN listC w R := by kernel_rfl
theorem bits_Set_Add.calls_nil (listA : Option Addr) (listN : Nat) (listC : Nat) {w : World} {R : Value → World → Prop} (h : bits_Set_Add.vc_nil listA listN listC w R) : Calls Try.prog 29 #[(.pointer none), (.slice listA listN listC)] w (Ret R) :=
  calls_V fit Try.func29 .nil (by rw [show (#[(.pointer none), (.slice listA listN listC)] : Array Value).toList = [(.pointer none), (.slice listA listN listC)] from rfl, bits_Set_Add.vc_nil_eq]; exact h)
/-- function 34 -/
def bits_Set_Drop.vc (sB : Nat) (listA : Option Addr) (listN : Nat) (listC : Nat) (w : World) (R : Value → World → Prop) : Prop :=
  Calls Try.prog 60 #[(.pointer (some (⟨sB, 0, none⟩ : Addr))), (.bool false), (.slice listA listN listC)] w (Ret fun v w1 => ∃ (x7 : Int), v = (.int .i64 x7) ∧
  R (.int .i64 x7) w1)
theorem bits_Set_Drop.vc_eq (sB : Nat) (listA : Option Addr) (listN : Nat) (listC : Nat) (w : World) (R : Value → World → Prop) : fnV Try.prog Try.f34 .nil [(.pointer (some (⟨sB, 0, none⟩ : Addr))), (.slice listA listN listC)] w R = bits_Set_Drop.vc sB listA listN listC w R := by kernel_rfl
theorem bits_Set_Drop.calls (sB : Nat) (listA : Option Addr) (listN : Nat) (listC : Nat) {w : World} {R : Value → World → Prop} (h : bits_Set_Drop.vc sB listA listN listC w R) : Calls Try.prog 34 #[(.pointer (some (⟨sB, 0, none⟩ : Addr))), (.slice listA listN listC)] w (Ret R) :=
  calls_V fit Try.func34 .nil (by rw [show (#[(.pointer (some (⟨sB, 0, none⟩ : Addr))), (.slice listA listN listC)] : Array Value).toList = [(.pointer (some (⟨sB, 0, none⟩ : Addr))), (.slice listA listN listC)] from rfl, bits_Set_Drop.vc_eq]; exact h)
/-- function 34 -/
def bits_Set_Drop.vc_nil (listA : Option Addr) (listN : Nat) (listC : Nat) (w : World) (R : Value → World → Prop) : Prop :=
  Calls Try.prog 60 #[(.pointer none), (.bool false), (.slice listA listN listC)] w (Ret fun v w1 => ∃ (x7 : Int), v = (.int .i64 x7) ∧
  R (.int .i64 x7) w1)
theorem bits_Set_Drop.vc_nil_eq (listA : Option Addr) (listN : Nat) (listC : Nat) (w : World) (R : Value → World → Prop) : fnV Try.prog Try.f34 .nil [(.pointer none), (.slice listA listN listC)] w R = bits_Set_Drop.vc_nil listA listN listC w R := by kernel_rfl
theorem bits_Set_Drop.calls_nil (listA : Option Addr) (listN : Nat) (listC : Nat) {w : World} {R : Value → World → Prop} (h : bits_Set_Drop.vc_nil listA listN listC w R) : Calls Try.prog 34 #[(.pointer none), (.slice listA listN listC)] w (Ret R) :=
  calls_V fit Try.func34 .nil (by rw [show (#[(.pointer none), (.slice listA listN listC)] : Array Value).toList = [(.pointer none), (.slice listA listN listC)] from rfl, bits_Set_Drop.vc_nil_eq]; exact h)
/-- function 32 -/
def bits_Set_Has.vc (sB : Nat) (listA : Option Addr) (listN : Nat) (listC : Nat) (w : World) (R : Value → World → Prop) : Prop :=
  ∀ w1 : World, w1 = w.alloc (.cells #[(.pointer (some (⟨sB, 0, none⟩ : Addr)))] 30 (0, 0)) →
  ∃ (x5 : Option Addr), w1.cell? (⟨w.heap.size, 0, none⟩ : Addr) = some (.pointer x5) ∧
  (x5.isNone = true →
  R (.bool false) w1) ∧
  (x5.isNone = false →
  Calls Try.prog 62 #[(.slice listA listN listC), (.func (.func 63) #[] #[(.pointer (some (⟨w.heap.size, 0, none⟩ : Addr)))])] w1 (Ret fun v w2 => ∃ (x9 : Bool), v = (.bool x9) ∧
  R (.bool (!x9)) w2))
theorem bits_Set_Has.vc_eq (sB : Nat) (listA : Option Addr) (listN : Nat) (listC : Nat) (w : World) (R : Value → World → Prop) : fnV Try.prog Try.f32 (.c .nil .nil) [(.pointer (some (⟨sB, 0, none⟩ : Addr))), (.slice listA listN listC)] w R = bits_Set_Has.vc sB listA listN listC w R := by kernel_rfl
theorem bits_Set_Has.calls (sB : Nat) (listA : Option Addr) (listN : Nat) (listC : Nat) {w : World} {R : Value → World → Prop} (h : bits_Set_Has.vc sB listA listN listC w R) : Calls Try.prog 32 #[(.pointer (some (⟨sB, 0, none⟩ : Addr))), (.slice listA listN listC)] w (Ret R) :=
  calls_V fit Try.func32 (.c .nil .nil) (by rw [show (#[(.pointer (some (⟨sB, 0, none⟩ : Addr))), (.slice listA listN listC)] : Array Value).toList = [(.pointer (some (⟨sB, 0, none⟩ : Addr))), (.slice listA listN listC)] from rfl, bits_Set_Has.vc_eq]; exact h)
/-- function 32 -/
def bits_Set_Has.vc_nil (listA : Option Addr) (listN : Nat) (listC : Nat) (w : World) (R : Value → World → Prop) : Prop :=
  ∀ w1 : World, w1 = w.alloc (.cells #[(.pointer none)] 30 (0, 0)) →
  ∃ (x5 : Option Addr), w1.cell? (⟨w.heap.size, 0, none⟩ : Addr) = some (.pointer x5) ∧
  (x5.isNone = true →
  R (.bool false) w1) ∧
  (x5.isNone = false →
  Calls Try.prog 62 #[(.slice listA listN listC), (.func (.func 63) #[] #[(.pointer (some (⟨w.heap.size, 0, none⟩ : Addr)))])] w1 (Ret fun v w2 => ∃ (x9 : Bool), v = (.bool x9) ∧
  R (.bool (!x9)) w2))
theorem bits_Set_Has.vc_nil_eq (listA : Option Addr) (listN : Nat) (listC : Nat) (w : World) (R : Value → World → Prop) : fnV Try.prog Try.f32 (.c .nil .nil) [(.pointer none), (.slice listA listN listC)] w R = bits_Set_Has.vc_nil listA listN listC w R := by kernel_rfl
theorem bits_Set_Has.calls_nil (listA : Option Addr) (listN : Nat) (listC : Nat) {w : World} {R : Value → World → Prop} (h : bits_Set_Has.vc_nil listA listN listC w R) : Calls Try.prog 32 #[(.pointer none), (.slice listA listN listC)] w (Ret R) :=
  calls_V fit Try.func32 (.c .nil .nil) (by rw [show (#[(.pointer none), (.slice listA listN listC)] : Array Value).toList = [(.pointer none), (.slice listA listN listC)] from rfl, bits_Set_Has.vc_nil_eq]; exact h)
/-- function 33 -/
def bits_Set_Row.vc (sB : Nat) (w : World) (R : Value → World → Prop) : Prop :=
  ∃ (x10A : Option Addr), ∃ (x10N : Nat), ∃ (x10C : Nat), w.cell? (⟨sB, 0, none⟩ : Addr) = some (.slice x10A x10N x10C) ∧
  ∃ vI : Option Addr → Nat → Nat → Int → Nat → World → Prop, (∃ vk_2 : Nat, vI none 0 0 0 vk_2 w) ∧
  ∀ (jk : Nat → Value) (outA : Option Addr) (outN : Nat) (outC : Nat) (x12 : Int), ∀ (vk : Nat) (w1 : World), vI outA outN outC x12 vk w1 →
  (decide (x12 < ((x10N : Nat) : Int)) = true →
  (0 ≤ x12 ∧ x12 < ((x10N : Nat) : Int)) ∧ someV x10A fun p =>
  ∃ (x16 : Bool), w1.cell? (p.add (x12.toNat * 1)) = some (.bool x16) ∧
  (x16 = true →
  ∀ w2 : World, w2 = w1.alloc (.cells #[(.int .i64 x12)] 3 (0, 0)) →
  ∃ (x21A : Option Addr), ∃ (x21N : Nat), ∃ (x21C : Nat), ∃ w3 : World, (Builtin.append_ #[29, 29] 29 #[(.slice outA outN outC), (.slice (some (⟨w1.heap.size, 0, none⟩ : Addr)) 1 1)]).run Try.prog w2 = .ok (.slice x21A x21N x21C) w3 ∧
  ∃ vk_1 : Nat, vk_1 < vk ∧ vI x21A x21N x21C (IntKind.i64.wrap (x12 + 1)) vk_1 w3) ∧
  (x16 = false →
  ∃ vk_1 : Nat, vk_1 < vk ∧ vI outA outN outC (IntKind.i64.wrap (x12 + 1)) vk_1 w1)) ∧
  (decide (x12 < ((x10N : Nat) : Int)) = false →
  R (.slice outA outN outC) w1)
theorem bits_Set_Row.vc_eq (sB : Nat) (w : World) (R : Value → World → Prop) : fnV Try.prog Try.f33 (.k (.lp [(2, some (.slice)), (3, none), (4, none), (12, some (.int .i64)), (13, none), (14, none), (15, none), (16, none), (17, none), (18, none), (19, none), (20, none), (21, none), (22, none)] (.c (.c .nil .nil) .nil))) [(.pointer (some (⟨sB, 0, none⟩ : Addr)))] w R = bits_Set_Row.vc sB w R := by kernel_rfl
theorem bits_Set_Row.calls (sB : Nat) {w : World} {R : Value → World → Prop} (h : bits_Set_Row.vc sB w R) : Calls Try.prog 33 #[(.pointer (some (⟨sB, 0, none⟩ : Addr)))] w (Ret R) :=
  calls_V fit Try.func33 (.k (.lp [(2, some (.slice)), (3, none), (4, none), (12, some (.int .i64)), (13, none), (14, none), (15, none), (16, none), (17, none), (18, none), (19, none), (20, none), (21, none), (22, none)] (.c (.c .nil .nil) .nil))) (by rw [show (#[(.pointer (some (⟨sB, 0, none⟩ : Addr)))] : Array Value).toList = [(.pointer (some (⟨sB, 0, none⟩ : Addr)))] from rfl, bits_Set_Row.vc_eq]; exact h)
/-- function 33 -/
def bits_Set_Row.vc_nil (w : World) (R : Value → World → Prop) : Prop :=
  R (.slice none 0 0) w
theorem bits_Set_Row.vc_nil_eq (w : World) (R : Value → World → Prop) : fnV Try.prog Try.f33 (.k .nil) [(.pointer none)] w R = bits_Set_Row.vc_nil  w R := by kernel_rfl
theorem bits_Set_Row.calls_nil {w : World} {R : Value → World → Prop} (h : bits_Set_Row.vc_nil  w R) : Calls Try.prog 33 #[(.pointer none)] w (Ret R) :=
  calls_V fit Try.func33 (.k .nil) (by rw [show (#[(.pointer none)] : Array Value).toList = [(.pointer none)] from rfl, bits_Set_Row.vc_nil_eq]; exact h)
/-- function 30 -/
def bits_Set_Count.vc (sB : Nat) (w : World) (R : Value → World → Prop) : Prop :=
  Calls Try.prog 33 #[(.pointer (some (⟨sB, 0, none⟩ : Addr)))] w (Ret fun v w1 => ∃ (x4A : Option Addr), ∃ (x4N : Nat), ∃ (x4C : Nat), v = (.slice x4A x4N x4C) ∧
  R (.int .i64 ((x4N : Nat) : Int)) w1)
theorem bits_Set_Count.vc_eq (sB : Nat) (w : World) (R : Value → World → Prop) : fnV Try.prog Try.f30 .nil [(.pointer (some (⟨sB, 0, none⟩ : Addr)))] w R = bits_Set_Count.vc sB w R := by kernel_rfl
theorem bits_Set_Count.calls (sB : Nat) {w : World} {R : Value → World → Prop} (h : bits_Set_Count.vc sB w R) : Calls Try.prog 30 #[(.pointer (some (⟨sB, 0, none⟩ : Addr)))] w (Ret R) :=
  calls_V fit Try.func30 .nil (by rw [show (#[(.pointer (some (⟨sB, 0, none⟩ : Addr)))] : Array Value).toList = [(.pointer (some (⟨sB, 0, none⟩ : Addr)))] from rfl, bits_Set_Count.vc_eq]; exact h)
/-- function 30 -/
def bits_Set_Count.vc_nil (w : World) (R : Value → World → Prop) : Prop :=
  Calls Try.prog 33 #[(.pointer none)] w (Ret fun v w1 => ∃ (x4A : Option Addr), ∃ (x4N : Nat), ∃ (x4C : Nat), v = (.slice x4A x4N x4C) ∧
  R (.int .i64 ((x4N : Nat) : Int)) w1)
theorem bits_Set_Count.vc_nil_eq (w : World) (R : Value → World → Prop) : fnV Try.prog Try.f30 .nil [(.pointer none)] w R = bits_Set_Count.vc_nil  w R := by kernel_rfl
theorem bits_Set_Count.calls_nil {w : World} {R : Value → World → Prop} (h : bits_Set_Count.vc_nil  w R) : Calls Try.prog 30 #[(.pointer none)] w (Ret R) :=
  calls_V fit Try.func30 .nil (by rw [show (#[(.pointer none)] : Array Value).toList = [(.pointer none)] from rfl, bits_Set_Count.vc_nil_eq]; exact h)
/-- function 36 -/
def bits_Set_Len.vc (sB : Nat) (w : World) (R : Value → World → Prop) : Prop :=
  ∃ (x8A : Option Addr), ∃ (x8N : Nat), ∃ (x8C : Nat), w.cell? (⟨sB, 0, none⟩ : Addr) = some (.slice x8A x8N x8C) ∧
  R (.int .i64 ((x8N : Nat) : Int)) w
theorem bits_Set_Len.vc_eq (sB : Nat) (w : World) (R : Value → World → Prop) : fnV Try.prog Try.f36 (.k .nil) [(.pointer (some (⟨sB, 0, none⟩ : Addr)))] w R = bits_Set_Len.vc sB w R := by kernel_rfl
theorem bits_Set_Len.calls (sB : Nat) {w : World} {R : Value → World → Prop} (h : bits_Set_Len.vc sB w R) : Calls Try.prog 36 #[(.pointer (some (⟨sB, 0, none⟩ : Addr)))] w (Ret R) :=
  calls_V fit Try.func36 (.k .nil) (by rw [show (#[(.pointer (some (⟨sB, 0, none⟩ : Addr)))] : Array Value).toList = [(.pointer (some (⟨sB, 0, none⟩ : Addr)))] from rfl, bits_Set_Len.vc_eq]; exact h)
/-- function 36 -/
def bits_Set_Len.vc_nil (w : World) (R : Value → World → Prop) : Prop :=
  R (.int .i64 0) w
theorem bits_Set_Len.vc_nil_eq (w : World) (R : Value → World → Prop) : fnV Try.prog Try.f36 (.k .nil) [(.pointer none)] w R = bits_Set_Len.vc_nil  w R := by kernel_rfl
theorem bits_Set_Len.calls_nil {w : World} {R : Value → World → Prop} (h : bits_Set_Len.vc_nil  w R) : Calls Try.prog 36 #[(.pointer none)] w (Ret R) :=
  calls_V fit Try.func36 (.k .nil) (by rw [show (#[(.pointer none)] : Array Value).toList = [(.pointer none)] from rfl, bits_Set_Len.vc_nil_eq]; exact h)
/-- function 31 -/
def bits_Set_First.vc (sB : Nat) (w : World) (R : Value → World → Prop) : Prop :=
  ∃ (x8A : Option Addr), ∃ (x8N : Nat), ∃ (x8C : Nat), w.cell? (⟨sB, 0, none⟩ : Addr) = some (.slice x8A x8N x8C) ∧
  Calls Try.prog 61 #[(.slice x8A x8N x8C), (.bool false)] w (Ret fun v w1 => ∃ (x9 : Int), v = (.int .i64 x9) ∧
  R (.int .i64 x9) w1)
theorem bits_Set_First.vc_eq (sB : Nat) (w : World) (R : Value → World → Prop) : fnV Try.prog Try.f31 (.k .nil) [(.pointer (some (⟨sB, 0, none⟩ : Addr)))] w R = bits_Set_First.vc sB w R := by kernel_rfl
theorem bits_Set_First.calls (sB : Nat) {w : World} {R : Value → World → Prop} (h : bits_Set_First.vc sB w R) : Calls Try.prog 31 #[(.pointer (some (⟨sB, 0, none⟩ : Addr)))] w (Ret R) :=
  calls_V fit Try.func31 (.k .nil) (by rw [show (#[(.pointer (some (⟨sB, 0, none⟩ : Addr)))] : Array Value).toList = [(.pointer (some (⟨sB, 0, none⟩ : Addr)))] from rfl, bits_Set_First.vc_eq]; exact h)
/-- function 31 -/
def bits_Set_First.vc_nil (w : World) (R : Value → World → Prop) : Prop :=
  R (.int .i64 (-1)) w
theorem bits_Set_First.vc_nil_eq (w : World) (R : Value → World → Prop) : fnV Try.prog Try.f31 (.k .nil) [(.pointer none)] w R = bits_Set_First.vc_nil  w R := by kernel_rfl
theorem bits_Set_First.calls_nil {w : World} {R : Value → World → Prop} (h : bits_Set_First.vc_nil  w R) : Calls Try.prog 31 #[(.pointer none)] w (Ret R) :=
  calls_V fit Try.func31 (.k .nil) (by rw [show (#[(.pointer none)] : Array Value).toList = [(.pointer none)] from rfl, bits_Set_First.vc_nil_eq]; exact h)
/-- function 37 -/
def bits_Set_Text.vc (sB : Nat) (w : World) (R : Value → World → Prop) : Prop :=
  Calls Try.prog 36 #[(.pointer (some (⟨sB, 0, none⟩ : Addr)))] w (Ret fun v w1 => ∃ (x7 : Int), v = (.int .i64 x7) ∧
  (8 : Int) ≠ 0 ∧
  ((IntKind.i64.wrap (Int.tdiv (IntKind.i64.wrap ((IntKind.i64.wrap (x7 + 8)) - 1)) 8)) = (IntKind.i64.wrap (Int.tdiv (IntKind.i64.wrap ((IntKind.i64.wrap (x7 + 8)) - 1)) 8)) ∧ 0 ≤ (IntKind.i64.wrap (Int.tdiv (IntKind.i64.wrap ((IntKind.i64.wrap (x7 + 8)) - 1)) 8)) ∧ (IntKind.i64.wrap (Int.tdiv (IntKind.i64.wrap ((IntKind.i64.wrap (x7 + 8)) - 1)) 8)) * (1 : Int) ≤ 140737488355328) ∧ ∀ w2 : World, w2 = w1.alloc (.cells (zeroRow [(.int .u8 0)] (IntKind.i64.wrap (Int.tdiv (IntKind.i64.wrap ((IntKind.i64.wrap (x7 + 8)) - 1)) 8)).toNat).toArray 5 (0, 0)) →
  Calls Try.prog 33 #[(.pointer (some (⟨sB, 0, none⟩ : Addr)))] w2 (Ret fun v_1 w3 => ∃ (x13A : Option Addr), ∃ (x13N : Nat), ∃ (x13C : Nat), v_1 = (.slice x13A x13N x13C) ∧
  ∃ vI : Int → Nat → World → Prop, (∃ vk_2 : Nat, vI 0 vk_2 w3) ∧
  ∀ (jk : Nat → Value) (x15 : Int), ∀ (vk : Nat) (w4 : World), vI x15 vk w4 →
  (decide (x15 < ((x13N : Nat) : Int)) = true →
  (0 ≤ x15 ∧ x15 < ((x13N : Nat) : Int)) ∧ someV x13A fun p =>
  ∃ (x18 : Int), w4.cell? (p.add (x15.toNat * 1)) = some (.int .i64 x18) ∧
  ∃ vS : World → Prop, ∀ w5 : World, w5 = w4.drew → vS w5 ∧
  (8 : Int) ≠ 0 ∧
  (0 ≤ (IntKind.i64.wrap (Int.tdiv x18 8)) ∧ (IntKind.i64.wrap (Int.tdiv x18 8)) < (((IntKind.i64.wrap (Int.tdiv (IntKind.i64.wrap ((IntKind.i64.wrap (x7 + 8)) - 1)) 8)).toNat : Nat) : Int)) ∧
  (8 : Int) ≠ 0 ∧
  0 ≤ (Int.tmod x18 8) ∧
  ∃ (x23 : Int), w5.cell? ((⟨w1.heap.size, 0, none⟩ : Addr).add ((IntKind.i64.wrap (Int.tdiv x18 8)).toNat * 1)) = some (.int .u8 x23) ∧
  vS w5 ∧
  (0 ≤ (IntKind.i64.wrap (Int.tdiv x18 8)) ∧ (IntKind.i64.wrap (Int.tdiv x18 8)) < (((IntKind.i64.wrap (Int.tdiv (IntKind.i64.wrap ((IntKind.i64.wrap (x7 + 8)) - 1)) 8)).toNat : Nat) : Int)) ∧
  (((∃ u, w5.cell? ((⟨w1.heap.size, 0, none⟩ : Addr).add ((IntKind.i64.wrap (Int.tdiv x18 8)).toNat * 1)) = some u) ∧ w5.frozen? ((⟨w1.heap.size, 0, none⟩ : Addr).add ((IntKind.i64.wrap (Int.tdiv x18 8)).toNat * 1)) = false)) ∧ ∀ w6 : World, w6 = (w5.setCell ((⟨w1.heap.size, 0, none⟩ : Addr).add ((IntKind.i64.wrap (Int.tdiv x18 8)).toNat * 1)) (.int .u8 (Go.bits .or .u8 x23 (IntKind.u8.wrap (1 * 2 ^ (min (Int.tmod x18 8).toNat IntKind.u8.bits)))))) →
  vS w6 ∧
  ∃ vk_1 : Nat, vk_1 < vk ∧ vI (IntKind.i64.wrap (x15 + 1)) vk_1 w6) ∧
  (decide (x15 < ((x13N : Nat) : Int)) = false →
  ∃ (x31 : ByteArray), ∃ w7 : World, (convert 84 9 (.slice (some (⟨w1.heap.size, 0, none⟩ : Addr)) ((IntKind.i64.wrap (Int.tdiv (IntKind.i64.wrap ((IntKind.i64.wrap (x7 + 8)) - 1)) 8)).toNat) ((IntKind.i64.wrap (Int.tdiv (IntKind.i64.wrap ((IntKind.i64.wrap (x7 + 8)) - 1)) 8)).toNat))).run Try.prog w4 = .ok (.string x31) w7 ∧
  R (.string x31) w7)))
theorem bits_Set_Text.vc_eq (sB : Nat) (w : World) (R : Value → World → Prop) : fnV Try.prog Try.f37 (.lp [(5, none), (15, some (.int .i64)), (16, none), (17, none), (18, none), (19, none), (20, none), (21, none), (22, none), (23, none), (24, none), (25, none), (26, none), (27, none), (28, none), (29, none)] (.c (.tk 0 (.tk 1 (.tk 2 (.tk 3 (.tk 5 (.tk 6 (.tk 7 (.alt 4 (.tk 8 (.tk 9 (.alt 10 (.fin .nil) .nil))) .nil)))))))) .nil)) [(.pointer (some (⟨sB, 0, none⟩ : Addr)))] w R = bits_Set_Text.vc sB w R := by kernel_rfl
theorem bits_Set_Text.calls (sB : Nat) {w : World} {R : Value → World → Prop} (h : bits_Set_Text.vc sB w R) : Calls Try.prog 37 #[(.pointer (some (⟨sB, 0, none⟩ : Addr)))] w (Ret R) :=
  calls_V fit Try.func37 (.lp [(5, none), (15, some (.int .i64)), (16, none), (17, none), (18, none), (19, none), (20, none), (21, none), (22, none), (23, none), (24, none), (25, none), (26, none), (27, none), (28, none), (29, none)] (.c (.tk 0 (.tk 1 (.tk 2 (.tk 3 (.tk 5 (.tk 6 (.tk 7 (.alt 4 (.tk 8 (.tk 9 (.alt 10 (.fin .nil) .nil))) .nil)))))))) .nil)) (by rw [show (#[(.pointer (some (⟨sB, 0, none⟩ : Addr)))] : Array Value).toList = [(.pointer (some (⟨sB, 0, none⟩ : Addr)))] from rfl, bits_Set_Text.vc_eq]; exact h)
/-- function 37 -/
def bits_Set_Text.vc_nil (w : World) (R : Value → World → Prop) : Prop :=
  Calls Try.prog 36 #[(.pointer none)] w (Ret fun v w1 => ∃ (x7 : Int), v = (.int .i64 x7) ∧
  (8 : Int) ≠ 0 ∧
  ((IntKind.i64.wrap (Int.tdiv (IntKind.i64.wrap ((IntKind.i64.wrap (x7 + 8)) - 1)) 8)) = (IntKind.i64.wrap (Int.tdiv (IntKind.i64.wrap ((IntKind.i64.wrap (x7 + 8)) - 1)) 8)) ∧ 0 ≤ (IntKind.i64.wrap (Int.tdiv (IntKind.i64.wrap ((IntKind.i64.wrap (x7 + 8)) - 1)) 8)) ∧ (IntKind.i64.wrap (Int.tdiv (IntKind.i64.wrap ((IntKind.i64.wrap (x7 + 8)) - 1)) 8)) * (1 : Int) ≤ 140737488355328) ∧ ∀ w2 : World, w2 = w1.alloc (.cells (zeroRow [(.int .u8 0)] (IntKind.i64.wrap (Int.tdiv (IntKind.i64.wrap ((IntKind.i64.wrap (x7 + 8)) - 1)) 8)).toNat).toArray 5 (0, 0)) →
  Calls Try.prog 33 #[(.pointer none)] w2 (Ret fun v_1 w3 => ∃ (x13A : Option Addr), ∃ (x13N : Nat), ∃ (x13C : Nat), v_1 = (.slice x13A x13N x13C) ∧
  ∃ vI : Int → Nat → World → Prop, (∃ vk_2 : Nat, vI 0 vk_2 w3) ∧
  ∀ (jk : Nat → Value) (x15 : Int), ∀ (vk : Nat) (w4 : World), vI x15 vk w4 →
  (decide (x15 < ((x13N : Nat) : Int)) = true →
  (0 ≤ x15 ∧ x15 < ((x13N : Nat) : Int)) ∧ someV x13A fun p =>
  ∃ (x18 : Int), w4.cell? (p.add (x15.toNat * 1)) = some (.int .i64 x18) ∧
  ∃ vS : World → Prop, ∀ w5 : World, w5 = w4.drew → vS w5 ∧
  (8 : Int) ≠ 0 ∧
  (0 ≤ (IntKind.i64.wrap (Int.tdiv x18 8)) ∧ (IntKind.i64.wrap (Int.tdiv x18 8)) < (((IntKind.i64.wrap (Int.tdiv (IntKind.i64.wrap ((IntKind.i64.wrap (x7 + 8)) - 1)) 8)).toNat : Nat) : Int)) ∧
  (8 : Int) ≠ 0 ∧
  0 ≤ (Int.tmod x18 8) ∧
  ∃ (x23 : Int), w5.cell? ((⟨w1.heap.size, 0, none⟩ : Addr).add ((IntKind.i64.wrap (Int.tdiv x18 8)).toNat * 1)) = some (.int .u8 x23) ∧
  vS w5 ∧
  (0 ≤ (IntKind.i64.wrap (Int.tdiv x18 8)) ∧ (IntKind.i64.wrap (Int.tdiv x18 8)) < (((IntKind.i64.wrap (Int.tdiv (IntKind.i64.wrap ((IntKind.i64.wrap (x7 + 8)) - 1)) 8)).toNat : Nat) : Int)) ∧
  (((∃ u, w5.cell? ((⟨w1.heap.size, 0, none⟩ : Addr).add ((IntKind.i64.wrap (Int.tdiv x18 8)).toNat * 1)) = some u) ∧ w5.frozen? ((⟨w1.heap.size, 0, none⟩ : Addr).add ((IntKind.i64.wrap (Int.tdiv x18 8)).toNat * 1)) = false)) ∧ ∀ w6 : World, w6 = (w5.setCell ((⟨w1.heap.size, 0, none⟩ : Addr).add ((IntKind.i64.wrap (Int.tdiv x18 8)).toNat * 1)) (.int .u8 (Go.bits .or .u8 x23 (IntKind.u8.wrap (1 * 2 ^ (min (Int.tmod x18 8).toNat IntKind.u8.bits)))))) →
  vS w6 ∧
  ∃ vk_1 : Nat, vk_1 < vk ∧ vI (IntKind.i64.wrap (x15 + 1)) vk_1 w6) ∧
  (decide (x15 < ((x13N : Nat) : Int)) = false →
  ∃ (x31 : ByteArray), ∃ w7 : World, (convert 84 9 (.slice (some (⟨w1.heap.size, 0, none⟩ : Addr)) ((IntKind.i64.wrap (Int.tdiv (IntKind.i64.wrap ((IntKind.i64.wrap (x7 + 8)) - 1)) 8)).toNat) ((IntKind.i64.wrap (Int.tdiv (IntKind.i64.wrap ((IntKind.i64.wrap (x7 + 8)) - 1)) 8)).toNat))).run Try.prog w4 = .ok (.string x31) w7 ∧
  R (.string x31) w7)))
theorem bits_Set_Text.vc_nil_eq (w : World) (R : Value → World → Prop) : fnV Try.prog Try.f37 (.lp [(5, none), (15, some (.int .i64)), (16, none), (17, none), (18, none), (19, none), (20, none), (21, none), (22, none), (23, none), (24, none), (25, none), (26, none), (27, none), (28, none), (29, none)] (.c (.tk 0 (.tk 1 (.tk 2 (.tk 3 (.tk 5 (.tk 6 (.tk 7 (.alt 4 (.tk 8 (.tk 9 (.alt 10 (.fin .nil) .nil))) .nil)))))))) .nil)) [(.pointer none)] w R = bits_Set_Text.vc_nil  w R := by kernel_rfl
theorem bits_Set_Text.calls_nil {w : World} {R : Value → World → Prop} (h : bits_Set_Text.vc_nil  w R) : Calls Try.prog 37 #[(.pointer none)] w (Ret R) :=
  calls_V fit Try.func37 (.lp [(5, none), (15, some (.int .i64)), (16, none), (17, none), (18, none), (19, none), (20, none), (21, none), (22, none), (23, none), (24, none), (25, none), (26, none), (27, none), (28, none), (29, none)] (.c (.tk 0 (.tk 1 (.tk 2 (.tk 3 (.tk 5 (.tk 6 (.tk 7 (.alt 4 (.tk 8 (.tk 9 (.alt 10 (.fin .nil) .nil))) .nil)))))))) .nil)) (by rw [show (#[(.pointer none)] : Array Value).toList = [(.pointer none)] from rfl, bits_Set_Text.vc_nil_eq]; exact h)
/-- function 61 -/
def slices_Index.vc (sA : Option Addr) (sN : Nat) (sC : Nat) (v : Bool) (w : World) (R : Value → World → Prop) : Prop :=
  ∃ vI : Int → Nat → World → Prop, (∃ vk_2 : Nat, vI 0 vk_2 w) ∧
  ∀ (jk : Nat → Value) (x8 : Int), ∀ (vk : Nat) (w1 : World), vI x8 vk w1 →
  (decide (x8 < ((sN : Nat) : Int)) = true →
  (0 ≤ x8 ∧ x8 < ((sN : Nat) : Int)) ∧ someV sA fun p =>
  ∃ (x15 : Bool), w1.cell? (p.add (x8.toNat * 1)) = some (.bool x15) ∧
  ((v == x15) = true →
  R (.int .i64 x8) w1) ∧
  ((v == x15) = false →
  ∃ vk_1 : Nat, vk_1 < vk ∧ vI (IntKind.i64.wrap (x8 + 1)) vk_1 w1)) ∧
  (decide (x8 < ((sN : Nat) : Int)) = false →
  R (.int .i64 (-1)) w1)
theorem slices_Index.vc_eq (sA : Option Addr) (sN : Nat) (sC : Nat) (v : Bool) (w : World) (R : Value → World → Prop) : fnV Try.prog Try.f61 (.lp [(4, none), (5, none), (8, some (.int .i64)), (9, none), (10, none), (11, none), (12, none), (13, none), (14, none), (15, none), (16, none), (17, none), (18, none)] (.c (.c .nil .nil) .nil)) [(.slice sA sN sC), (.bool v)] w R = slices_Index.vc sA sN sC v w R := by kernel_rfl
theorem slices_Index.calls (sA : Option Addr) (sN : Nat) (sC : Nat) (v : Bool) {w : World} {R : Value → World → Prop} (h : slices_Index.vc sA sN sC v w R) : Calls Try.prog 61 #[(.slice sA sN sC), (.bool v)] w (Ret R) :=
  calls_V fit Try.func61 (.lp [(4, none), (5, none), (8, some (.int .i64)), (9, none), (10, none), (11, none), (12, none), (13, none), (14, none), (15, none), (16, none), (17, none), (18, none)] (.c (.c .nil .nil) .nil)) (by rw [show (#[(.slice sA sN sC), (.bool v)] : Array Value).toList = [(.slice sA sN sC), (.bool v)] from rfl, slices_Index.vc_eq]; exact h)
/-- function 64 -/
def slices_Equal.vc (s1A : Option Addr) (s1N : Nat) (s1C : Nat) (s2A : Option Addr) (s2N : Nat) (s2C : Nat) (w : World) (R : Value → World → Prop) : Prop :=
  ((((s1N : Nat) : Int) != ((s2N : Nat) : Int)) = true →
  R (.bool false) w) ∧
  ((((s1N : Nat) : Int) != ((s2N : Nat) : Int)) = false →
  ∃ vI : Int → Nat → World → Prop, (∃ vk_2 : Nat, vI 0 vk_2 w) ∧
  ∀ (jk : Nat → Value) (x13 : Int), ∀ (vk : Nat) (w1 : World), vI x13 vk w1 →
  (decide (x13 < ((s1N : Nat) : Int)) = true →
  ∃ vS : World → Prop, ∀ w2 : World, w2 = w1.drew → vS w2 ∧
  (0 ≤ x13 ∧ x13 < ((s1N : Nat) : Int)) ∧ someV s1A fun p =>
  ∃ (x19 : Bool), (∀ w3, vS w3 → w3.cell? (p.add (x13.toNat * 1)) = some (.bool x19)) ∧
  (0 ≤ x13 ∧ x13 < ((s2N : Nat) : Int)) ∧ someV s2A fun p_1 =>
  ∃ (x23 : Bool), (∀ w4, vS w4 → w4.cell? (p_1.add (x13.toNat * 1)) = some (.bool x23)) ∧
  ((!(x19 == x23)) = true →
  R (.bool false) w2) ∧
  ((!(x19 == x23)) = false →
  ∃ vk_1 : Nat, vk_1 < vk ∧ vI (IntKind.i64.wrap (x13 + 1)) vk_1 w2)) ∧
  (decide (x13 < ((s1N : Nat) : Int)) = false →
  R (.bool true) w1))
theorem slices_Equal.vc_eq (s1A : Option Addr) (s1N : Nat) (s1C : Nat) (s2A : Option Addr) (s2N : Nat) (s2C : Nat) (w : World) (R : Value → World → Prop) : fnV Try.prog Try.f64 (.c .nil (.lp [(4, none), (5, none), (13, some (.int .i64)), (14, none), (15, none), (16, none), (17, none), (18, none), (19, none), (20, none), (21, none), (22, none), (23, none), (24, none), (25, none)] (.c (.tk 0 (.tk 1 (.tk 2 (.tk 3 (.tk 4 (.tk 5 (.tk 6 (.tk 7 (.tk 8 (.fin (.c .nil .nil))))))))))) .nil))) [(.slice s1A s1N s1C), (.slice s2A s2N s2C)] w R = slices_Equal.vc s1A s1N s1C s2A s2N s2C w R := by kernel_rfl
theorem slices_Equal.calls (s1A : Option Addr) (s1N : Nat) (s1C : Nat) (s2A : Option Addr) (s2N : Nat) (s2C : Nat) {w : World} {R : Value → World → Prop} (h : slices_Equal.vc s1A s1N s1C s2A s2N s2C w R) : Calls Try.prog 64 #[(.slice s1A s1N s1C), (.slice s2A s2N s2C)] w (Ret R) :=
  calls_V fit Try.func64 (.c .nil (.lp [(4, none), (5, none), (13, some (.int .i64)), (14, none), (15, none), (16, none), (17, none), (18, none), (19, none), (20, none), (21, none), (22, none), (23, none), (24, none), (25, none)] (.c (.tk 0 (.tk 1 (.tk 2 (.tk 3 (.tk 4 (.tk 5 (.tk 6 (.tk 7 (.tk 8 (.fin (.c .nil .nil))))))))))) .nil))) (by rw [show (#[(.slice s1A s1N s1C), (.slice s2A s2N s2C)] : Array Value).toList = [(.slice s1A s1N s1C), (.slice s2A s2N s2C)] from rfl, slices_Equal.vc_eq]; exact h)
/-- function 39 -/
def bits_Parse.vc (n : Int) (t : ByteArray) (w : World) (R : Value → World → Prop) : Prop :=
  Calls Try.prog 28 #[(.int .i64 n)] w (Ret fun v w1 => ∃ (x11 : Option Addr), v = (.pointer x11) ∧
  (x11.isNone = true →
  R (.tuple #[(.pointer none), (.int .i64 1)]) w1) ∧
  (x11.isNone = false →
  ∃ (x15A : Option Addr), ∃ (x15N : Nat), ∃ (x15C : Nat), ∃ w2 : World, (convert 9 84 (.string t)).run Try.prog w1 = .ok (.slice x15A x15N x15C) w2 ∧
  ∃ vI : Int → Nat → World → Prop, (∃ vk_2 : Nat, vI 0 vk_2 w2) ∧
  ∀ (jk : Nat → Value) (x17 : Int), ∀ (vk : Nat) (w3 : World), vI x17 vk w3 →
  (decide (x17 < ((x15N : Nat) : Int)) = true →
  (0 ≤ x17 ∧ x17 < ((x15N : Nat) : Int)) ∧ someV x15A fun p =>
  ∃ (x21 : Int), w3.cell? (p.add (x17.toNat * 1)) = some (.int .u8 x21) ∧
  ∃ vI_1 : Int → Nat → World → Prop, (∃ vk_5 : Nat, vI_1 0 vk_5 w3) ∧
  ∀ (jk : Nat → Value) (x22 : Int), ∀ (vk_3 : Nat) (w4 : World), vI_1 x22 vk_3 w4 →
  (decide (x22 < (8 : Int)) = true →
  0 ≤ x22 ∧
  (((Go.bits .and .u8 (Int.fdiv x21 (2 ^ (min x22.toNat IntKind.u8.bits))) 1) == (1 : Int)) = true →
  ∀ w5 : World, w5 = w4.alloc (.cells #[(.int .i64 (IntKind.i64.wrap ((IntKind.i64.wrap (x17 * 8)) + x22)))] 3 (0, 0)) →
  Calls Try.prog 29 #[(.pointer x11), (.slice (some (⟨w4.heap.size, 0, none⟩ : Addr)) 1 1)] w5 (Ret fun v_1 w6 => ∃ (x37 : Int), v_1 = (.int .i64 x37) ∧
  ((x37 != (0 : Int)) = true →
  R (.tuple #[(.pointer none), (.int .i64 5)]) w6) ∧
  ((x37 != (0 : Int)) = false →
  ∃ vk_4 : Nat, vk_4 < vk_3 ∧ vI_1 (IntKind.i64.wrap (x22 + 1)) vk_4 w6))) ∧
  (((Go.bits .and .u8 (Int.fdiv x21 (2 ^ (min x22.toNat IntKind.u8.bits))) 1) == (1 : Int)) = false →
  ∃ vk_4 : Nat, vk_4 < vk_3 ∧ vI_1 (IntKind.i64.wrap (x22 + 1)) vk_4 w4)) ∧
  (decide (x22 < (8 : Int)) = false →
  ∃ vk_1 : Nat, vk_1 < vk ∧ vI (IntKind.i64.wrap (x17 + 1)) vk_1 w4)) ∧
  (decide (x17 < ((x15N : Nat) : Int)) = false →
  Calls Try.prog 37 #[(.pointer x11)] w3 (Ret fun v_2 w7 => ∃ (x45 : ByteArray), v_2 = (.string x45) ∧
  ((((t.size : Nat) : Int) != ((x45.size : Nat) : Int)) = true →
  R (.tuple #[(.pointer none), (.int .i64 5)]) w7) ∧
  ((((t.size : Nat) : Int) != ((x45.size : Nat) : Int)) = false →
  R (.tuple #[(.pointer x11), (.int .i64 0)]) w7)))))
theorem bits_Parse.vc_eq (n : Int) (t : ByteArray) (w : World) (R : Value → World → Prop) : fnV Try.prog Try.f39 (.c .nil (.lp [(4, none), (5, none), (7, none), (8, none), (9, none), (17, some (.int .i64)), (18, none), (19, none), (20, none), (21, none), (22, none), (23, none), (24, none), (25, none), (26, none), (27, none), (28, none), (29, none), (30, none), (31, none), (32, none), (33, none), (34, none), (35, none), (36, none), (37, none), (38, none), (39, none), (40, none), (41, none)] (.c (.lp [(4, none), (5, none), (9, none), (22, some (.int .i64)), (23, none), (24, none), (25, none), (26, none), (27, none), (28, none), (29, none), (30, none), (31, none), (32, none), (33, none), (34, none), (35, none), (36, none), (37, none), (38, none), (39, none), (40, none)] (.c (.at_ 10 5 (.c .nil .nil) (.k .nil)) .nil)) (.c .nil .nil)))) [(.int .i64 n), (.string t)] w R = bits_Parse.vc n t w R := by kernel_rfl
theorem bits_Parse.calls (n : Int) (t : ByteArray) {w : World} {R : Value → World → Prop} (h : bits_Parse.vc n t w R) : Calls Try.prog 39 #[(.int .i64 n), (.string t)] w (Ret R) :=
  calls_V fit Try.func39 (.c .nil (.lp [(4, none), (5, none), (7, none), (8, none), (9, none), (17, some (.int .i64)), (18, none), (19, none), (20, none), (21, none), (22, none), (23, none), (24, none), (25, none), (26, none), (27, none), (28, none), (29, none), (30, none), (31, none), (32, none), (33, none), (34, none), (35, none), (36, none), (37, none), (38, none), (39, none), (40, none), (41, none)] (.c (.lp [(4, none), (5, none), (9, none), (22, some (.int .i64)), (23, none), (24, none), (25, none), (26, none), (27, none), (28, none), (29, none), (30, none), (31, none), (32, none), (33, none), (34, none), (35, none), (36, none), (37, none), (38, none), (39, none), (40, none)] (.c (.at_ 10 5 (.c .nil .nil) (.k .nil)) .nil)) (.c .nil .nil)))) (by rw [show (#[(.int .i64 n), (.string t)] : Array Value).toList = [(.int .i64 n), (.string t)] from rfl, bits_Parse.vc_eq]; exact h)
/-- function 41 -/
def bits_Same.vc (aB : Nat) (bB : Nat) (w : World) (R : Value → World → Prop) : Prop :=
  ∃ vS : World → Prop, ∀ w1 : World, w1 = w.drew → vS w1 ∧
  ∃ (x20A : Option Addr), ∃ (x20N : Nat), ∃ (x20C : Nat), (∀ w2, vS w2 → w2.cell? (⟨aB, 0, none⟩ : Addr) = some (.slice x20A x20N x20C)) ∧
  ∃ (x24A : Option Addr), ∃ (x24N : Nat), ∃ (x24C : Nat), (∀ w3, vS w3 → w3.cell? (⟨bB, 0, none⟩ : Addr) = some (.slice x24A x24N x24C)) ∧
  Calls Try.prog 64 #[(.slice x20A x20N x20C), (.slice x24A x24N x24C)] w1 (Ret fun v w4 => ∃ (x25 : Bool), v = (.bool x25) ∧
  vS w4 ∧
  R (.bool x25) w4)
theorem bits_Same.vc_eq (aB : Nat) (bB : Nat) (w : World) (R : Value → World → Prop) : fnV Try.prog Try.f41 (.k (.tk 0 (.tk 1 (.tk 2 (.tk 3 (.tk 4 (.tk 5 (.tk 6 (.tk 7 (.alt 8 (.tk 9 (.fin .nil)) .nil)))))))))) [(.pointer (some (⟨aB, 0, none⟩ : Addr))), (.pointer (some (⟨bB, 0, none⟩ : Addr)))] w R = bits_Same.vc aB bB w R := by kernel_rfl
theorem bits_Same.calls (aB : Nat) (bB : Nat) {w : World} {R : Value → World → Prop} (h : bits_Same.vc aB bB w R) : Calls Try.prog 41 #[(.pointer (some (⟨aB, 0, none⟩ : Addr))), (.pointer (some (⟨bB, 0, none⟩ : Addr)))] w (Ret R) :=
  calls_V fit Try.func41 (.k (.tk 0 (.tk 1 (.tk 2 (.tk 3 (.tk 4 (.tk 5 (.tk 6 (.tk 7 (.alt 8 (.tk 9 (.fin .nil)) .nil)))))))))) (by rw [show (#[(.pointer (some (⟨aB, 0, none⟩ : Addr))), (.pointer (some (⟨bB, 0, none⟩ : Addr)))] : Array Value).toList = [(.pointer (some (⟨aB, 0, none⟩ : Addr))), (.pointer (some (⟨bB, 0, none⟩ : Addr)))] from rfl, bits_Same.vc_eq]; exact h)
/-- function 41 -/
def bits_Same.vc_nn (w : World) (R : Value → World → Prop) : Prop :=
  R (.bool true) w
theorem bits_Same.vc_nn_eq (w : World) (R : Value → World → Prop) : fnV Try.prog Try.f41 (.k .nil) [(.pointer none), (.pointer none)] w R = bits_Same.vc_nn  w R := by kernel_rfl
theorem bits_Same.calls_nn {w : World} {R : Value → World → Prop} (h : bits_Same.vc_nn  w R) : Calls Try.prog 41 #[(.pointer none), (.pointer none)] w (Ret R) :=
  calls_V fit Try.func41 (.k .nil) (by rw [show (#[(.pointer none), (.pointer none)] : Array Value).toList = [(.pointer none), (.pointer none)] from rfl, bits_Same.vc_nn_eq]; exact h)
/-- function 41 -/
def bits_Same.vc_xn (aB : Nat) (w : World) (R : Value → World → Prop) : Prop :=
  R (.bool false) w
theorem bits_Same.vc_xn_eq (aB : Nat) (w : World) (R : Value → World → Prop) : fnV Try.prog Try.f41 (.k .nil) [(.pointer (some (⟨aB, 0, none⟩ : Addr))), (.pointer none)] w R = bits_Same.vc_xn aB w R := by kernel_rfl
theorem bits_Same.calls_xn (aB : Nat) {w : World} {R : Value → World → Prop} (h : bits_Same.vc_xn aB w R) : Calls Try.prog 41 #[(.pointer (some (⟨aB, 0, none⟩ : Addr))), (.pointer none)] w (Ret R) :=
  calls_V fit Try.func41 (.k .nil) (by rw [show (#[(.pointer (some (⟨aB, 0, none⟩ : Addr))), (.pointer none)] : Array Value).toList = [(.pointer (some (⟨aB, 0, none⟩ : Addr))), (.pointer none)] from rfl, bits_Same.vc_xn_eq]; exact h)
/-- function 38 -/
def coadjutorref08_Text.vc (lA : Option Addr) (lN : Nat) (lC : Nat) (w : World) (R : Value → World → Prop) : Prop :=
  (8 : Int) ≠ 0 ∧
  ((IntKind.i64.wrap (Int.tdiv (IntKind.i64.wrap (((lN : Nat) : Int) + 7)) 8)) = (IntKind.i64.wrap (Int.tdiv (IntKind.i64.wrap (((lN : Nat) : Int) + 7)) 8)) ∧ 0 ≤ (IntKind.i64.wrap (Int.tdiv (IntKind.i64.wrap (((lN : Nat) : Int) + 7)) 8)) ∧ (IntKind.i64.wrap (Int.tdiv (IntKind.i64.wrap (((lN : Nat) : Int) + 7)) 8)) * (1 : Int) ≤ 140737488355328) ∧ ∀ w1 : World, w1 = w.alloc (.cells (zeroRow [(.int .u8 0)] (IntKind.i64.wrap (Int.tdiv (IntKind.i64.wrap (((lN : Nat) : Int) + 7)) 8)).toNat).toArray 5 (0, 0)) →
  ∃ vI : Int → Nat → World → Prop, (∃ vk_2 : Nat, vI 0 vk_2 w1) ∧
  ∀ (jk : Nat → Value) (i : Int), ∀ (vk : Nat) (w2 : World), vI i vk w2 →
  (decide (i < ((lN : Nat) : Int)) = true →
  (0 ≤ i ∧ i < ((lN : Nat) : Int)) ∧ someV lA fun p =>
  ∃ (x19 : Bool), w2.cell? (p.add (i.toNat * 1)) = some (.bool x19) ∧
  (x19 = true →
  ∃ vS : World → Prop, ∀ w3 : World, w3 = w2.drew → vS w3 ∧
  (8 : Int) ≠ 0 ∧
  (8 : Int) ≠ 0 ∧
  (0 ≤ (IntKind.i64.wrap (Int.tdiv i 8)) ∧ (IntKind.i64.wrap (Int.tdiv i 8)) < (((IntKind.i64.wrap (Int.tdiv (IntKind.i64.wrap (((lN : Nat) : Int) + 7)) 8)).toNat : Nat) : Int)) ∧
  (8 : Int) ≠ 0 ∧
  0 ≤ (Int.tmod i 8) ∧
  ∃ (x27 : Int), w3.cell? ((⟨w.heap.size, 0, none⟩ : Addr).add ((IntKind.i64.wrap (Int.tdiv i 8)).toNat * 1)) = some (.int .u8 x27) ∧
  vS w3 ∧
  (0 ≤ (IntKind.i64.wrap (Int.tdiv i 8)) ∧ (IntKind.i64.wrap (Int.tdiv i 8)) < (((IntKind.i64.wrap (Int.tdiv (IntKind.i64.wrap (((lN : Nat) : Int) + 7)) 8)).toNat : Nat) : Int)) ∧
  (((∃ u, w3.cell? ((⟨w.heap.size, 0, none⟩ : Addr).add ((IntKind.i64.wrap (Int.tdiv i 8)).toNat * 1)) = some u) ∧ w3.frozen? ((⟨w.heap.size, 0, none⟩ : Addr).add ((IntKind.i64.wrap (Int.tdiv i 8)).toNat * 1)) = false)) ∧ ∀ w4 : World, w4 = (w3.setCell ((⟨w.heap.size, 0, none⟩ : Addr).add ((IntKind.i64.wrap (Int.tdiv i 8)).toNat * 1)) (.int .u8 (IntKind.u8.wrap (x27 + (IntKind.u8.wrap (1 * 2 ^ (min (Int.tmod i 8).toNat IntKind.u8.bits))))))) →
  vS w4 ∧
  ∃ vk_1 : Nat, vk_1 < vk ∧ vI (IntKind.i64.wrap (i + 1)) vk_1 w4) ∧
  (x19 = false →
  ∃ vk_1 : Nat, vk_1 < vk ∧ vI (IntKind.i64.wrap (i + 1)) vk_1 w2)) ∧
  (decide (i < ((lN : Nat) : Int)) = false →
  ∃ (x34 : ByteArray), ∃ w5 : World, (convert 84 9 (.slice (some (⟨w.heap.size, 0, none⟩ : Addr)) ((IntKind.i64.wrap (Int.tdiv (IntKind.i64.wrap (((lN : Nat) : Int) + 7)) 8)).toNat) ((IntKind.i64.wrap (Int.tdiv (IntKind.i64.wrap (((lN : Nat) : Int) + 7)) 8)).toNat))).run Try.prog w2 = .ok (.string x34) w5 ∧
  R (.string x34) w5)
theorem coadjutorref08_Text.vc_eq (lA : Option Addr) (lN : Nat) (lC : Nat) (w : World) (R : Value → World → Prop) : fnV Try.prog Try.f38 (.lp [(4, some (.int .i64)), (10, none), (11, none), (12, none), (13, none), (14, none), (15, none), (16, none), (17, none), (18, none), (19, none), (20, none), (21, none), (22, none), (23, none), (24, none), (25, none), (26, none), (27, none), (28, none), (29, none), (30, none), (31, none), (32, none)] (.c (.c (.tk 0 (.tk 1 (.tk 2 (.tk 3 (.tk 4 (.tk 5 (.tk 6 (.tk 8 (.tk 9 (.tk 10 (.alt 7 (.tk 11 (.tk 12 (.alt 13 (.fin .nil) .nil))) .nil))))))))))) .nil) .nil)) [(.slice lA lN lC)] w R = coadjutorref08_Text.vc lA lN lC w R := by kernel_rfl
theorem coadjutorref08_Text.calls (lA : Option Addr) (lN : Nat) (lC : Nat) {w : World} {R : Value → World → Prop} (h : coadjutorref08_Text.vc lA lN lC w R) : Calls Try.prog 38 #[(.slice lA lN lC)] w (Ret R) :=
  calls_V fit Try.func38 (.lp [(4, some (.int .i64)), (10, none), (11, none), (12, none), (13, none), (14, none), (15, none), (16, none), (17, none), (18, none), (19, none), (20, none), (21, none), (22, none), (23, none), (24, none), (25, none), (26, none), (27, none), (28, none), (29, none), (30, none), (31, none), (32, none)] (.c (.c (.tk 0 (.tk 1 (.tk 2 (.tk 3 (.tk 4 (.tk 5 (.tk 6 (.tk 8 (.tk 9 (.tk 10 (.alt 7 (.tk 11 (.tk 12 (.alt 13 (.fin .nil) .nil))) .nil))))))))))) .nil) .nil)) (by rw [show (#[(.slice lA lN lC)] : Array Value).toList = [(.slice lA lN lC)] from rfl, coadjutorref08_Text.vc_eq]; exact h)
/-- function 35 -/
def coadjutorref08_In.vc (listA : Option Addr) (listN : Nat) (listC : Nat) (n : Int) (w : World) (R : Value → World → Prop) : Prop :=
  ∃ vI : Int → Nat → World → Prop, (∃ vk_2 : Nat, vI 0 vk_2 w) ∧
  ∀ (jk : Nat → Value) (i : Int), ∀ (vk : Nat) (w1 : World), vI i vk w1 →
  (decide (i < ((listN : Nat) : Int)) = true →
  (0 ≤ i ∧ i < ((listN : Nat) : Int)) ∧ someV listA fun p =>
  ∃ (x15 : Int), w1.cell? (p.add (i.toNat * 1)) = some (.int .i64 x15) ∧
  (decide (x15 < (0 : Int)) = true →
  R (.bool false) w1) ∧
  (decide (x15 < (0 : Int)) = false →
  (0 ≤ i ∧ i < ((listN : Nat) : Int)) ∧ someV listA fun p_1 =>
  ∃ (x21 : Int), w1.cell? (p_1.add (i.toNat * 1)) = some (.int .i64 x21) ∧
  (decide (x21 ≥ n) = true →
  R (.bool false) w1) ∧
  (decide (x21 ≥ n) = false →
  ∃ vk_1 : Nat, vk_1 < vk ∧ vI (IntKind.i64.wrap (i + 1)) vk_1 w1))) ∧
  (decide (i < ((listN : Nat) : Int)) = false →
  R (.bool true) w1)
theorem coadjutorref08_In.vc_eq (listA : Option Addr) (listN : Nat) (listC : Nat) (n : Int) (w : World) (R : Value → World → Prop) : fnV Try.prog Try.f35 (.lp [(4, none), (5, some (.int .i64)), (6, none), (7, none), (8, none), (9, none), (10, none), (11, none), (12, none), (13, none), (14, none), (15, none), (16, none), (17, none), (18, none), (19, none), (20, none), (21, none), (22, none), (23, none), (24, none)] (.c (.at_ 4 5 (.k .nil) (.c .nil .nil)) .nil)) [(.slice listA listN listC), (.int .i64 n)] w R = coadjutorref08_In.vc listA listN listC n w R := by kernel_rfl
theorem coadjutorref08_In.calls (listA : Option Addr) (listN : Nat) (listC : Nat) (n : Int) {w : World} {R : Value → World → Prop} (h : coadjutorref08_In.vc listA listN listC n w R) : Calls Try.prog 35 #[(.slice listA listN listC), (.int .i64 n)] w (Ret R) :=
  calls_V fit Try.func35 (.lp [(4, none), (5, some (.int .i64)), (6, none), (7, none), (8, none), (9, none), (10, none), (11, none), (12, none), (13, none), (14, none), (15, none), (16, none), (17, none), (18, none), (19, none), (20, none), (21, none), (22, none), (23, none), (24, none)] (.c (.at_ 4 5 (.k .nil) (.c .nil .nil)) .nil)) (by rw [show (#[(.slice listA listN listC), (.int .i64 n)] : Array Value).toList = [(.slice listA listN listC), (.int .i64 n)] from rfl, coadjutorref08_In.vc_eq]; exact h)
/-- function 40 -/
def coadjutorref08_Parse.vc (n : Int) (t : ByteArray) (w : World) (R : Value → World → Prop) : Prop :=
  (8 : Int) ≠ 0 ∧
  ((((t.size : Nat) : Int) != (IntKind.i64.wrap (Int.tdiv (IntKind.i64.wrap (n + 7)) 8))) = true →
  R (.tuple #[(.slice none 0 0), (.bool false)]) w) ∧
  ((((t.size : Nat) : Int) != (IntKind.i64.wrap (Int.tdiv (IntKind.i64.wrap (n + 7)) 8))) = false →
  ∀ w1 : World, w1 = w.alloc (.cells #[] 4 (0, 0)) →
  ∃ vI : Option Addr → Nat → Nat → Int → Nat → World → Prop, (∃ vk_2 : Nat, vI (some (⟨w.heap.size, 0, none⟩ : Addr)) 0 0 0 vk_2 w1) ∧
  ∀ (jk : Nat → Value) (outA : Option Addr) (outN : Nat) (outC : Nat) (i : Int), ∀ (vk : Nat) (w2 : World), vI outA outN outC i vk w2 →
  (decide (i < (IntKind.i64.wrap (8 * ((t.size : Nat) : Int)))) = true →
  (8 : Int) ≠ 0 ∧
  (0 ≤ (IntKind.i64.wrap (Int.tdiv i 8)) ∧ (IntKind.i64.wrap (Int.tdiv i 8)) < ((t.size : Nat) : Int)) ∧
  (8 : Int) ≠ 0 ∧
  0 ≤ (Int.tmod i 8) ∧
  (decide (i ≥ n) = true →
  (((Go.bits .and .u8 (Int.fdiv (bt t (IntKind.i64.wrap (Int.tdiv i 8))) (2 ^ (min (Int.tmod i 8).toNat IntKind.u8.bits))) 1) == (1 : Int)) = true →
  R (.tuple #[(.slice none 0 0), (.bool false)]) w2) ∧
  (((Go.bits .and .u8 (Int.fdiv (bt t (IntKind.i64.wrap (Int.tdiv i 8))) (2 ^ (min (Int.tmod i 8).toNat IntKind.u8.bits))) 1) == (1 : Int)) = false →
  (decide (i < n) = true →
  ∀ w3 : World, w3 = w2.alloc (.cells #[(.bool ((Go.bits .and .u8 (Int.fdiv (bt t (IntKind.i64.wrap (Int.tdiv i 8))) (2 ^ (min (Int.tmod i 8).toNat IntKind.u8.bits))) 1) == (1 : Int)))] 4 (0, 0)) →
  ∃ (x44A : Option Addr), ∃ (x44N : Nat), ∃ (x44C : Nat), ∃ w4 : World, (Builtin.append_ #[39, 39] 39 #[(.slice outA outN outC), (.slice (some (⟨w2.heap.size, 0, none⟩ : Addr)) 1 1)]).run Try.prog w3 = .ok (.slice x44A x44N x44C) w4 ∧
  ∃ vk_1 : Nat, vk_1 < vk ∧ vI x44A x44N x44C (IntKind.i64.wrap (i + 1)) vk_1 w4) ∧
  (decide (i < n) = false →
  ∃ vk_1 : Nat, vk_1 < vk ∧ vI outA outN outC (IntKind.i64.wrap (i + 1)) vk_1 w2))) ∧
  (decide (i ≥ n) = false →
  (decide (i < n) = true →
  ∀ w5 : World, w5 = w2.alloc (.cells #[(.bool ((Go.bits .and .u8 (Int.fdiv (bt t (IntKind.i64.wrap (Int.tdiv i 8))) (2 ^ (min (Int.tmod i 8).toNat IntKind.u8.bits))) 1) == (1 : Int)))] 4 (0, 0)) →
  ∃ (x44A_1 : Option Addr), ∃ (x44N_1 : Nat), ∃ (x44C_1 : Nat), ∃ w6 : World, (Builtin.append_ #[39, 39] 39 #[(.slice outA outN outC), (.slice (some (⟨w2.heap.size, 0, none⟩ : Addr)) 1 1)]).run Try.prog w5 = .ok (.slice x44A_1 x44N_1 x44C_1) w6 ∧
  ∃ vk_1 : Nat, vk_1 < vk ∧ vI x44A_1 x44N_1 x44C_1 (IntKind.i64.wrap (i + 1)) vk_1 w6) ∧
  (decide (i < n) = false →
  ∃ vk_1 : Nat, vk_1 < vk ∧ vI outA outN outC (IntKind.i64.wrap (i + 1)) vk_1 w2))) ∧
  (decide (i < (IntKind.i64.wrap (8 * ((t.size : Nat) : Int)))) = false →
  R (.tuple #[(.slice outA outN outC), (.bool true)]) w2))
theorem coadjutorref08_Parse.vc_eq (n : Int) (t : ByteArray) (w : World) (R : Value → World → Prop) : fnV Try.prog Try.f40 (.c .nil (.lp [(4, none), (5, none), (6, some (.slice)), (7, some (.int .i64)), (8, none), (16, none), (17, none), (18, none), (19, none), (20, none), (21, none), (22, none), (23, none), (24, none), (25, none), (26, none), (27, none), (28, none), (29, none), (30, none), (31, none), (32, none), (33, none), (34, none), (35, none), (36, none), (37, none), (38, none), (39, none), (40, none), (41, none), (42, none), (43, none), (44, none)] (.c (.at_ 8 3 (.c .nil (.c .nil .nil)) (.k (.c .nil .nil))) .nil))) [(.int .i64 n), (.string t)] w R = coadjutorref08_Parse.vc n t w R := by kernel_rfl
theorem coadjutorref08_Parse.calls (n : Int) (t : ByteArray) {w : World} {R : Value → World → Prop} (h : coadjutorref08_Parse.vc n t w R) : Calls Try.prog 40 #[(.int .i64 n), (.string t)] w (Ret R) :=
  calls_V fit Try.func40 (.c .nil (.lp [(4, none), (5, none), (6, some (.slice)), (7, some (.int .i64)), (8, none), (16, none), (17, none), (18, none), (19, none), (20, none), (21, none), (22, none), (23, none), (24, none), (25, none), (26, none), (27, none), (28, none), (29, none), (30, none), (31, none), (32, none), (33, none), (34, none), (35, none), (36, none), (37, none), (38, none), (39, none), (40, none), (41, none), (42, none), (43, none), (44, none)] (.c (.at_ 8 3 (.c .nil (.c .nil .nil)) (.k (.c .nil .nil))) .nil))) (by rw [show (#[(.int .i64 n), (.string t)] : Array Value).toList = [(.int .i64 n), (.string t)] from rfl, coadjutorref08_Parse.vc_eq]; exact h)
/-- function 27 -/
def coadjutorlaw08_awake.vc (w : World) (R : Value → World → Prop) : Prop :=
  Calls Try.prog 28 #[(.int .i64 10)] w (Ret fun v w1 => ∃ (x5 : Option Addr), v = (.pointer x5) ∧
  (x5.isNone = true →
  R (.bool false) w1) ∧
  (x5.isNone = false →
  Calls Try.prog 28 #[(.int .i64 0)] w1 (Ret fun v_1 w2 => ∃ (x9 : Option Addr), v_1 = (.pointer x9) ∧
  ((!x9.isNone) = true →
  R (.bool false) w2) ∧
  ((!x9.isNone) = false →
  ∀ w3 : World, w3 = w2.alloc (.cells #[(.int .i64 0), (.int .i64 9)] 3 (0, 0)) →
  Calls Try.prog 29 #[(.pointer x5), (.slice (some (⟨w2.heap.size, 0, none⟩ : Addr)) 2 2)] w3 (Ret fun v_2 w4 => ∃ (x14 : Int), v_2 = (.int .i64 x14) ∧
  ∀ w5 : World, w5 = w4.alloc (.cells #[(.int .i64 1), (.int .i64 10)] 3 (0, 0)) →
  Calls Try.prog 29 #[(.pointer x5), (.slice (some (⟨w4.heap.size, 0, none⟩ : Addr)) 2 2)] w5 (Ret fun v_3 w6 => ∃ (x17 : Int), v_3 = (.int .i64 x17) ∧
  Calls Try.prog 33 #[(.pointer x5)] w6 (Ret fun v_4 w7 => ∃ (x19A : Option Addr), ∃ (x19N : Nat), ∃ (x19C : Nat), v_4 = (.slice x19A x19N x19C) ∧
  ((x14 == (0 : Int)) = true →
  ((x17 == (3 : Int)) = true →
  Calls Try.prog 37 #[(.pointer x5)] w7 (Ret fun v_5 w8 => ∃ (x28 : ByteArray), v_5 = (.string x28) ∧
  ((x28.toList == (ByteArray.mk #[1, 2]).toList) = true →
  ((((x19N : Nat) : Int) == (2 : Int)) = true →
  (0 ≤ (1 : Int) ∧ (1 : Int) < ((x19N : Nat) : Int)) ∧ someV x19A fun p =>
  ∃ (x39 : Int), w8.cell? (p.add 1) = some (.int .i64 x39) ∧
  ((x39 == (9 : Int)) = true →
  Calls Try.prog 31 #[(.pointer x5)] w8 (Ret fun v_6 w9 => ∃ (x44 : Int), v_6 = (.int .i64 x44) ∧
  ((x44 == (1 : Int)) = true →
  Calls Try.prog 30 #[(.pointer x5)] w9 (Ret fun v_7 w10 => ∃ (x49 : Int), v_7 = (.int .i64 x49) ∧
  ((x49 == (2 : Int)) = true →
  ∀ w11 : World, w11 = w10.alloc (.cells #[(.int .i64 0), (.int .i64 9)] 3 (0, 0)) →
  Calls Try.prog 32 #[(.pointer x5), (.slice (some (⟨w10.heap.size, 0, none⟩ : Addr)) 2 2)] w11 (Ret fun v_8 w12 => ∃ (x55 : Bool), v_8 = (.bool x55) ∧
  (x55 = true →
  ∀ w13 : World, w13 = w12.alloc (.cells #[(.int .i64 0), (.int .i64 1)] 3 (0, 0)) →
  Calls Try.prog 32 #[(.pointer x5), (.slice (some (⟨w12.heap.size, 0, none⟩ : Addr)) 2 2)] w13 (Ret fun v_9 w14 => ∃ (x60 : Bool), v_9 = (.bool x60) ∧
  ((!x60) = true →
  Calls Try.prog 32 #[(.pointer x5), (.slice none 0 0)] w14 (Ret fun v_10 w15 => ∃ (x65 : Bool), v_10 = (.bool x65) ∧
  R (.bool x65) w15)) ∧
  ((!x60) = false →
  R (.bool false) w14))) ∧
  (x55 = false →
  R (.bool false) w12))) ∧
  ((x49 == (2 : Int)) = false →
  R (.bool false) w10))) ∧
  ((x44 == (1 : Int)) = false →
  R (.bool false) w9))) ∧
  ((x39 == (9 : Int)) = false →
  R (.bool false) w8)) ∧
  ((((x19N : Nat) : Int) == (2 : Int)) = false →
  R (.bool false) w8)) ∧
  ((x28.toList == (ByteArray.mk #[1, 2]).toList) = false →
  R (.bool false) w8))) ∧
  ((x17 == (3 : Int)) = false →
  R (.bool false) w7)) ∧
  ((x14 == (0 : Int)) = false →
  R (.bool false) w7))))))))
theorem coadjutorlaw08_awake.vc_eq (w : World) (R : Value → World → Prop) : fnV Try.prog Try.f27 (.at_ 2 2 (.k .nil) (.c .nil (.at_ 7 2 (.at_ 7 6 (.at_ 7 11 (.at_ 7 16 (.at_ 7 22 (.at_ 7 27 (.at_ 7 32 (.at_ 7 37 (.at_ 7 43 .nil .nil) .nil) .nil) .nil) .nil) .nil) .nil) .nil) .nil))) [] w R = coadjutorlaw08_awake.vc  w R := by kernel_rfl
theorem coadjutorlaw08_awake.calls {w : World} {R : Value → World → Prop} (h : coadjutorlaw08_awake.vc  w R) : Calls Try.prog 27 #[] w (Ret R) :=
  calls_V fit Try.func27 (.at_ 2 2 (.k .nil) (.c .nil (.at_ 7 2 (.at_ 7 6 (.at_ 7 11 (.at_ 7 16 (.at_ 7 22 (.at_ 7 27 (.at_ 7 32 (.at_ 7 37 (.at_ 7 43 .nil .nil) .nil) .nil) .nil) .nil) .nil) .nil) .nil) .nil))) (by rw [show (#[] : Array Value).toList = [] from rfl, coadjutorlaw08_awake.vc_eq]; exact h)
end Go.Proofs.Ytefidalhijpmdaa.Vc
