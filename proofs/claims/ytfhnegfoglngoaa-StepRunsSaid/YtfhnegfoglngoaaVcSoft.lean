import Derived.Test.YtfhnegfoglngoaaVc
import Derived.Test.YtfhnegfoglngoaaH
import Derived.Test.YtfhnegfoglngoaaProg
import Derived.KernelRfl
set_option linter.unusedVariables false
set_option maxRecDepth 100000
namespace Go.Proofs.Ytfhnegfoglngoaa.Vc
open Go Go.Proofs Go.Proofs.Ytfhnegfoglngoaa.V
/-- function 65 -/
def soft_Choose_c1.vc (n : Int) (w : World) (R : Value → World → Prop) : Prop :=
  (decide (n < (0 : Int)) = true →
  R (.bool true) w) ∧
  (decide (n < (0 : Int)) = false →
  R (.bool (decide (n > (1048576 : Int)))) w)
theorem soft_Choose_c1.vc_eq (n : Int) (w : World) (R : Value → World → Prop) : fnV Try.prog Try.f65 (.at_ 1 2 .nil .nil) [(.int .i64 n)] w R = soft_Choose_c1.vc n w R := by kernel_rfl
theorem soft_Choose_c1.calls (n : Int) {w : World} {R : Value → World → Prop} (h : soft_Choose_c1.vc n w R) : Calls Try.prog 65 #[(.int .i64 n)] w (Ret R) :=
  calls_V fit Try.func65 (.at_ 1 2 .nil .nil) (by rw [show (#[(.int .i64 n)] : Array Value).toList = [(.int .i64 n)] from rfl, soft_Choose_c1.vc_eq]; exact h)
/-- function 97 -/
def soft_isMix_c1.vc (n : Int) (w : World) (R : Value → World → Prop) : Prop :=
  (decide (n < (0 : Int)) = true →
  R (.bool true) w) ∧
  (decide (n < (0 : Int)) = false →
  R (.bool (decide (n > (65536 : Int)))) w)
theorem soft_isMix_c1.vc_eq (n : Int) (w : World) (R : Value → World → Prop) : fnV Try.prog Try.f97 (.at_ 1 2 .nil .nil) [(.int .i64 n)] w R = soft_isMix_c1.vc n w R := by kernel_rfl
theorem soft_isMix_c1.calls (n : Int) {w : World} {R : Value → World → Prop} (h : soft_isMix_c1.vc n w R) : Calls Try.prog 97 #[(.int .i64 n)] w (Ret R) :=
  calls_V fit Try.func97 (.at_ 1 2 .nil .nil) (by rw [show (#[(.int .i64 n)] : Array Value).toList = [(.int .i64 n)] from rfl, soft_isMix_c1.vc_eq]; exact h)
/-- function 98 -/
def soft_isMix_c2.vc (rowA : Option Addr) (rowN : Nat) (rowC : Nat) (c0B : Nat) (w : World) (R : Value → World → Prop) : Prop :=
  ∃ (x6A : Option Addr), ∃ (x6N : Nat), ∃ (x6C : Nat), w.cell? (⟨c0B, 0, none⟩ : Addr) = some (.slice x6A x6N x6C) ∧
  (0 ≤ (0 : Int) ∧ (0 : Int) < ((x6N : Nat) : Int)) ∧ someV x6A fun p =>
  ∃ (x8A : Option Addr), ∃ (x8N : Nat), ∃ (x8C : Nat), w.cell? p = some (.slice x8A x8N x8C) ∧
  R (.bool (((rowN : Nat) : Int) != ((x8N : Nat) : Int))) w
theorem soft_isMix_c2.vc_eq (rowA : Option Addr) (rowN : Nat) (rowC : Nat) (c0B : Nat) (w : World) (R : Value → World → Prop) : fnV Try.prog Try.f98 .nil [(.slice rowA rowN rowC), (.pointer (some (⟨c0B, 0, none⟩ : Addr)))] w R = soft_isMix_c2.vc rowA rowN rowC c0B w R := by kernel_rfl
theorem soft_isMix_c2.calls (rowA : Option Addr) (rowN : Nat) (rowC : Nat) (c0B : Nat) {w : World} {R : Value → World → Prop} (h : soft_isMix_c2.vc rowA rowN rowC c0B w R) : Calls Try.prog 98 #[(.slice rowA rowN rowC), (.pointer (some (⟨c0B, 0, none⟩ : Addr)))] w (Ret R) :=
  calls_V fit Try.func98 .nil (by rw [show (#[(.slice rowA rowN rowC), (.pointer (some (⟨c0B, 0, none⟩ : Addr)))] : Array Value).toList = [(.slice rowA rowN rowC), (.pointer (some (⟨c0B, 0, none⟩ : Addr)))] from rfl, soft_isMix_c2.vc_eq]; exact h)
/-- function 28 -/
def slices_ContainsFunc.vc_ch (sA : Option Addr) (sN : Nat) (sC : Nat) (w : World) (R : Value → World → Prop) : Prop :=
  Calls Try.prog 53 #[(.slice sA sN sC), (.func (.func 65) #[] #[])] w (Ret fun v w1 => ∃ (x7 : Int), v = (.int .i64 x7) ∧
  R (.bool (decide (x7 ≥ (0 : Int)))) w1)
theorem slices_ContainsFunc.vc_ch_eq (sA : Option Addr) (sN : Nat) (sC : Nat) (w : World) (R : Value → World → Prop) : fnV Try.prog Try.f28 .nil [(.slice sA sN sC), (.func (.func 65) #[] #[])] w R = slices_ContainsFunc.vc_ch sA sN sC w R := by kernel_rfl
theorem slices_ContainsFunc.calls_ch (sA : Option Addr) (sN : Nat) (sC : Nat) {w : World} {R : Value → World → Prop} (h : slices_ContainsFunc.vc_ch sA sN sC w R) : Calls Try.prog 28 #[(.slice sA sN sC), (.func (.func 65) #[] #[])] w (Ret R) :=
  calls_V fit Try.func28 .nil (by rw [show (#[(.slice sA sN sC), (.func (.func 65) #[] #[])] : Array Value).toList = [(.slice sA sN sC), (.func (.func 65) #[] #[])] from rfl, slices_ContainsFunc.vc_ch_eq]; exact h)
/-- function 53 -/
def slices_IndexFunc.vc_ch (sA : Option Addr) (sN : Nat) (sC : Nat) (w : World) (R : Value → World → Prop) : Prop :=
  ∃ vI : Int → Nat → World → Prop, (∃ vk_2 : Nat, vI 0 vk_2 w) ∧
  ∀ (jk : Nat → Value) (x8 : Int), ∀ (vk : Nat) (w1 : World), vI x8 vk w1 →
  (decide (x8 < ((sN : Nat) : Int)) = true →
  (0 ≤ x8 ∧ x8 < ((sN : Nat) : Int)) ∧ someV sA fun p =>
  ∃ (x15 : Int), w1.cell? (p.add (x8.toNat * 1)) = some (.int .i64 x15) ∧
  Calls Try.prog 65 #[(.int .i64 x15)] w1 (Ret fun v w2 => ∃ (x16 : Bool), v = (.bool x16) ∧
  (x16 = true →
  R (.int .i64 x8) w2) ∧
  (x16 = false →
  ∃ vk_1 : Nat, vk_1 < vk ∧ vI (IntKind.i64.wrap (x8 + 1)) vk_1 w2))) ∧
  (decide (x8 < ((sN : Nat) : Int)) = false →
  R (.int .i64 (-1)) w1)
theorem slices_IndexFunc.vc_ch_eq (sA : Option Addr) (sN : Nat) (sC : Nat) (w : World) (R : Value → World → Prop) : fnV Try.prog Try.f53 (.lp [(4, none), (5, none), (8, some (.int .i64)), (9, none), (10, none), (11, none), (12, none), (13, none), (14, none), (15, none), (16, none), (17, none), (18, none)] (.c (.c .nil .nil) .nil)) [(.slice sA sN sC), (.func (.func 65) #[] #[])] w R = slices_IndexFunc.vc_ch sA sN sC w R := by kernel_rfl
theorem slices_IndexFunc.calls_ch (sA : Option Addr) (sN : Nat) (sC : Nat) {w : World} {R : Value → World → Prop} (h : slices_IndexFunc.vc_ch sA sN sC w R) : Calls Try.prog 53 #[(.slice sA sN sC), (.func (.func 65) #[] #[])] w (Ret R) :=
  calls_V fit Try.func53 (.lp [(4, none), (5, none), (8, some (.int .i64)), (9, none), (10, none), (11, none), (12, none), (13, none), (14, none), (15, none), (16, none), (17, none), (18, none)] (.c (.c .nil .nil) .nil)) (by rw [show (#[(.slice sA sN sC), (.func (.func 65) #[] #[])] : Array Value).toList = [(.slice sA sN sC), (.func (.func 65) #[] #[])] from rfl, slices_IndexFunc.vc_ch_eq]; exact h)
/-- function 28 -/
def slices_ContainsFunc.vc_mw (sA : Option Addr) (sN : Nat) (sC : Nat) (w : World) (R : Value → World → Prop) : Prop :=
  Calls Try.prog 53 #[(.slice sA sN sC), (.func (.func 97) #[] #[])] w (Ret fun v w1 => ∃ (x7 : Int), v = (.int .i64 x7) ∧
  R (.bool (decide (x7 ≥ (0 : Int)))) w1)
theorem slices_ContainsFunc.vc_mw_eq (sA : Option Addr) (sN : Nat) (sC : Nat) (w : World) (R : Value → World → Prop) : fnV Try.prog Try.f28 .nil [(.slice sA sN sC), (.func (.func 97) #[] #[])] w R = slices_ContainsFunc.vc_mw sA sN sC w R := by kernel_rfl
theorem slices_ContainsFunc.calls_mw (sA : Option Addr) (sN : Nat) (sC : Nat) {w : World} {R : Value → World → Prop} (h : slices_ContainsFunc.vc_mw sA sN sC w R) : Calls Try.prog 28 #[(.slice sA sN sC), (.func (.func 97) #[] #[])] w (Ret R) :=
  calls_V fit Try.func28 .nil (by rw [show (#[(.slice sA sN sC), (.func (.func 97) #[] #[])] : Array Value).toList = [(.slice sA sN sC), (.func (.func 97) #[] #[])] from rfl, slices_ContainsFunc.vc_mw_eq]; exact h)
/-- function 53 -/
def slices_IndexFunc.vc_mw (sA : Option Addr) (sN : Nat) (sC : Nat) (w : World) (R : Value → World → Prop) : Prop :=
  ∃ vI : Int → Nat → World → Prop, (∃ vk_2 : Nat, vI 0 vk_2 w) ∧
  ∀ (jk : Nat → Value) (x8 : Int), ∀ (vk : Nat) (w1 : World), vI x8 vk w1 →
  (decide (x8 < ((sN : Nat) : Int)) = true →
  (0 ≤ x8 ∧ x8 < ((sN : Nat) : Int)) ∧ someV sA fun p =>
  ∃ (x15 : Int), w1.cell? (p.add (x8.toNat * 1)) = some (.int .i64 x15) ∧
  Calls Try.prog 97 #[(.int .i64 x15)] w1 (Ret fun v w2 => ∃ (x16 : Bool), v = (.bool x16) ∧
  (x16 = true →
  R (.int .i64 x8) w2) ∧
  (x16 = false →
  ∃ vk_1 : Nat, vk_1 < vk ∧ vI (IntKind.i64.wrap (x8 + 1)) vk_1 w2))) ∧
  (decide (x8 < ((sN : Nat) : Int)) = false →
  R (.int .i64 (-1)) w1)
theorem slices_IndexFunc.vc_mw_eq (sA : Option Addr) (sN : Nat) (sC : Nat) (w : World) (R : Value → World → Prop) : fnV Try.prog Try.f53 (.lp [(4, none), (5, none), (8, some (.int .i64)), (9, none), (10, none), (11, none), (12, none), (13, none), (14, none), (15, none), (16, none), (17, none), (18, none)] (.c (.c .nil .nil) .nil)) [(.slice sA sN sC), (.func (.func 97) #[] #[])] w R = slices_IndexFunc.vc_mw sA sN sC w R := by kernel_rfl
theorem slices_IndexFunc.calls_mw (sA : Option Addr) (sN : Nat) (sC : Nat) {w : World} {R : Value → World → Prop} (h : slices_IndexFunc.vc_mw sA sN sC w R) : Calls Try.prog 53 #[(.slice sA sN sC), (.func (.func 97) #[] #[])] w (Ret R) :=
  calls_V fit Try.func53 (.lp [(4, none), (5, none), (8, some (.int .i64)), (9, none), (10, none), (11, none), (12, none), (13, none), (14, none), (15, none), (16, none), (17, none), (18, none)] (.c (.c .nil .nil) .nil)) (by rw [show (#[(.slice sA sN sC), (.func (.func 97) #[] #[])] : Array Value).toList = [(.slice sA sN sC), (.func (.func 97) #[] #[])] from rfl, slices_IndexFunc.vc_mw_eq]; exact h)
/-- function 99 -/
def slices_ContainsFunc.vc_un (sA : Option Addr) (sN : Nat) (sC : Nat) (c0B : Nat) (w : World) (R : Value → World → Prop) : Prop :=
  Calls Try.prog 100 #[(.slice sA sN sC), (.func (.func 98) #[] #[(.pointer (some (⟨c0B, 0, none⟩ : Addr)))])] w (Ret fun v w1 => ∃ (x7 : Int), v = (.int .i64 x7) ∧
  R (.bool (decide (x7 ≥ (0 : Int)))) w1)
theorem slices_ContainsFunc.vc_un_eq (sA : Option Addr) (sN : Nat) (sC : Nat) (c0B : Nat) (w : World) (R : Value → World → Prop) : fnV Try.prog Try.f99 .nil [(.slice sA sN sC), (.func (.func 98) #[] #[(.pointer (some (⟨c0B, 0, none⟩ : Addr)))])] w R = slices_ContainsFunc.vc_un sA sN sC c0B w R := by kernel_rfl
theorem slices_ContainsFunc.calls_un (sA : Option Addr) (sN : Nat) (sC : Nat) (c0B : Nat) {w : World} {R : Value → World → Prop} (h : slices_ContainsFunc.vc_un sA sN sC c0B w R) : Calls Try.prog 99 #[(.slice sA sN sC), (.func (.func 98) #[] #[(.pointer (some (⟨c0B, 0, none⟩ : Addr)))])] w (Ret R) :=
  calls_V fit Try.func99 .nil (by rw [show (#[(.slice sA sN sC), (.func (.func 98) #[] #[(.pointer (some (⟨c0B, 0, none⟩ : Addr)))])] : Array Value).toList = [(.slice sA sN sC), (.func (.func 98) #[] #[(.pointer (some (⟨c0B, 0, none⟩ : Addr)))])] from rfl, slices_ContainsFunc.vc_un_eq]; exact h)
/-- function 100 -/
def slices_IndexFunc.vc_un (sA : Option Addr) (sN : Nat) (sC : Nat) (c0B : Nat) (w : World) (R : Value → World → Prop) : Prop :=
  ∃ vI : Int → Nat → World → Prop, (∃ vk_2 : Nat, vI 0 vk_2 w) ∧
  ∀ (jk : Nat → Value) (x8 : Int), ∀ (vk : Nat) (w1 : World), vI x8 vk w1 →
  (decide (x8 < ((sN : Nat) : Int)) = true →
  (0 ≤ x8 ∧ x8 < ((sN : Nat) : Int)) ∧ someV sA fun p =>
  ∃ (x15A : Option Addr), ∃ (x15N : Nat), ∃ (x15C : Nat), w1.cell? (p.add (x8.toNat * 1)) = some (.slice x15A x15N x15C) ∧
  Calls Try.prog 98 #[(.slice x15A x15N x15C), (.pointer (some (⟨c0B, 0, none⟩ : Addr)))] w1 (Ret fun v w2 => ∃ (x16 : Bool), v = (.bool x16) ∧
  (x16 = true →
  R (.int .i64 x8) w2) ∧
  (x16 = false →
  ∃ vk_1 : Nat, vk_1 < vk ∧ vI (IntKind.i64.wrap (x8 + 1)) vk_1 w2))) ∧
  (decide (x8 < ((sN : Nat) : Int)) = false →
  R (.int .i64 (-1)) w1)
theorem slices_IndexFunc.vc_un_eq (sA : Option Addr) (sN : Nat) (sC : Nat) (c0B : Nat) (w : World) (R : Value → World → Prop) : fnV Try.prog Try.f100 (.lp [(4, none), (5, none), (8, some (.int .i64)), (9, none), (10, none), (11, none), (12, none), (13, none), (14, none), (15, none), (16, none), (17, none), (18, none)] (.c (.c .nil .nil) .nil)) [(.slice sA sN sC), (.func (.func 98) #[] #[(.pointer (some (⟨c0B, 0, none⟩ : Addr)))])] w R = slices_IndexFunc.vc_un sA sN sC c0B w R := by kernel_rfl
theorem slices_IndexFunc.calls_un (sA : Option Addr) (sN : Nat) (sC : Nat) (c0B : Nat) {w : World} {R : Value → World → Prop} (h : slices_IndexFunc.vc_un sA sN sC c0B w R) : Calls Try.prog 100 #[(.slice sA sN sC), (.func (.func 98) #[] #[(.pointer (some (⟨c0B, 0, none⟩ : Addr)))])] w (Ret R) :=
  calls_V fit Try.func100 (.lp [(4, none), (5, none), (8, some (.int .i64)), (9, none), (10, none), (11, none), (12, none), (13, none), (14, none), (15, none), (16, none), (17, none), (18, none)] (.c (.c .nil .nil) .nil)) (by rw [show (#[(.slice sA sN sC), (.func (.func 98) #[] #[(.pointer (some (⟨c0B, 0, none⟩ : Addr)))])] : Array Value).toList = [(.slice sA sN sC), (.func (.func 98) #[] #[(.pointer (some (⟨c0B, 0, none⟩ : Addr)))])] from rfl, slices_IndexFunc.vc_un_eq]; exact h)
/-- function 86 -/
def soft_table.vc (w : World) (R : Value → World → Prop) : Prop :=
  ∀ w1 : World, w1 = w.alloc (.cells #[(.int .i64 0), (.int .i64 0), (.int .i64 0), (.int .i64 0), (.int .i64 0), (.int .i64 0), (.int .i64 0), (.int .i64 0)] 107 (0, 0)) →
  (((∃ u, w1.cell? (⟨w.heap.size, 0, none⟩ : Addr) = some u) ∧ w1.frozen? (⟨w.heap.size, 0, none⟩ : Addr) = false) ∧ ((∃ u, w1.cell? (⟨w.heap.size, 1, none⟩ : Addr) = some u) ∧ w1.frozen? (⟨w.heap.size, 1, none⟩ : Addr) = false) ∧ ((∃ u, w1.cell? (⟨w.heap.size, 2, none⟩ : Addr) = some u) ∧ w1.frozen? (⟨w.heap.size, 2, none⟩ : Addr) = false) ∧ ((∃ u, w1.cell? (⟨w.heap.size, 3, none⟩ : Addr) = some u) ∧ w1.frozen? (⟨w.heap.size, 3, none⟩ : Addr) = false) ∧ ((∃ u, w1.cell? (⟨w.heap.size, 4, none⟩ : Addr) = some u) ∧ w1.frozen? (⟨w.heap.size, 4, none⟩ : Addr) = false) ∧ ((∃ u, w1.cell? (⟨w.heap.size, 5, none⟩ : Addr) = some u) ∧ w1.frozen? (⟨w.heap.size, 5, none⟩ : Addr) = false) ∧ ((∃ u, w1.cell? (⟨w.heap.size, 6, none⟩ : Addr) = some u) ∧ w1.frozen? (⟨w.heap.size, 6, none⟩ : Addr) = false) ∧ ((∃ u, w1.cell? (⟨w.heap.size, 7, none⟩ : Addr) = some u) ∧ w1.frozen? (⟨w.heap.size, 7, none⟩ : Addr) = false)) ∧ ∀ w2 : World, w2 = ((((((((w1.setCell (⟨w.heap.size, 0, none⟩ : Addr) (.int .i64 65536)).setCell (⟨w.heap.size, 1, none⟩ : Addr) (.int .i64 60097)).setCell (⟨w.heap.size, 2, none⟩ : Addr) (.int .i64 55109)).setCell (⟨w.heap.size, 3, none⟩ : Addr) (.int .i64 50535)).setCell (⟨w.heap.size, 4, none⟩ : Addr) (.int .i64 46341)).setCell (⟨w.heap.size, 5, none⟩ : Addr) (.int .i64 42495)).setCell (⟨w.heap.size, 6, none⟩ : Addr) (.int .i64 38968)).setCell (⟨w.heap.size, 7, none⟩ : Addr) (.int .i64 35734)) →
  ∃ (r00 : Int), ∃ (r01 : Int), ∃ (r02 : Int), ∃ (r03 : Int), ∃ (r04 : Int), ∃ (r05 : Int), ∃ (r06 : Int), ∃ (r07 : Int), (w2.cell? (⟨w.heap.size, 0, none⟩ : Addr) = some (.int .i64 r00) ∧ w2.cell? (⟨w.heap.size, 1, none⟩ : Addr) = some (.int .i64 r01) ∧ w2.cell? (⟨w.heap.size, 2, none⟩ : Addr) = some (.int .i64 r02) ∧ w2.cell? (⟨w.heap.size, 3, none⟩ : Addr) = some (.int .i64 r03) ∧ w2.cell? (⟨w.heap.size, 4, none⟩ : Addr) = some (.int .i64 r04) ∧ w2.cell? (⟨w.heap.size, 5, none⟩ : Addr) = some (.int .i64 r05) ∧ w2.cell? (⟨w.heap.size, 6, none⟩ : Addr) = some (.int .i64 r06) ∧ w2.cell? (⟨w.heap.size, 7, none⟩ : Addr) = some (.int .i64 r07)) ∧
  R (.agg #[(.int .i64 r00), (.int .i64 r01), (.int .i64 r02), (.int .i64 r03), (.int .i64 r04), (.int .i64 r05), (.int .i64 r06), (.int .i64 r07)]) w2
theorem soft_table.vc_eq (w : World) (R : Value → World → Prop) : fnV Try.prog Try.f86 .nil [] w R = soft_table.vc  w R := by kernel_rfl
theorem soft_table.calls {w : World} {R : Value → World → Prop} (h : soft_table.vc  w R) : Calls Try.prog 86 #[] w (Ret R) :=
  calls_V fit Try.func86 .nil (by rw [show (#[] : Array Value).toList = [] from rfl, soft_table.vc_eq]; exact h)
/-- function 67 -/
def soft_clamped.vc (n : Int) (w : World) (R : Value → World → Prop) : Prop :=
  Calls Try.prog 56 #[(.int .i64 n), (.int .i64 (-1073741824)), (.int .i64 1073741824)] w (Ret fun v w1 => ∃ (x4 : Int), v = (.int .i64 x4) ∧
  R (.int .i64 x4) w1)
theorem soft_clamped.vc_eq (n : Int) (w : World) (R : Value → World → Prop) : fnV Try.prog Try.f67 .nil [(.int .i64 n)] w R = soft_clamped.vc n w R := by kernel_rfl
theorem soft_clamped.calls (n : Int) {w : World} {R : Value → World → Prop} (h : soft_clamped.vc n w R) : Calls Try.prog 67 #[(.int .i64 n)] w (Ret R) :=
  calls_V fit Try.func67 .nil (by rw [show (#[(.int .i64 n)] : Array Value).toList = [(.int .i64 n)] from rfl, soft_clamped.vc_eq]; exact h)
/-- function 68 -/
def soft_Exp.vc (below : Int) (w : World) (R : Value → World → Prop) : Prop :=
  Calls Try.prog 86 #[] w (Ret fun v w1 => ∃ (x60 : Int), ∃ (x61 : Int), ∃ (x62 : Int), ∃ (x63 : Int), ∃ (x64 : Int), ∃ (x65 : Int), ∃ (x66 : Int), ∃ (x67 : Int), v = (.agg #[(.int .i64 x60), (.int .i64 x61), (.int .i64 x62), (.int .i64 x63), (.int .i64 x64), (.int .i64 x65), (.int .i64 x66), (.int .i64 x67)]) ∧
  ∀ w2 : World, w2 = w1.alloc (.cells #[(.int .i64 0), (.int .i64 0), (.int .i64 0), (.int .i64 0), (.int .i64 0), (.int .i64 0), (.int .i64 0), (.int .i64 0)] 107 (0, 0)) →
  (((∃ u, w2.cell? (⟨w1.heap.size, 0, none⟩ : Addr) = some u) ∧ w2.frozen? (⟨w1.heap.size, 0, none⟩ : Addr) = false) ∧ ((∃ u, w2.cell? (⟨w1.heap.size, 1, none⟩ : Addr) = some u) ∧ w2.frozen? (⟨w1.heap.size, 1, none⟩ : Addr) = false) ∧ ((∃ u, w2.cell? (⟨w1.heap.size, 2, none⟩ : Addr) = some u) ∧ w2.frozen? (⟨w1.heap.size, 2, none⟩ : Addr) = false) ∧ ((∃ u, w2.cell? (⟨w1.heap.size, 3, none⟩ : Addr) = some u) ∧ w2.frozen? (⟨w1.heap.size, 3, none⟩ : Addr) = false) ∧ ((∃ u, w2.cell? (⟨w1.heap.size, 4, none⟩ : Addr) = some u) ∧ w2.frozen? (⟨w1.heap.size, 4, none⟩ : Addr) = false) ∧ ((∃ u, w2.cell? (⟨w1.heap.size, 5, none⟩ : Addr) = some u) ∧ w2.frozen? (⟨w1.heap.size, 5, none⟩ : Addr) = false) ∧ ((∃ u, w2.cell? (⟨w1.heap.size, 6, none⟩ : Addr) = some u) ∧ w2.frozen? (⟨w1.heap.size, 6, none⟩ : Addr) = false) ∧ ((∃ u, w2.cell? (⟨w1.heap.size, 7, none⟩ : Addr) = some u) ∧ w2.frozen? (⟨w1.heap.size, 7, none⟩ : Addr) = false)) ∧ ∀ w3 : World, w3 = ((((((((w2.setCell (⟨w1.heap.size, 0, none⟩ : Addr) (.int .i64 x60)).setCell (⟨w1.heap.size, 1, none⟩ : Addr) (.int .i64 x61)).setCell (⟨w1.heap.size, 2, none⟩ : Addr) (.int .i64 x62)).setCell (⟨w1.heap.size, 3, none⟩ : Addr) (.int .i64 x63)).setCell (⟨w1.heap.size, 4, none⟩ : Addr) (.int .i64 x64)).setCell (⟨w1.heap.size, 5, none⟩ : Addr) (.int .i64 x65)).setCell (⟨w1.heap.size, 6, none⟩ : Addr) (.int .i64 x66)).setCell (⟨w1.heap.size, 7, none⟩ : Addr) (.int .i64 x67)) →
  (8 : Int) ≠ 0 ∧
  (0 ≤ (Int.tmod (if (0 : Int) > below then (0 : Int) else below) 8) ∧ (Int.tmod (if (0 : Int) > below then (0 : Int) else below) 8) < (8 : Int)) ∧
  ∃ (x10 : Int), w3.cell? ((⟨w1.heap.size, 0, none⟩ : Addr).add ((Int.tmod (if (0 : Int) > below then (0 : Int) else below) 8).toNat * 1)) = some (.int .i64 x10) ∧
  (8 : Int) ≠ 0 ∧
  0 ≤ (if (17 : Int) < (IntKind.i64.wrap (Int.tdiv (if (0 : Int) > below then (0 : Int) else below) 8)) then (17 : Int) else (IntKind.i64.wrap (Int.tdiv (if (0 : Int) > below then (0 : Int) else below) 8))) ∧
  R (.int .i64 (Int.fdiv x10 (2 ^ (min (if (17 : Int) < (IntKind.i64.wrap (Int.tdiv (if (0 : Int) > below then (0 : Int) else below) 8)) then (17 : Int) else (IntKind.i64.wrap (Int.tdiv (if (0 : Int) > below then (0 : Int) else below) 8))).toNat IntKind.i64.bits)))) w3)
theorem soft_Exp.vc_eq (below : Int) (w : World) (R : Value → World → Prop) : fnV Try.prog Try.f68 .nil [(.int .i64 below)] w R = soft_Exp.vc below w R := by kernel_rfl
theorem soft_Exp.calls (below : Int) {w : World} {R : Value → World → Prop} (h : soft_Exp.vc below w R) : Calls Try.prog 68 #[(.int .i64 below)] w (Ret R) :=
  calls_V fit Try.func68 .nil (by rw [show (#[(.int .i64 below)] : Array Value).toList = [(.int .i64 below)] from rfl, soft_Exp.vc_eq]; exact h)
/-- function 40 -/
def soft_Weights.vc (scoresA : Option Addr) (scoresN : Nat) (scoresC : Nat) (w : World) (R : Value → World → Prop) : Prop :=
  ((((scoresN : Nat) : Int) == (0 : Int)) = true →
  R (.slice none 0 0) w) ∧
  ((((scoresN : Nat) : Int) == (0 : Int)) = false →
  Calls Try.prog 47 #[(.slice scoresA scoresN scoresC)] w (Ret fun v w1 => ∃ (x11 : Int), v = (.int .i64 x11) ∧
  Calls Try.prog 67 #[(.int .i64 x11)] w1 (Ret fun v_1 w2 => ∃ (x12 : Int), v_1 = (.int .i64 x12) ∧
  ∃ vI : Option Addr → Nat → Nat → Int → Nat → World → Prop, (∃ vk_2 : Nat, vI none 0 0 0 vk_2 w2) ∧
  ∀ (jk : Nat → Value) (outA : Option Addr) (outN : Nat) (outC : Nat) (x15 : Int), ∀ (vk : Nat) (w3 : World), vI outA outN outC x15 vk w3 →
  (decide (x15 < ((scoresN : Nat) : Int)) = true →
  (0 ≤ x15 ∧ x15 < ((scoresN : Nat) : Int)) ∧ someV scoresA fun p =>
  ∃ (x18 : Int), w3.cell? (p.add (x15.toNat * 1)) = some (.int .i64 x18) ∧
  Calls Try.prog 67 #[(.int .i64 x18)] w3 (Ret fun v_2 w4 => ∃ (x22 : Int), v_2 = (.int .i64 x22) ∧
  Calls Try.prog 68 #[(.int .i64 (IntKind.i64.wrap (x12 - x22)))] w4 (Ret fun v_3 w5 => ∃ (x24 : Int), v_3 = (.int .i64 x24) ∧
  ∀ w6 : World, w6 = w5.alloc (.cells #[(.int .i64 x24)] 3 (0, 0)) →
  ∃ (x26A : Option Addr), ∃ (x26N : Nat), ∃ (x26C : Nat), ∃ w7 : World, (Builtin.append_ #[24, 24] 24 #[(.slice outA outN outC), (.slice (some (⟨w5.heap.size, 0, none⟩ : Addr)) 1 1)]).run Try.prog w6 = .ok (.slice x26A x26N x26C) w7 ∧
  ∃ vk_1 : Nat, vk_1 < vk ∧ vI x26A x26N x26C (IntKind.i64.wrap (x15 + 1)) vk_1 w7))) ∧
  (decide (x15 < ((scoresN : Nat) : Int)) = false →
  R (.slice outA outN outC) w3))))
theorem soft_Weights.vc_eq (scoresA : Option Addr) (scoresN : Nat) (scoresC : Nat) (w : World) (R : Value → World → Prop) : fnV Try.prog Try.f40 (.c .nil (.lp [(4, some (.slice)), (6, none), (15, some (.int .i64)), (16, none), (17, none), (18, none), (19, none), (20, none), (21, none), (22, none), (23, none), (24, none), (25, none), (26, none), (27, none)] (.c .nil .nil))) [(.slice scoresA scoresN scoresC)] w R = soft_Weights.vc scoresA scoresN scoresC w R := by kernel_rfl
theorem soft_Weights.calls (scoresA : Option Addr) (scoresN : Nat) (scoresC : Nat) {w : World} {R : Value → World → Prop} (h : soft_Weights.vc scoresA scoresN scoresC w R) : Calls Try.prog 40 #[(.slice scoresA scoresN scoresC)] w (Ret R) :=
  calls_V fit Try.func40 (.c .nil (.lp [(4, some (.slice)), (6, none), (15, some (.int .i64)), (16, none), (17, none), (18, none), (19, none), (20, none), (21, none), (22, none), (23, none), (24, none), (25, none), (26, none), (27, none)] (.c .nil .nil))) (by rw [show (#[(.slice scoresA scoresN scoresC)] : Array Value).toList = [(.slice scoresA scoresN scoresC)] from rfl, soft_Weights.vc_eq]; exact h)
/-- function 92 -/
def soft_isMix.vc (weightsA : Option Addr) (weightsN : Nat) (weightsC : Nat) (rowsA : Option Addr) (rowsN : Nat) (rowsC : Nat) (w : World) (R : Value → World → Prop) : Prop :=
  ∀ w1 : World, w1 = w.alloc (.cells #[(.slice rowsA rowsN rowsC)] 34 (0, 0)) →
  ∃ (x7A : Option Addr), ∃ (x7N : Nat), ∃ (x7C : Nat), w1.cell? (⟨w.heap.size, 0, none⟩ : Addr) = some (.slice x7A x7N x7C) ∧
  ((((x7N : Nat) : Int) == (0 : Int)) = true →
  R (.bool false) w1) ∧
  ((((x7N : Nat) : Int) == (0 : Int)) = false →
  ∃ (x13A : Option Addr), ∃ (x13N : Nat), ∃ (x13C : Nat), w1.cell? (⟨w.heap.size, 0, none⟩ : Addr) = some (.slice x13A x13N x13C) ∧
  ((((weightsN : Nat) : Int) != ((x13N : Nat) : Int)) = true →
  R (.bool false) w1) ∧
  ((((weightsN : Nat) : Int) != ((x13N : Nat) : Int)) = false →
  Calls Try.prog 66 #[(.slice weightsA weightsN weightsC)] w1 (Ret fun v w2 => ∃ (x19 : Int), v = (.int .i64 x19) ∧
  ((x19 == (0 : Int)) = true →
  R (.bool false) w2) ∧
  ((x19 == (0 : Int)) = false →
  Calls Try.prog 28 #[(.slice weightsA weightsN weightsC), (.func (.func 97) #[] #[])] w2 (Ret fun v_1 w3 => ∃ (x25 : Bool), v_1 = (.bool x25) ∧
  ((!x25) = true →
  ∃ (x28A : Option Addr), ∃ (x28N : Nat), ∃ (x28C : Nat), w3.cell? (⟨w.heap.size, 0, none⟩ : Addr) = some (.slice x28A x28N x28C) ∧
  Calls Try.prog 99 #[(.slice x28A x28N x28C), (.func (.func 98) #[] #[(.pointer (some (⟨w.heap.size, 0, none⟩ : Addr)))])] w3 (Ret fun v_2 w4 => ∃ (x30 : Bool), v_2 = (.bool x30) ∧
  R (.bool (!x30)) w4)) ∧
  ((!x25) = false →
  R (.bool false) w3))))))
theorem soft_isMix.vc_eq (weightsA : Option Addr) (weightsN : Nat) (weightsC : Nat) (rowsA : Option Addr) (rowsN : Nat) (rowsC : Nat) (w : World) (R : Value → World → Prop) : fnV Try.prog Try.f92 (.at_ 1 3 (.k .nil) (.at_ 1 10 (.k .nil) (.c .nil (.at_ 5 4 .nil .nil)))) [(.slice weightsA weightsN weightsC), (.slice rowsA rowsN rowsC)] w R = soft_isMix.vc weightsA weightsN weightsC rowsA rowsN rowsC w R := by kernel_rfl
theorem soft_isMix.calls (weightsA : Option Addr) (weightsN : Nat) (weightsC : Nat) (rowsA : Option Addr) (rowsN : Nat) (rowsC : Nat) {w : World} {R : Value → World → Prop} (h : soft_isMix.vc weightsA weightsN weightsC rowsA rowsN rowsC w R) : Calls Try.prog 92 #[(.slice weightsA weightsN weightsC), (.slice rowsA rowsN rowsC)] w (Ret R) :=
  calls_V fit Try.func92 (.at_ 1 3 (.k .nil) (.at_ 1 10 (.k .nil) (.c .nil (.at_ 5 4 .nil .nil)))) (by rw [show (#[(.slice weightsA weightsN weightsC), (.slice rowsA rowsN rowsC)] : Array Value).toList = [(.slice weightsA weightsN weightsC), (.slice rowsA rowsN rowsC)] from rfl, soft_isMix.vc_eq]; exact h)
/-- function 81 -/
def soft_Mix.vc (weightsA : Option Addr) (weightsN : Nat) (weightsC : Nat) (rowsA : Option Addr) (rowsN : Nat) (rowsC : Nat) (w : World) (R : Value → World → Prop) : Prop :=
  Calls Try.prog 92 #[(.slice weightsA weightsN weightsC), (.slice rowsA rowsN rowsC)] w (Ret fun v w1 => ∃ (x13 : Bool), v = (.bool x13) ∧
  ((!x13) = true →
  R (.slice none 0 0) w1) ∧
  ((!x13) = false →
  Calls Try.prog 66 #[(.slice weightsA weightsN weightsC)] w1 (Ret fun v_1 w2 => ∃ (x16 : Int), v_1 = (.int .i64 x16) ∧
  (0 ≤ (0 : Int) ∧ (0 : Int) < ((rowsN : Nat) : Int)) ∧ someV rowsA fun p =>
  ∃ (x19A : Option Addr), ∃ (x19N : Nat), ∃ (x19C : Nat), w2.cell? p = some (.slice x19A x19N x19C) ∧
  ∃ vI : Option Addr → Nat → Nat → Int → Nat → World → Prop, (∃ vk_2 : Nat, vI none 0 0 0 vk_2 w2) ∧
  ∀ (jk : Nat → Value) (outA : Option Addr) (outN : Nat) (outC : Nat) (x21 : Int), ∀ (vk : Nat) (w3 : World), vI outA outN outC x21 vk w3 →
  (decide (x21 < ((x19N : Nat) : Int)) = true →
  ∃ vI_1 : Int → Int → Nat → World → Prop, (∃ vk_5 : Nat, vI_1 0 0 vk_5 w3) ∧
  ∀ (jk : Nat → Value) (x : Int) (x26 : Int), ∀ (vk_3 : Nat) (w4 : World), vI_1 x x26 vk_3 w4 →
  (decide (x26 < ((rowsN : Nat) : Int)) = true →
  (0 ≤ x26 ∧ x26 < ((rowsN : Nat) : Int)) ∧ someV rowsA fun p_1 =>
  ∃ (x30A : Option Addr), ∃ (x30N : Nat), ∃ (x30C : Nat), w4.cell? (p_1.add (x26.toNat * 1)) = some (.slice x30A x30N x30C) ∧
  ∃ vS : World → Prop, ∀ w5 : World, w5 = w4.drew → vS w5 ∧
  (0 ≤ x26 ∧ x26 < ((weightsN : Nat) : Int)) ∧ someV weightsA fun p_2 =>
  ∃ (x35 : Int), (∀ w6, vS w6 → w6.cell? (p_2.add (x26.toNat * 1)) = some (.int .i64 x35)) ∧
  (0 ≤ x21 ∧ x21 < ((x30N : Nat) : Int)) ∧ someV x30A fun p_3 =>
  ∃ (x39 : Int), (∀ w7, vS w7 → w7.cell? (p_3.add (x21.toNat * 1)) = some (.int .i64 x39)) ∧
  Calls Try.prog 67 #[(.int .i64 x39)] w5 (Ret fun v_2 w8 => ∃ (x40 : Int), v_2 = (.int .i64 x40) ∧
  vS w8 ∧
  ∃ vk_4 : Nat, vk_4 < vk_3 ∧ vI_1 (IntKind.i64.wrap (x + (IntKind.i64.wrap (x35 * x40)))) (IntKind.i64.wrap (x26 + 1)) vk_4 w8)) ∧
  (decide (x26 < ((rowsN : Nat) : Int)) = false →
  x16 ≠ 0 ∧
  Calls Try.prog 33 #[(.int .i64 (IntKind.i64.wrap (Int.tdiv x x16)))] w4 (Ret fun v_3 w9 => ∃ (x48 : Int), v_3 = (.int .i64 x48) ∧
  ∀ w10 : World, w10 = w9.alloc (.cells #[(.int .i64 x48)] 3 (0, 0)) →
  ∃ (x50A : Option Addr), ∃ (x50N : Nat), ∃ (x50C : Nat), ∃ w11 : World, (Builtin.append_ #[24, 24] 24 #[(.slice outA outN outC), (.slice (some (⟨w9.heap.size, 0, none⟩ : Addr)) 1 1)]).run Try.prog w10 = .ok (.slice x50A x50N x50C) w11 ∧
  ∃ vk_1 : Nat, vk_1 < vk ∧ vI x50A x50N x50C (IntKind.i64.wrap (x21 + 1)) vk_1 w11))) ∧
  (decide (x21 < ((x19N : Nat) : Int)) = false →
  R (.slice outA outN outC) w3))))
theorem soft_Mix.vc_eq (weightsA : Option Addr) (weightsN : Nat) (weightsC : Nat) (rowsA : Option Addr) (rowsN : Nat) (rowsC : Nat) (w : World) (R : Value → World → Prop) : fnV Try.prog Try.f81 (.c .nil (.lp [(6, some (.slice)), (7, none), (8, none), (9, none), (10, none), (21, some (.int .i64)), (22, none), (23, none), (24, none), (25, none), (26, none), (27, none), (28, none), (29, none), (30, none), (31, none), (32, none), (33, none), (34, none), (35, none), (36, none), (37, none), (38, none), (39, none), (40, none), (41, none), (42, none), (43, none), (44, none), (45, none), (46, none), (47, none), (48, none), (49, none), (50, none), (51, none)] (.c (.lp [(8, some (.int .i64)), (9, none), (10, none), (26, some (.int .i64)), (27, none), (28, none), (29, none), (30, none), (31, none), (32, none), (33, none), (34, none), (35, none), (36, none), (37, none), (38, none), (39, none), (40, none), (41, none), (42, none), (43, none)] (.c (.tk 0 (.tk 1 (.tk 2 (.tk 3 (.tk 4 (.tk 5 (.tk 6 (.tk 7 (.tk 8 (.alt 9 (.tk 10 (.tk 11 (.tk 12 (.fin .nil)))) .nil)))))))))) .nil)) .nil))) [(.slice weightsA weightsN weightsC), (.slice rowsA rowsN rowsC)] w R = soft_Mix.vc weightsA weightsN weightsC rowsA rowsN rowsC w R := by kernel_rfl
theorem soft_Mix.calls (weightsA : Option Addr) (weightsN : Nat) (weightsC : Nat) (rowsA : Option Addr) (rowsN : Nat) (rowsC : Nat) {w : World} {R : Value → World → Prop} (h : soft_Mix.vc weightsA weightsN weightsC rowsA rowsN rowsC w R) : Calls Try.prog 81 #[(.slice weightsA weightsN weightsC), (.slice rowsA rowsN rowsC)] w (Ret R) :=
  calls_V fit Try.func81 (.c .nil (.lp [(6, some (.slice)), (7, none), (8, none), (9, none), (10, none), (21, some (.int .i64)), (22, none), (23, none), (24, none), (25, none), (26, none), (27, none), (28, none), (29, none), (30, none), (31, none), (32, none), (33, none), (34, none), (35, none), (36, none), (37, none), (38, none), (39, none), (40, none), (41, none), (42, none), (43, none), (44, none), (45, none), (46, none), (47, none), (48, none), (49, none), (50, none), (51, none)] (.c (.lp [(8, some (.int .i64)), (9, none), (10, none), (26, some (.int .i64)), (27, none), (28, none), (29, none), (30, none), (31, none), (32, none), (33, none), (34, none), (35, none), (36, none), (37, none), (38, none), (39, none), (40, none), (41, none), (42, none), (43, none)] (.c (.tk 0 (.tk 1 (.tk 2 (.tk 3 (.tk 4 (.tk 5 (.tk 6 (.tk 7 (.tk 8 (.alt 9 (.tk 10 (.tk 11 (.tk 12 (.fin .nil)))) .nil)))))))))) .nil)) .nil))) (by rw [show (#[(.slice weightsA weightsN weightsC), (.slice rowsA rowsN rowsC)] : Array Value).toList = [(.slice weightsA weightsN weightsC), (.slice rowsA rowsN rowsC)] from rfl, soft_Mix.vc_eq]; exact h)
/-- function 39 -/
def soft_Choose.vc (draw : Int) (weightsA : Option Addr) (weightsN : Nat) (weightsC : Nat) (w : World) (R : Value → World → Prop) : Prop :=
  (decide (((weightsN : Nat) : Int) > (64 : Int)) = true →
  R (.int .i64 (-1)) w) ∧
  (decide (((weightsN : Nat) : Int) > (64 : Int)) = false →
  Calls Try.prog 28 #[(.slice weightsA weightsN weightsC), (.func (.func 65) #[] #[])] w (Ret fun v w1 => ∃ (x16 : Bool), v = (.bool x16) ∧
  (x16 = true →
  R (.int .i64 (-1)) w1) ∧
  (x16 = false →
  Calls Try.prog 66 #[(.slice weightsA weightsN weightsC)] w1 (Ret fun v_1 w2 => ∃ (x19 : Int), v_1 = (.int .i64 x19) ∧
  ((x19 == (0 : Int)) = true →
  R (.int .i64 (-1)) w2) ∧
  ((x19 == (0 : Int)) = false →
  x19 ≠ 0 ∧
  ∃ J : Int → World → Prop, ((decide ((Int.tmod draw x19) < (0 : Int)) = true →
  J (IntKind.i64.wrap ((Int.tmod draw x19) + x19)) w2) ∧
  (decide ((Int.tmod draw x19) < (0 : Int)) = false →
  J (Int.tmod draw x19) w2)) ∧
  ∀ (jk : Nat → Value) (rest : Int), ∀ w3 : World, J rest w3 →
  ∃ vI : Int → Int → Nat → World → Prop, (∃ vk_2 : Nat, vI rest 0 vk_2 w3) ∧
  ∀ (jk : Nat → Value) (rest_1 : Int) (x32 : Int), ∀ (vk : Nat) (w4 : World), vI rest_1 x32 vk w4 →
  (decide (x32 < ((weightsN : Nat) : Int)) = true →
  (0 ≤ x32 ∧ x32 < ((weightsN : Nat) : Int)) ∧ someV weightsA fun p =>
  ∃ (x36 : Int), w4.cell? (p.add (x32.toNat * 1)) = some (.int .i64 x36) ∧
  (decide (rest_1 < x36) = true →
  R (.int .i64 x32) w4) ∧
  (decide (rest_1 < x36) = false →
  ∃ vk_1 : Nat, vk_1 < vk ∧ vI (IntKind.i64.wrap (rest_1 - x36)) (IntKind.i64.wrap (x32 + 1)) vk_1 w4)) ∧
  (decide (x32 < ((weightsN : Nat) : Int)) = false →
  R (.int .i64 (-1)) w4))))))
theorem soft_Choose.vc_eq (draw : Int) (weightsA : Option Addr) (weightsN : Nat) (weightsC : Nat) (w : World) (R : Value → World → Prop) : fnV Try.prog Try.f39 (.at_ 2 3 (.k .nil) (.c .nil (.c .nil (.cut 1 [(7, some (.int .i64)), (25, none), (26, none), (27, none), (28, none), (29, none)] (.c .nil .nil) (.lp [(4, none), (7, some (.int .i64)), (8, none), (9, none), (32, some (.int .i64)), (33, none), (34, none), (35, none), (36, none), (37, none), (38, none), (39, none), (40, none), (41, none), (42, none), (43, none), (44, none)] (.c (.c .nil .nil) .nil)))))) [(.int .i64 draw), (.slice weightsA weightsN weightsC)] w R = soft_Choose.vc draw weightsA weightsN weightsC w R := by kernel_rfl
theorem soft_Choose.calls (draw : Int) (weightsA : Option Addr) (weightsN : Nat) (weightsC : Nat) {w : World} {R : Value → World → Prop} (h : soft_Choose.vc draw weightsA weightsN weightsC w R) : Calls Try.prog 39 #[(.int .i64 draw), (.slice weightsA weightsN weightsC)] w (Ret R) :=
  calls_V fit Try.func39 (.at_ 2 3 (.k .nil) (.c .nil (.c .nil (.cut 1 [(7, some (.int .i64)), (25, none), (26, none), (27, none), (28, none), (29, none)] (.c .nil .nil) (.lp [(4, none), (7, some (.int .i64)), (8, none), (9, none), (32, some (.int .i64)), (33, none), (34, none), (35, none), (36, none), (37, none), (38, none), (39, none), (40, none), (41, none), (42, none), (43, none), (44, none)] (.c (.c .nil .nil) .nil)))))) (by rw [show (#[(.int .i64 draw), (.slice weightsA weightsN weightsC)] : Array Value).toList = [(.int .i64 draw), (.slice weightsA weightsN weightsC)] from rfl, soft_Choose.vc_eq]; exact h)
/-- function 23 -/
def soft_Best.vc (scoresA : Option Addr) (scoresN : Nat) (scoresC : Nat) (w : World) (R : Value → World → Prop) : Prop :=
  ((((scoresN : Nat) : Int) == (0 : Int)) = true →
  R (.int .i64 (-1)) w) ∧
  ((((scoresN : Nat) : Int) == (0 : Int)) = false →
  Calls Try.prog 47 #[(.slice scoresA scoresN scoresC)] w (Ret fun v w1 => ∃ (x8 : Int), v = (.int .i64 x8) ∧
  Calls Try.prog 46 #[(.slice scoresA scoresN scoresC), (.int .i64 x8)] w1 (Ret fun v_1 w2 => ∃ (x9 : Int), v_1 = (.int .i64 x9) ∧
  R (.int .i64 x9) w2)))
theorem soft_Best.vc_eq (scoresA : Option Addr) (scoresN : Nat) (scoresC : Nat) (w : World) (R : Value → World → Prop) : fnV Try.prog Try.f23 (.c .nil .nil) [(.slice scoresA scoresN scoresC)] w R = soft_Best.vc scoresA scoresN scoresC w R := by kernel_rfl
theorem soft_Best.calls (scoresA : Option Addr) (scoresN : Nat) (scoresC : Nat) {w : World} {R : Value → World → Prop} (h : soft_Best.vc scoresA scoresN scoresC w R) : Calls Try.prog 23 #[(.slice scoresA scoresN scoresC)] w (Ret R) :=
  calls_V fit Try.func23 (.c .nil .nil) (by rw [show (#[(.slice scoresA scoresN scoresC)] : Array Value).toList = [(.slice scoresA scoresN scoresC)] from rfl, soft_Best.vc_eq]; exact h)
/-- function 70 -/
def coadjutorref12_Exp.vc (d : Int) (w : World) (R : Value → World → Prop) : Prop :=
  ∀ w1 : World, w1 = w.alloc (.cells #[(.int .i64 0), (.int .i64 0), (.int .i64 0), (.int .i64 0), (.int .i64 0), (.int .i64 0), (.int .i64 0), (.int .i64 0)] 107 (0, 0)) →
  (((∃ u, w1.cell? (⟨w.heap.size, 0, none⟩ : Addr) = some u) ∧ w1.frozen? (⟨w.heap.size, 0, none⟩ : Addr) = false) ∧ ((∃ u, w1.cell? (⟨w.heap.size, 1, none⟩ : Addr) = some u) ∧ w1.frozen? (⟨w.heap.size, 1, none⟩ : Addr) = false) ∧ ((∃ u, w1.cell? (⟨w.heap.size, 2, none⟩ : Addr) = some u) ∧ w1.frozen? (⟨w.heap.size, 2, none⟩ : Addr) = false) ∧ ((∃ u, w1.cell? (⟨w.heap.size, 3, none⟩ : Addr) = some u) ∧ w1.frozen? (⟨w.heap.size, 3, none⟩ : Addr) = false) ∧ ((∃ u, w1.cell? (⟨w.heap.size, 4, none⟩ : Addr) = some u) ∧ w1.frozen? (⟨w.heap.size, 4, none⟩ : Addr) = false) ∧ ((∃ u, w1.cell? (⟨w.heap.size, 5, none⟩ : Addr) = some u) ∧ w1.frozen? (⟨w.heap.size, 5, none⟩ : Addr) = false) ∧ ((∃ u, w1.cell? (⟨w.heap.size, 6, none⟩ : Addr) = some u) ∧ w1.frozen? (⟨w.heap.size, 6, none⟩ : Addr) = false) ∧ ((∃ u, w1.cell? (⟨w.heap.size, 7, none⟩ : Addr) = some u) ∧ w1.frozen? (⟨w.heap.size, 7, none⟩ : Addr) = false)) ∧ ∀ w2 : World, w2 = ((((((((w1.setCell (⟨w.heap.size, 0, none⟩ : Addr) (.int .i64 65536)).setCell (⟨w.heap.size, 1, none⟩ : Addr) (.int .i64 60097)).setCell (⟨w.heap.size, 2, none⟩ : Addr) (.int .i64 55109)).setCell (⟨w.heap.size, 3, none⟩ : Addr) (.int .i64 50535)).setCell (⟨w.heap.size, 4, none⟩ : Addr) (.int .i64 46341)).setCell (⟨w.heap.size, 5, none⟩ : Addr) (.int .i64 42495)).setCell (⟨w.heap.size, 6, none⟩ : Addr) (.int .i64 38968)).setCell (⟨w.heap.size, 7, none⟩ : Addr) (.int .i64 35734)) →
  (8 : Int) ≠ 0 ∧
  (0 ≤ (Int.tmod (if (0 : Int) > d then (0 : Int) else d) 8) ∧ (Int.tmod (if (0 : Int) > d then (0 : Int) else d) 8) < (8 : Int)) ∧
  ∃ (x12 : Int), w2.cell? ((⟨w.heap.size, 0, none⟩ : Addr).add ((Int.tmod (if (0 : Int) > d then (0 : Int) else d) 8).toNat * 1)) = some (.int .i64 x12) ∧
  ∃ vI : Int → Int → Nat → World → Prop, (∃ vk_2 : Nat, vI x12 0 vk_2 w2) ∧
  ∀ (jk : Nat → Value) (x : Int) (i : Int), ∀ (vk : Nat) (w3 : World), vI x i vk w3 →
  (8 : Int) ≠ 0 ∧
  (decide (i < (IntKind.i64.wrap (Int.tdiv (if (0 : Int) > d then (0 : Int) else d) 8))) = true →
  (decide (x > (0 : Int)) = true →
  (2 : Int) ≠ 0 ∧
  ∃ vk_1 : Nat, vk_1 < vk ∧ vI (IntKind.i64.wrap (Int.tdiv x 2)) (IntKind.i64.wrap (i + 1)) vk_1 w3) ∧
  (decide (x > (0 : Int)) = false →
  R (.int .i64 x) w3)) ∧
  (decide (i < (IntKind.i64.wrap (Int.tdiv (if (0 : Int) > d then (0 : Int) else d) 8))) = false →
  R (.int .i64 x) w3)
theorem coadjutorref12_Exp.vc_eq (d : Int) (w : World) (R : Value → World → Prop) : fnV Try.prog Try.f70 (.lp [(4, some (.int .i64)), (5, some (.int .i64)), (13, none), (14, none), (15, none), (16, none), (17, none), (18, none), (19, none), (20, none), (21, none), (22, none), (23, none), (24, none)] (.at_ 5 4 (.c .nil .nil) (.k .nil))) [(.int .i64 d)] w R = coadjutorref12_Exp.vc d w R := by kernel_rfl
theorem coadjutorref12_Exp.calls (d : Int) {w : World} {R : Value → World → Prop} (h : coadjutorref12_Exp.vc d w R) : Calls Try.prog 70 #[(.int .i64 d)] w (Ret R) :=
  calls_V fit Try.func70 (.lp [(4, some (.int .i64)), (5, some (.int .i64)), (13, none), (14, none), (15, none), (16, none), (17, none), (18, none), (19, none), (20, none), (21, none), (22, none), (23, none), (24, none)] (.at_ 5 4 (.c .nil .nil) (.k .nil))) (by rw [show (#[(.int .i64 d)] : Array Value).toList = [(.int .i64 d)] from rfl, coadjutorref12_Exp.vc_eq]; exact h)
/-- function 69 -/
def coadjutorref12_Clamp.vc (x : Int) (w : World) (R : Value → World → Prop) : Prop :=
  Calls Try.prog 87 #[(.int .i64 x), (.int .i64 (-1073741824)), (.int .i64 1073741824)] w (Ret fun v w1 => ∃ (x4 : Int), v = (.int .i64 x4) ∧
  R (.int .i64 x4) w1)
theorem coadjutorref12_Clamp.vc_eq (x : Int) (w : World) (R : Value → World → Prop) : fnV Try.prog Try.f69 .nil [(.int .i64 x)] w R = coadjutorref12_Clamp.vc x w R := by kernel_rfl
theorem coadjutorref12_Clamp.calls (x : Int) {w : World} {R : Value → World → Prop} (h : coadjutorref12_Clamp.vc x w R) : Calls Try.prog 69 #[(.int .i64 x)] w (Ret R) :=
  calls_V fit Try.func69 .nil (by rw [show (#[(.int .i64 x)] : Array Value).toList = [(.int .i64 x)] from rfl, coadjutorref12_Clamp.vc_eq]; exact h)
/-- function 42 -/
def coadjutorref12_Weights.vc (lA : Option Addr) (lN : Nat) (lC : Nat) (w : World) (R : Value → World → Prop) : Prop :=
  ∀ w1 : World, w1 = w.alloc (.cells #[] 3 (0, 0)) →
  ∃ vI : Option Addr → Nat → Nat → Int → Nat → World → Prop, (∃ vk_2 : Nat, vI (some (⟨w.heap.size, 0, none⟩ : Addr)) 0 0 0 vk_2 w1) ∧
  ∀ (jk : Nat → Value) (outA : Option Addr) (outN : Nat) (outC : Nat) (i : Int), ∀ (vk : Nat) (w2 : World), vI outA outN outC i vk w2 →
  (decide (i < ((lN : Nat) : Int)) = true →
  (0 ≤ i ∧ i < ((lN : Nat) : Int)) ∧ someV lA fun p =>
  ∃ (x17 : Int), w2.cell? (p.add (i.toNat * 1)) = some (.int .i64 x17) ∧
  Calls Try.prog 69 #[(.int .i64 x17)] w2 (Ret fun v w3 => ∃ (x18 : Int), v = (.int .i64 x18) ∧
  ∃ vI_1 : Int → Int → Nat → World → Prop, (∃ vk_5 : Nat, vI_1 x18 0 vk_5 w3) ∧
  ∀ (jk : Nat → Value) (high : Int) (vk_6 : Int), ∀ (vk_3 : Nat) (w4 : World), vI_1 high vk_6 vk_3 w4 →
  (decide (vk_6 < ((lN : Nat) : Int)) = true →
  (0 ≤ vk_6 ∧ vk_6 < ((lN : Nat) : Int)) ∧ someV lA fun p_1 =>
  ∃ (x29 : Int), w4.cell? (p_1.add (vk_6.toNat * 1)) = some (.int .i64 x29) ∧
  Calls Try.prog 69 #[(.int .i64 x29)] w4 (Ret fun v_1 w5 => ∃ (x30 : Int), v_1 = (.int .i64 x30) ∧
  ∃ vk_4 : Nat, vk_4 < vk_3 ∧ vI_1 (if x30 > high then x30 else high) (IntKind.i64.wrap (vk_6 + 1)) vk_4 w5)) ∧
  (decide (vk_6 < ((lN : Nat) : Int)) = false →
  (0 ≤ i ∧ i < ((lN : Nat) : Int)) ∧ someV lA fun p_2 =>
  ∃ (x37 : Int), w4.cell? (p_2.add (i.toNat * 1)) = some (.int .i64 x37) ∧
  Calls Try.prog 69 #[(.int .i64 x37)] w4 (Ret fun v_2 w6 => ∃ (x38 : Int), v_2 = (.int .i64 x38) ∧
  Calls Try.prog 70 #[(.int .i64 (IntKind.i64.wrap (high - x38)))] w6 (Ret fun v_3 w7 => ∃ (x40 : Int), v_3 = (.int .i64 x40) ∧
  ∀ w8 : World, w8 = w7.alloc (.cells #[(.int .i64 x40)] 3 (0, 0)) →
  ∃ (x42A : Option Addr), ∃ (x42N : Nat), ∃ (x42C : Nat), ∃ w9 : World, (Builtin.append_ #[24, 24] 24 #[(.slice outA outN outC), (.slice (some (⟨w7.heap.size, 0, none⟩ : Addr)) 1 1)]).run Try.prog w8 = .ok (.slice x42A x42N x42C) w9 ∧
  ∃ vk_1 : Nat, vk_1 < vk ∧ vI x42A x42N x42C (IntKind.i64.wrap (i + 1)) vk_1 w9))))) ∧
  (decide (i < ((lN : Nat) : Int)) = false →
  R (.slice outA outN outC) w2)
theorem coadjutorref12_Weights.vc_eq (lA : Option Addr) (lN : Nat) (lC : Nat) (w : World) (R : Value → World → Prop) : fnV Try.prog Try.f42 (.lp [(3, some (.slice)), (4, some (.int .i64)), (5, none), (6, none), (8, none), (9, none), (10, none), (11, none), (12, none), (13, none), (14, none), (15, none), (16, none), (17, none), (18, none), (19, none), (20, none), (21, none), (22, none), (23, none), (24, none), (25, none), (26, none), (27, none), (28, none), (29, none), (30, none), (31, none), (32, none), (33, none), (34, none), (35, none), (36, none), (37, none), (38, none), (39, none), (40, none), (41, none), (42, none)] (.c (.lp [(5, some (.int .i64)), (6, some (.int .i64)), (19, none), (20, none), (21, none), (22, none), (23, none), (24, none), (25, none), (26, none), (27, none), (28, none), (29, none), (30, none), (31, none)] (.c .nil .nil)) .nil)) [(.slice lA lN lC)] w R = coadjutorref12_Weights.vc lA lN lC w R := by kernel_rfl
theorem coadjutorref12_Weights.calls (lA : Option Addr) (lN : Nat) (lC : Nat) {w : World} {R : Value → World → Prop} (h : coadjutorref12_Weights.vc lA lN lC w R) : Calls Try.prog 42 #[(.slice lA lN lC)] w (Ret R) :=
  calls_V fit Try.func42 (.lp [(3, some (.slice)), (4, some (.int .i64)), (5, none), (6, none), (8, none), (9, none), (10, none), (11, none), (12, none), (13, none), (14, none), (15, none), (16, none), (17, none), (18, none), (19, none), (20, none), (21, none), (22, none), (23, none), (24, none), (25, none), (26, none), (27, none), (28, none), (29, none), (30, none), (31, none), (32, none), (33, none), (34, none), (35, none), (36, none), (37, none), (38, none), (39, none), (40, none), (41, none), (42, none)] (.c (.lp [(5, some (.int .i64)), (6, some (.int .i64)), (19, none), (20, none), (21, none), (22, none), (23, none), (24, none), (25, none), (26, none), (27, none), (28, none), (29, none), (30, none), (31, none)] (.c .nil .nil)) .nil)) (by rw [show (#[(.slice lA lN lC)] : Array Value).toList = [(.slice lA lN lC)] from rfl, coadjutorref12_Weights.vc_eq]; exact h)
/-- function 41 -/
def coadjutorref12_Choose.vc (draw : Int) (weightsA : Option Addr) (weightsN : Nat) (weightsC : Nat) (w : World) (R : Value → World → Prop) : Prop :=
  ∃ vI : Int → Int → Nat → World → Prop, (∃ vk_2 : Nat, vI 0 0 vk_2 w) ∧
  ∀ (jk : Nat → Value) (sum : Int) (i : Int), ∀ (vk : Nat) (w1 : World), vI sum i vk w1 →
  (decide (i < ((weightsN : Nat) : Int)) = true →
  (0 ≤ i ∧ i < ((weightsN : Nat) : Int)) ∧ someV weightsA fun p =>
  ∃ (x18 : Int), w1.cell? (p.add (i.toNat * 1)) = some (.int .i64 x18) ∧
  (decide (x18 < (0 : Int)) = true →
  R (.int .i64 (-1)) w1) ∧
  (decide (x18 < (0 : Int)) = false →
  (0 ≤ i ∧ i < ((weightsN : Nat) : Int)) ∧ someV weightsA fun p_1 =>
  ∃ (x24 : Int), w1.cell? (p_1.add (i.toNat * 1)) = some (.int .i64 x24) ∧
  (decide (x24 > (1048576 : Int)) = true →
  R (.int .i64 (-1)) w1) ∧
  (decide (x24 > (1048576 : Int)) = false →
  (decide (((weightsN : Nat) : Int) > (64 : Int)) = true →
  R (.int .i64 (-1)) w1) ∧
  (decide (((weightsN : Nat) : Int) > (64 : Int)) = false →
  (0 ≤ i ∧ i < ((weightsN : Nat) : Int)) ∧ someV weightsA fun p_2 =>
  ∃ (x36 : Int), w1.cell? (p_2.add (i.toNat * 1)) = some (.int .i64 x36) ∧
  ∃ vk_1 : Nat, vk_1 < vk ∧ vI (IntKind.i64.wrap (sum + x36)) (IntKind.i64.wrap (i + 1)) vk_1 w1)))) ∧
  (decide (i < ((weightsN : Nat) : Int)) = false →
  ((sum == (0 : Int)) = true →
  R (.int .i64 (-1)) w1) ∧
  ((sum == (0 : Int)) = false →
  sum ≠ 0 ∧
  ∃ J : Int → World → Prop, ((decide ((Int.tmod draw sum) < (0 : Int)) = true →
  J (IntKind.i64.wrap ((Int.tmod draw sum) + sum)) w1) ∧
  (decide ((Int.tmod draw sum) < (0 : Int)) = false →
  J (Int.tmod draw sum) w1)) ∧
  ∀ (jk : Nat → Value) (d : Int), ∀ w2 : World, J d w2 →
  ∃ vI_1 : Int → Int → Nat → World → Prop, (∃ vk_5 : Nat, vI_1 d 0 vk_5 w2) ∧
  ∀ (jk : Nat → Value) (d_1 : Int) (i_1 : Int), ∀ (vk_3 : Nat) (w3 : World), vI_1 d_1 i_1 vk_3 w3 →
  (decide (i_1 < ((weightsN : Nat) : Int)) = true →
  (0 ≤ i_1 ∧ i_1 < ((weightsN : Nat) : Int)) ∧ someV weightsA fun p_3 =>
  ∃ (x58 : Int), w3.cell? (p_3.add (i_1.toNat * 1)) = some (.int .i64 x58) ∧
  (decide (d_1 < x58) = true →
  R (.int .i64 i_1) w3) ∧
  (decide (d_1 < x58) = false →
  (0 ≤ i_1 ∧ i_1 < ((weightsN : Nat) : Int)) ∧ someV weightsA fun p_4 =>
  ∃ (x65 : Int), w3.cell? (p_4.add (i_1.toNat * 1)) = some (.int .i64 x65) ∧
  ∃ vk_4 : Nat, vk_4 < vk_3 ∧ vI_1 (IntKind.i64.wrap (d_1 - x65)) (IntKind.i64.wrap (i_1 + 1)) vk_4 w3)) ∧
  (decide (i_1 < ((weightsN : Nat) : Int)) = false →
  R (.int .i64 (-1)) w3)))
theorem coadjutorref12_Choose.vc_eq (draw : Int) (weightsA : Option Addr) (weightsN : Nat) (weightsC : Nat) (w : World) (R : Value → World → Prop) : fnV Try.prog Try.f41 (.lp [(4, none), (5, some (.int .i64)), (6, some (.int .i64)), (9, none), (10, none), (11, none), (12, none), (13, none), (14, none), (15, none), (16, none), (17, none), (18, none), (19, none), (20, none), (21, none), (22, none), (23, none), (24, none), (25, none), (26, none), (27, none), (28, none), (29, none), (30, none), (31, none), (32, none), (33, none), (34, none), (35, none), (36, none), (37, none)] (.c (.at_ 5 5 (.k .nil) (.at_ 5 12 (.k .nil) (.c .nil .nil))) (.c .nil (.cut 1 [(7, some (.int .i64)), (43, none), (44, none), (45, none), (46, none), (47, none)] (.c .nil .nil) (.lp [(4, none), (7, some (.int .i64)), (8, some (.int .i64)), (48, none), (49, none), (50, none), (51, none), (52, none), (53, none), (54, none), (55, none), (56, none), (57, none), (58, none), (59, none), (60, none), (61, none), (62, none), (63, none), (64, none), (65, none), (66, none)] (.c (.c .nil .nil) .nil)))))) [(.int .i64 draw), (.slice weightsA weightsN weightsC)] w R = coadjutorref12_Choose.vc draw weightsA weightsN weightsC w R := by kernel_rfl
theorem coadjutorref12_Choose.calls (draw : Int) (weightsA : Option Addr) (weightsN : Nat) (weightsC : Nat) {w : World} {R : Value → World → Prop} (h : coadjutorref12_Choose.vc draw weightsA weightsN weightsC w R) : Calls Try.prog 41 #[(.int .i64 draw), (.slice weightsA weightsN weightsC)] w (Ret R) :=
  calls_V fit Try.func41 (.lp [(4, none), (5, some (.int .i64)), (6, some (.int .i64)), (9, none), (10, none), (11, none), (12, none), (13, none), (14, none), (15, none), (16, none), (17, none), (18, none), (19, none), (20, none), (21, none), (22, none), (23, none), (24, none), (25, none), (26, none), (27, none), (28, none), (29, none), (30, none), (31, none), (32, none), (33, none), (34, none), (35, none), (36, none), (37, none)] (.c (.at_ 5 5 (.k .nil) (.at_ 5 12 (.k .nil) (.c .nil .nil))) (.c .nil (.cut 1 [(7, some (.int .i64)), (43, none), (44, none), (45, none), (46, none), (47, none)] (.c .nil .nil) (.lp [(4, none), (7, some (.int .i64)), (8, some (.int .i64)), (48, none), (49, none), (50, none), (51, none), (52, none), (53, none), (54, none), (55, none), (56, none), (57, none), (58, none), (59, none), (60, none), (61, none), (62, none), (63, none), (64, none), (65, none), (66, none)] (.c (.c .nil .nil) .nil)))))) (by rw [show (#[(.int .i64 draw), (.slice weightsA weightsN weightsC)] : Array Value).toList = [(.int .i64 draw), (.slice weightsA weightsN weightsC)] from rfl, coadjutorref12_Choose.vc_eq]; exact h)
/-- function 47 -/
def slices_Max.vc (xA : Option Addr) (xN : Nat) (xC : Nat) (w : World) (R : Value → World → Prop) : Prop :=
  (decide (((xN : Nat) : Int) < (1 : Int)) = true →
  False) ∧
  (decide (((xN : Nat) : Int) < (1 : Int)) = false →
  (0 ≤ (0 : Int) ∧ (0 : Int) < ((xN : Nat) : Int)) ∧ someV xA fun p =>
  ∃ (x11 : Int), w.cell? p = some (.int .i64 x11) ∧
  ∃ vI : Int → Int → Nat → World → Prop, (∃ vk_2 : Nat, vI x11 1 vk_2 w) ∧
  ∀ (jk : Nat → Value) (m : Int) (i : Int), ∀ (vk : Nat) (w1 : World), vI m i vk w1 →
  (decide (i < ((xN : Nat) : Int)) = true →
  (0 ≤ i ∧ i < ((xN : Nat) : Int)) ∧ someV xA fun p_1 =>
  ∃ (x22 : Int), w1.cell? (p_1.add (i.toNat * 1)) = some (.int .i64 x22) ∧
  ∃ vk_1 : Nat, vk_1 < vk ∧ vI (if x22 > m then x22 else m) (IntKind.i64.wrap (i + 1)) vk_1 w1) ∧
  (decide (i < ((xN : Nat) : Int)) = false →
  R (.int .i64 m) w1))
theorem slices_Max.vc_eq (xA : Option Addr) (xN : Nat) (xC : Nat) (w : World) (R : Value → World → Prop) : fnV Try.prog Try.f47 (.c .nil (.lp [(3, some (.int .i64)), (4, some (.int .i64)), (12, none), (13, none), (14, none), (15, none), (16, none), (17, none), (18, none), (19, none), (20, none), (21, none), (22, none), (23, none)] (.c .nil .nil))) [(.slice xA xN xC)] w R = slices_Max.vc xA xN xC w R := by kernel_rfl
theorem slices_Max.calls (xA : Option Addr) (xN : Nat) (xC : Nat) {w : World} {R : Value → World → Prop} (h : slices_Max.vc xA xN xC w R) : Calls Try.prog 47 #[(.slice xA xN xC)] w (Ret R) :=
  calls_V fit Try.func47 (.c .nil (.lp [(3, some (.int .i64)), (4, some (.int .i64)), (12, none), (13, none), (14, none), (15, none), (16, none), (17, none), (18, none), (19, none), (20, none), (21, none), (22, none), (23, none)] (.c .nil .nil))) (by rw [show (#[(.slice xA xN xC)] : Array Value).toList = [(.slice xA xN xC)] from rfl, slices_Max.vc_eq]; exact h)
/-- function 46 -/
def slices_Index.vc (sA : Option Addr) (sN : Nat) (sC : Nat) (v : Int) (w : World) (R : Value → World → Prop) : Prop :=
  ∃ vI : Int → Nat → World → Prop, (∃ vk_2 : Nat, vI 0 vk_2 w) ∧
  ∀ (jk : Nat → Value) (x8 : Int), ∀ (vk : Nat) (w1 : World), vI x8 vk w1 →
  (decide (x8 < ((sN : Nat) : Int)) = true →
  (0 ≤ x8 ∧ x8 < ((sN : Nat) : Int)) ∧ someV sA fun p =>
  ∃ (x15 : Int), w1.cell? (p.add (x8.toNat * 1)) = some (.int .i64 x15) ∧
  ((v == x15) = true →
  R (.int .i64 x8) w1) ∧
  ((v == x15) = false →
  ∃ vk_1 : Nat, vk_1 < vk ∧ vI (IntKind.i64.wrap (x8 + 1)) vk_1 w1)) ∧
  (decide (x8 < ((sN : Nat) : Int)) = false →
  R (.int .i64 (-1)) w1)
theorem slices_Index.vc_eq (sA : Option Addr) (sN : Nat) (sC : Nat) (v : Int) (w : World) (R : Value → World → Prop) : fnV Try.prog Try.f46 (.lp [(4, none), (5, none), (8, some (.int .i64)), (9, none), (10, none), (11, none), (12, none), (13, none), (14, none), (15, none), (16, none), (17, none), (18, none)] (.c (.c .nil .nil) .nil)) [(.slice sA sN sC), (.int .i64 v)] w R = slices_Index.vc sA sN sC v w R := by kernel_rfl
theorem slices_Index.calls (sA : Option Addr) (sN : Nat) (sC : Nat) (v : Int) {w : World} {R : Value → World → Prop} (h : slices_Index.vc sA sN sC v w R) : Calls Try.prog 46 #[(.slice sA sN sC), (.int .i64 v)] w (Ret R) :=
  calls_V fit Try.func46 (.lp [(4, none), (5, none), (8, some (.int .i64)), (9, none), (10, none), (11, none), (12, none), (13, none), (14, none), (15, none), (16, none), (17, none), (18, none)] (.c (.c .nil .nil) .nil)) (by rw [show (#[(.slice sA sN sC), (.int .i64 v)] : Array Value).toList = [(.slice sA sN sC), (.int .i64 v)] from rfl, slices_Index.vc_eq]; exact h)
end Go.Proofs.Ytfhnegfoglngoaa.Vc
