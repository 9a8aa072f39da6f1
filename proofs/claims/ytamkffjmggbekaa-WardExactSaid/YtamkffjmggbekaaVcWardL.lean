import Derived.Test.YtamkffjmggbekaaVc
import Derived.Test.YtamkffjmggbekaaH
import Derived.Test.YtamkffjmggbekaaProg
import Derived.KernelRfl
set_option linter.unusedVariables false
set_option maxRecDepth 100000
namespace Go.Proofs.Ytamkffjmggbekaa.Vc
open Go Go.Proofs Go.Proofs.Ytamkffjmggbekaa.V
/-- function 28 -/
def coadjutorlaw24_ints.vc (aA : Option Addr) (aN : Nat) (aC : Nat) (bA : Option Addr) (bN : Nat) (bC : Nat) (w : World) (R : Value → World → Prop) : Prop :=
  ((((aN : Nat) : Int) != ((bN : Nat) : Int)) = true →
  R (.bool false) w) ∧
  ((((aN : Nat) : Int) != ((bN : Nat) : Int)) = false →
  ∃ vI : Int → Nat → World → Prop, (∃ vk_2 : Nat, vI 0 vk_2 w) ∧
  ∀ (jk : Nat → Value) (i : Int), ∀ (vk : Nat) (w1 : World), vI i vk w1 →
  (decide (i < ((aN : Nat) : Int)) = true →
  ∃ vS : World → Prop, ∀ w2 : World, w2 = w1.drew → vS w2 ∧
  (0 ≤ i ∧ i < ((aN : Nat) : Int)) ∧ someV aA fun p =>
  ∃ (x20 : Int), (∀ w3, vS w3 → w3.cell? (p.add (i.toNat * 1)) = some (.int .i64 x20)) ∧
  (0 ≤ i ∧ i < ((bN : Nat) : Int)) ∧ someV bA fun p_1 =>
  ∃ (x24 : Int), (∀ w4, vS w4 → w4.cell? (p_1.add (i.toNat * 1)) = some (.int .i64 x24)) ∧
  ((x20 != x24) = true →
  R (.bool false) w2) ∧
  ((x20 != x24) = false →
  ∃ vk_1 : Nat, vk_1 < vk ∧ vI (IntKind.i64.wrap (i + 1)) vk_1 w2)) ∧
  (decide (i < ((aN : Nat) : Int)) = false →
  R (.bool true) w1))
theorem coadjutorlaw24_ints.vc_eq (aA : Option Addr) (aN : Nat) (aC : Nat) (bA : Option Addr) (bN : Nat) (bC : Nat) (w : World) (R : Value → World → Prop) : fnV Try.prog Try.f28 (.c .nil (.lp [(4, none), (5, some (.int .i64)), (11, none), (12, none), (13, none), (14, none), (15, none), (16, none), (17, none), (18, none), (19, none), (20, none), (21, none), (22, none), (23, none), (24, none), (25, none)] (.c (.tk 0 (.tk 1 (.tk 2 (.tk 3 (.tk 4 (.tk 5 (.tk 6 (.tk 7 (.tk 8 (.fin (.c .nil .nil))))))))))) .nil))) [(.slice aA aN aC), (.slice bA bN bC)] w R = coadjutorlaw24_ints.vc aA aN aC bA bN bC w R := by kernel_rfl
theorem coadjutorlaw24_ints.calls (aA : Option Addr) (aN : Nat) (aC : Nat) (bA : Option Addr) (bN : Nat) (bC : Nat) {w : World} {R : Value → World → Prop} (h : coadjutorlaw24_ints.vc aA aN aC bA bN bC w R) : Calls Try.prog 28 #[(.slice aA aN aC), (.slice bA bN bC)] w (Ret R) :=
  calls_V fit Try.func28 (.c .nil (.lp [(4, none), (5, some (.int .i64)), (11, none), (12, none), (13, none), (14, none), (15, none), (16, none), (17, none), (18, none), (19, none), (20, none), (21, none), (22, none), (23, none), (24, none), (25, none)] (.c (.tk 0 (.tk 1 (.tk 2 (.tk 3 (.tk 4 (.tk 5 (.tk 6 (.tk 7 (.tk 8 (.fin (.c .nil .nil))))))))))) .nil))) (by rw [show (#[(.slice aA aN aC), (.slice bA bN bC)] : Array Value).toList = [(.slice aA aN aC), (.slice bA bN bC)] from rfl, coadjutorlaw24_ints.vc_eq]; exact h)
/-- function 23 -/
def coadjutorlaw24_form.vc (a0 : Int) (a1 : Int) (a2A : Option Addr) (a2N : Nat) (a2C : Nat) (a3 : Int) (a4A : Option Addr) (a4N : Nat) (a4C : Nat) (w : World) (R : Value → World → Prop) : Prop :=
  ∀ w1 : World, w1 = w.alloc (.cells #[(.int .i64 a0), (.int .i64 a1), (.slice a2A a2N a2C), (.int .i64 a3), (.slice a4A a4N a4C)] 32 (0, 0)) →
  ∀ w2 : World, w2 = w1.alloc (.cells #[(.int .i64 0), (.int .i64 0), (.slice none 0 0), (.int .i64 0), (.slice none 0 0)] 59 (0, 0)) →
  ∃ (x4 : Int), w2.cell? (⟨w.heap.size, 0, none⟩ : Addr) = some (.int .i64 x4) ∧
  ∃ (x6 : Int), w2.cell? (⟨w.heap.size, 1, none⟩ : Addr) = some (.int .i64 x6) ∧
  ∃ (x8A : Option Addr), ∃ (x8N : Nat), ∃ (x8C : Nat), w2.cell? (⟨w.heap.size, 2, none⟩ : Addr) = some (.slice x8A x8N x8C) ∧
  ∃ (x10 : Int), w2.cell? (⟨w.heap.size, 3, none⟩ : Addr) = some (.int .i64 x10) ∧
  ∃ (x12A : Option Addr), ∃ (x12N : Nat), ∃ (x12C : Nat), w2.cell? (⟨w.heap.size, 4, none⟩ : Addr) = some (.slice x12A x12N x12C) ∧
  (((∃ u, w2.cell? (⟨w1.heap.size, 0, none⟩ : Addr) = some u) ∧ w2.frozen? (⟨w1.heap.size, 0, none⟩ : Addr) = false) ∧ ((∃ u, w2.cell? (⟨w1.heap.size, 1, none⟩ : Addr) = some u) ∧ w2.frozen? (⟨w1.heap.size, 1, none⟩ : Addr) = false) ∧ ((∃ u, w2.cell? (⟨w1.heap.size, 2, none⟩ : Addr) = some u) ∧ w2.frozen? (⟨w1.heap.size, 2, none⟩ : Addr) = false) ∧ ((∃ u, w2.cell? (⟨w1.heap.size, 3, none⟩ : Addr) = some u) ∧ w2.frozen? (⟨w1.heap.size, 3, none⟩ : Addr) = false) ∧ ((∃ u, w2.cell? (⟨w1.heap.size, 4, none⟩ : Addr) = some u) ∧ w2.frozen? (⟨w1.heap.size, 4, none⟩ : Addr) = false)) ∧ ∀ w3 : World, w3 = (((((w2.setCell (⟨w1.heap.size, 0, none⟩ : Addr) (.int .i64 x4)).setCell (⟨w1.heap.size, 1, none⟩ : Addr) (.int .i64 x6)).setCell (⟨w1.heap.size, 2, none⟩ : Addr) (.slice x8A x8N x8C)).setCell (⟨w1.heap.size, 3, none⟩ : Addr) (.int .i64 x10)).setCell (⟨w1.heap.size, 4, none⟩ : Addr) (.slice x12A x12N x12C)) →
  ∃ (r00 : Int), ∃ (r01 : Int), ∃ (r02A : Option Addr), ∃ (r02N : Nat), ∃ (r02C : Nat), ∃ (r03 : Int), ∃ (r04A : Option Addr), ∃ (r04N : Nat), ∃ (r04C : Nat), (w3.cell? (⟨w1.heap.size, 0, none⟩ : Addr) = some (.int .i64 r00) ∧ w3.cell? (⟨w1.heap.size, 1, none⟩ : Addr) = some (.int .i64 r01) ∧ w3.cell? (⟨w1.heap.size, 2, none⟩ : Addr) = some (.slice r02A r02N r02C) ∧ w3.cell? (⟨w1.heap.size, 3, none⟩ : Addr) = some (.int .i64 r03) ∧ w3.cell? (⟨w1.heap.size, 4, none⟩ : Addr) = some (.slice r04A r04N r04C)) ∧
  R (.agg #[(.int .i64 r00), (.int .i64 r01), (.slice r02A r02N r02C), (.int .i64 r03), (.slice r04A r04N r04C)]) w3
theorem coadjutorlaw24_form.vc_eq (a0 : Int) (a1 : Int) (a2A : Option Addr) (a2N : Nat) (a2C : Nat) (a3 : Int) (a4A : Option Addr) (a4N : Nat) (a4C : Nat) (w : World) (R : Value → World → Prop) : fnV Try.prog Try.f23 .nil [(.agg #[(.int .i64 a0), (.int .i64 a1), (.slice a2A a2N a2C), (.int .i64 a3), (.slice a4A a4N a4C)])] w R = coadjutorlaw24_form.vc a0 a1 a2A a2N a2C a3 a4A a4N a4C w R := by kernel_rfl
theorem coadjutorlaw24_form.calls (a0 : Int) (a1 : Int) (a2A : Option Addr) (a2N : Nat) (a2C : Nat) (a3 : Int) (a4A : Option Addr) (a4N : Nat) (a4C : Nat) {w : World} {R : Value → World → Prop} (h : coadjutorlaw24_form.vc a0 a1 a2A a2N a2C a3 a4A a4N a4C w R) : Calls Try.prog 23 #[(.agg #[(.int .i64 a0), (.int .i64 a1), (.slice a2A a2N a2C), (.int .i64 a3), (.slice a4A a4N a4C)])] w (Ret R) :=
  calls_V fit Try.func23 .nil (by rw [show (#[(.agg #[(.int .i64 a0), (.int .i64 a1), (.slice a2A a2N a2C), (.int .i64 a3), (.slice a4A a4N a4C)])] : Array Value).toList = [(.agg #[(.int .i64 a0), (.int .i64 a1), (.slice a2A a2N a2C), (.int .i64 a3), (.slice a4A a4N a4C)])] from rfl, coadjutorlaw24_form.vc_eq]; exact h)
/-- function 24 -/
def coadjutorlaw24_alike.vc (a0 : Int) (a1 : Int) (a2A : Option Addr) (a2N : Nat) (a2C : Nat) (a3 : Int) (a4A : Option Addr) (a4N : Nat) (a4C : Nat) (vw0 : Int) (vw1 : Int) (w2A : Option Addr) (w2N : Nat) (w2C : Nat) (vw3 : Int) (w4A : Option Addr) (w4N : Nat) (w4C : Nat) (w : World) (R : Value → World → Prop) : Prop :=
  ∀ w1 : World, w1 = w.alloc (.cells #[(.int .i64 a0), (.int .i64 a1), (.slice a2A a2N a2C), (.int .i64 a3), (.slice a4A a4N a4C)] 32 (0, 0)) →
  ∀ w2 : World, w2 = w1.alloc (.cells #[(.int .i64 vw0), (.int .i64 vw1), (.slice w2A w2N w2C), (.int .i64 vw3), (.slice w4A w4N w4C)] 59 (0, 0)) →
  ∃ (x6 : Int), w2.cell? (⟨w.heap.size, 0, none⟩ : Addr) = some (.int .i64 x6) ∧
  ∃ (x8 : Int), w2.cell? (⟨w1.heap.size, 0, none⟩ : Addr) = some (.int .i64 x8) ∧
  ((x6 == x8) = true →
  ∃ (x12 : Int), w2.cell? (⟨w.heap.size, 1, none⟩ : Addr) = some (.int .i64 x12) ∧
  ∃ (x14 : Int), w2.cell? (⟨w1.heap.size, 1, none⟩ : Addr) = some (.int .i64 x14) ∧
  ((x12 == x14) = true →
  ∃ (x19 : Int), w2.cell? (⟨w.heap.size, 3, none⟩ : Addr) = some (.int .i64 x19) ∧
  ∃ (x21 : Int), w2.cell? (⟨w1.heap.size, 3, none⟩ : Addr) = some (.int .i64 x21) ∧
  ((x19 == x21) = true →
  ∃ (x26A : Option Addr), ∃ (x26N : Nat), ∃ (x26C : Nat), w2.cell? (⟨w.heap.size, 2, none⟩ : Addr) = some (.slice x26A x26N x26C) ∧
  ∃ (x28A : Option Addr), ∃ (x28N : Nat), ∃ (x28C : Nat), w2.cell? (⟨w1.heap.size, 2, none⟩ : Addr) = some (.slice x28A x28N x28C) ∧
  Calls Try.prog 28 #[(.slice x26A x26N x26C), (.slice x28A x28N x28C)] w2 (Ret fun v w3 => ∃ (x29 : Bool), v = (.bool x29) ∧
  (x29 = true →
  ∃ (x33A : Option Addr), ∃ (x33N : Nat), ∃ (x33C : Nat), w3.cell? (⟨w.heap.size, 4, none⟩ : Addr) = some (.slice x33A x33N x33C) ∧
  ∃ (x35A : Option Addr), ∃ (x35N : Nat), ∃ (x35C : Nat), w3.cell? (⟨w1.heap.size, 4, none⟩ : Addr) = some (.slice x35A x35N x35C) ∧
  Calls Try.prog 28 #[(.slice x33A x33N x33C), (.slice x35A x35N x35C)] w3 (Ret fun v_1 w4 => ∃ (x36 : Bool), v_1 = (.bool x36) ∧
  R (.bool x36) w4)) ∧
  (x29 = false →
  R (.bool false) w3))) ∧
  ((x19 == x21) = false →
  R (.bool false) w2)) ∧
  ((x12 == x14) = false →
  R (.bool false) w2)) ∧
  ((x6 == x8) = false →
  R (.bool false) w2)
theorem coadjutorlaw24_alike.vc_eq (a0 : Int) (a1 : Int) (a2A : Option Addr) (a2N : Nat) (a2C : Nat) (a3 : Int) (a4A : Option Addr) (a4N : Nat) (a4C : Nat) (vw0 : Int) (vw1 : Int) (w2A : Option Addr) (w2N : Nat) (w2C : Nat) (vw3 : Int) (w4A : Option Addr) (w4N : Nat) (w4C : Nat) (w : World) (R : Value → World → Prop) : fnV Try.prog Try.f24 (.at_ 1 5 (.at_ 1 12 (.at_ 1 19 (.at_ 1 26 .nil .nil) .nil) .nil) .nil) [(.agg #[(.int .i64 a0), (.int .i64 a1), (.slice a2A a2N a2C), (.int .i64 a3), (.slice a4A a4N a4C)]), (.agg #[(.int .i64 vw0), (.int .i64 vw1), (.slice w2A w2N w2C), (.int .i64 vw3), (.slice w4A w4N w4C)])] w R = coadjutorlaw24_alike.vc a0 a1 a2A a2N a2C a3 a4A a4N a4C vw0 vw1 w2A w2N w2C vw3 w4A w4N w4C w R := by kernel_rfl
theorem coadjutorlaw24_alike.calls (a0 : Int) (a1 : Int) (a2A : Option Addr) (a2N : Nat) (a2C : Nat) (a3 : Int) (a4A : Option Addr) (a4N : Nat) (a4C : Nat) (vw0 : Int) (vw1 : Int) (w2A : Option Addr) (w2N : Nat) (w2C : Nat) (vw3 : Int) (w4A : Option Addr) (w4N : Nat) (w4C : Nat) {w : World} {R : Value → World → Prop} (h : coadjutorlaw24_alike.vc a0 a1 a2A a2N a2C a3 a4A a4N a4C vw0 vw1 w2A w2N w2C vw3 w4A w4N w4C w R) : Calls Try.prog 24 #[(.agg #[(.int .i64 a0), (.int .i64 a1), (.slice a2A a2N a2C), (.int .i64 a3), (.slice a4A a4N a4C)]), (.agg #[(.int .i64 vw0), (.int .i64 vw1), (.slice w2A w2N w2C), (.int .i64 vw3), (.slice w4A w4N w4C)])] w (Ret R) :=
  calls_V fit Try.func24 (.at_ 1 5 (.at_ 1 12 (.at_ 1 19 (.at_ 1 26 .nil .nil) .nil) .nil) .nil) (by rw [show (#[(.agg #[(.int .i64 a0), (.int .i64 a1), (.slice a2A a2N a2C), (.int .i64 a3), (.slice a4A a4N a4C)]), (.agg #[(.int .i64 vw0), (.int .i64 vw1), (.slice w2A w2N w2C), (.int .i64 vw3), (.slice w4A w4N w4C)])] : Array Value).toList = [(.agg #[(.int .i64 a0), (.int .i64 a1), (.slice a2A a2N a2C), (.int .i64 a3), (.slice a4A a4N a4C)]), (.agg #[(.int .i64 vw0), (.int .i64 vw1), (.slice w2A w2N w2C), (.int .i64 vw3), (.slice w4A w4N w4C)])] from rfl, coadjutorlaw24_alike.vc_eq]; exact h)
/-- function 19 -/
def coadjutorlaw24_shape.vc (w : World) (R : Value → World → Prop) : Prop :=
  ∀ w1 : World, w1 = w.alloc (.cells #[(.int .i64 0), (.int .i64 0), (.int .i64 0), (.int .i64 0), (.int .i64 0), (.int .i64 0)] 46 (0, 0)) →
  (((∃ u, w1.cell? (⟨w.heap.size, 0, none⟩ : Addr) = some u) ∧ w1.frozen? (⟨w.heap.size, 0, none⟩ : Addr) = false) ∧ ((∃ u, w1.cell? (⟨w.heap.size, 1, none⟩ : Addr) = some u) ∧ w1.frozen? (⟨w.heap.size, 1, none⟩ : Addr) = false) ∧ ((∃ u, w1.cell? (⟨w.heap.size, 2, none⟩ : Addr) = some u) ∧ w1.frozen? (⟨w.heap.size, 2, none⟩ : Addr) = false) ∧ ((∃ u, w1.cell? (⟨w.heap.size, 3, none⟩ : Addr) = some u) ∧ w1.frozen? (⟨w.heap.size, 3, none⟩ : Addr) = false) ∧ ((∃ u, w1.cell? (⟨w.heap.size, 4, none⟩ : Addr) = some u) ∧ w1.frozen? (⟨w.heap.size, 4, none⟩ : Addr) = false) ∧ ((∃ u, w1.cell? (⟨w.heap.size, 5, none⟩ : Addr) = some u) ∧ w1.frozen? (⟨w.heap.size, 5, none⟩ : Addr) = false)) ∧ ∀ w2 : World, w2 = ((((((w1.setCell (⟨w.heap.size, 0, none⟩ : Addr) (.int .i64 3)).setCell (⟨w.heap.size, 1, none⟩ : Addr) (.int .i64 1)).setCell (⟨w.heap.size, 2, none⟩ : Addr) (.int .i64 1)).setCell (⟨w.heap.size, 3, none⟩ : Addr) (.int .i64 1)).setCell (⟨w.heap.size, 4, none⟩ : Addr) (.int .i64 1)).setCell (⟨w.heap.size, 5, none⟩ : Addr) (.int .i64 12)) →
  ∃ (r00 : Int), ∃ (r01 : Int), ∃ (r02 : Int), ∃ (r03 : Int), ∃ (r04 : Int), ∃ (r05 : Int), (w2.cell? (⟨w.heap.size, 0, none⟩ : Addr) = some (.int .i64 r00) ∧ w2.cell? (⟨w.heap.size, 1, none⟩ : Addr) = some (.int .i64 r01) ∧ w2.cell? (⟨w.heap.size, 2, none⟩ : Addr) = some (.int .i64 r02) ∧ w2.cell? (⟨w.heap.size, 3, none⟩ : Addr) = some (.int .i64 r03) ∧ w2.cell? (⟨w.heap.size, 4, none⟩ : Addr) = some (.int .i64 r04) ∧ w2.cell? (⟨w.heap.size, 5, none⟩ : Addr) = some (.int .i64 r05)) ∧
  R (.agg #[(.int .i64 r00), (.int .i64 r01), (.int .i64 r02), (.int .i64 r03), (.int .i64 r04), (.int .i64 r05)]) w2
theorem coadjutorlaw24_shape.vc_eq (w : World) (R : Value → World → Prop) : fnV Try.prog Try.f19 .nil [] w R = coadjutorlaw24_shape.vc  w R := by kernel_rfl
theorem coadjutorlaw24_shape.calls {w : World} {R : Value → World → Prop} (h : coadjutorlaw24_shape.vc  w R) : Calls Try.prog 19 #[] w (Ret R) :=
  calls_V fit Try.func19 .nil (by rw [show (#[] : Array Value).toList = [] from rfl, coadjutorlaw24_shape.vc_eq]; exact h)
/-- function 11 -/
def coadjutorlaw24_zeros.vc (w : World) (R : Value → World → Prop) : Prop :=
  ∃ vS : World → Prop, ∀ w1 : World, w1 = w.drew → vS w1 ∧
  (Calls Try.prog 19 #[] w1 (Ret fun v w2 => ∃ (x40 : Int), ∃ (x41 : Int), ∃ (x42 : Int), ∃ (x43 : Int), ∃ (x44 : Int), ∃ (x45 : Int), v = (.agg #[(.int .i64 x40), (.int .i64 x41), (.int .i64 x42), (.int .i64 x43), (.int .i64 x44), (.int .i64 x45)]) ∧
  vS w2 ∧
  ((25 : Int) = (25 : Int) ∧ 0 ≤ (25 : Int) ∧ (25 : Int) * (1 : Int) ≤ 140737488355328) ∧ ∀ w3 : World, w3 = w2.alloc (.cells (zeroRow [(.int .u8 0)] (25 : Int).toNat).toArray 5 (0, 0)) →
  vS w3 ∧
  ∃ (x6 : ByteArray), ∃ w4 : World, (convert 99 9 (.slice (some (⟨w2.heap.size, 0, none⟩ : Addr)) ((25 : Int).toNat) ((25 : Int).toNat))).run Try.prog w3 = .ok (.string x6) w4 ∧
  vS w4 ∧
  Calls Try.prog 51 #[(.agg #[(.int .i64 x40), (.int .i64 x41), (.int .i64 x42), (.int .i64 x43), (.int .i64 x44), (.int .i64 x45)]), (.string x6)] w4 (Ret fun v_1 w5 => ∃ (x7_0 : Option Addr), ∃ (x7_1 : Int), v_1 = (.tuple #[(.pointer x7_0), (.int .i64 x7_1)]) ∧
  vS w5 ∧
  R (.pointer x7_0) w5))) ∧ (((25 : Int) = (25 : Int) ∧ 0 ≤ (25 : Int) ∧ (25 : Int) * (1 : Int) ≤ 140737488355328) ∧ ∀ w6 : World, w6 = w1.alloc (.cells (zeroRow [(.int .u8 0)] (25 : Int).toNat).toArray 5 (0, 0)) →
  vS w6 ∧
  (Calls Try.prog 19 #[] w6 (Ret fun v_2 w7 => ∃ (x40_1 : Int), ∃ (x41_1 : Int), ∃ (x42_1 : Int), ∃ (x43_1 : Int), ∃ (x44_1 : Int), ∃ (x45_1 : Int), v_2 = (.agg #[(.int .i64 x40_1), (.int .i64 x41_1), (.int .i64 x42_1), (.int .i64 x43_1), (.int .i64 x44_1), (.int .i64 x45_1)]) ∧
  vS w7 ∧
  ∃ (x6_1 : ByteArray), ∃ w8 : World, (convert 99 9 (.slice (some (⟨w1.heap.size, 0, none⟩ : Addr)) ((25 : Int).toNat) ((25 : Int).toNat))).run Try.prog w7 = .ok (.string x6_1) w8 ∧
  vS w8 ∧
  Calls Try.prog 51 #[(.agg #[(.int .i64 x40_1), (.int .i64 x41_1), (.int .i64 x42_1), (.int .i64 x43_1), (.int .i64 x44_1), (.int .i64 x45_1)]), (.string x6_1)] w8 (Ret fun v_3 w9 => ∃ (x7_0_1 : Option Addr), ∃ (x7_1_1 : Int), v_3 = (.tuple #[(.pointer x7_0_1), (.int .i64 x7_1_1)]) ∧
  vS w9 ∧
  R (.pointer x7_0_1) w9))) ∧ (∃ (x6_2 : ByteArray), ∃ w10 : World, (convert 99 9 (.slice (some (⟨w1.heap.size, 0, none⟩ : Addr)) ((25 : Int).toNat) ((25 : Int).toNat))).run Try.prog w6 = .ok (.string x6_2) w10 ∧
  vS w10 ∧
  Calls Try.prog 19 #[] w10 (Ret fun v_4 w11 => ∃ (x40_2 : Int), ∃ (x41_2 : Int), ∃ (x42_2 : Int), ∃ (x43_2 : Int), ∃ (x44_2 : Int), ∃ (x45_2 : Int), v_4 = (.agg #[(.int .i64 x40_2), (.int .i64 x41_2), (.int .i64 x42_2), (.int .i64 x43_2), (.int .i64 x44_2), (.int .i64 x45_2)]) ∧
  vS w11 ∧
  Calls Try.prog 51 #[(.agg #[(.int .i64 x40_2), (.int .i64 x41_2), (.int .i64 x42_2), (.int .i64 x43_2), (.int .i64 x44_2), (.int .i64 x45_2)]), (.string x6_2)] w11 (Ret fun v_5 w12 => ∃ (x7_0_2 : Option Addr), ∃ (x7_1_2 : Int), v_5 = (.tuple #[(.pointer x7_0_2), (.int .i64 x7_1_2)]) ∧
  vS w12 ∧
  R (.pointer x7_0_2) w12))) ∧ True) ∧ True
theorem coadjutorlaw24_zeros.vc_eq (w : World) (R : Value → World → Prop) : fnV Try.prog Try.f11 (.alt 0 (.alt 1 (.alt 2 (.alt 3 (.tk 4 (.tk 5 (.tk 6 (.tk 7 (.tk 8 (.fin .nil)))))) .nil) .nil) .nil) (.alt 1 (.alt 0 (.alt 2 (.alt 3 (.tk 4 (.tk 5 (.tk 6 (.tk 7 (.tk 8 (.fin .nil)))))) .nil) .nil) (.alt 2 (.alt 0 (.alt 3 (.tk 4 (.tk 5 (.tk 6 (.tk 7 (.tk 8 (.fin .nil)))))) .nil) .nil) .nil)) .nil)) [] w R = coadjutorlaw24_zeros.vc  w R := by kernel_rfl
theorem coadjutorlaw24_zeros.calls {w : World} {R : Value → World → Prop} (h : coadjutorlaw24_zeros.vc  w R) : Calls Try.prog 11 #[] w (Ret R) :=
  calls_V fit Try.func11 (.alt 0 (.alt 1 (.alt 2 (.alt 3 (.tk 4 (.tk 5 (.tk 6 (.tk 7 (.tk 8 (.fin .nil)))))) .nil) .nil) .nil) (.alt 1 (.alt 0 (.alt 2 (.alt 3 (.tk 4 (.tk 5 (.tk 6 (.tk 7 (.tk 8 (.fin .nil)))))) .nil) .nil) (.alt 2 (.alt 0 (.alt 3 (.tk 4 (.tk 5 (.tk 6 (.tk 7 (.tk 8 (.fin .nil)))))) .nil) .nil) .nil)) .nil)) (by rw [show (#[] : Array Value).toList = [] from rfl, coadjutorlaw24_zeros.vc_eq]; exact h)
/-- function 9 -/
def coadjutorlaw24_awake.vc (w : World) (R : Value → World → Prop) : Prop :=
  Calls Try.prog 11 #[] w (Ret fun v w1 => ∃ (x11 : Option Addr), v = (.pointer x11) ∧
  Calls Try.prog 10 #[(.int .i64 2)] w1 (Ret fun v_1 w2 => ∃ (x12 : Option Addr), v_1 = (.pointer x12) ∧
  (x11.isNone = true →
  R (.bool false) w2) ∧
  (x11.isNone = false →
  (x12.isNone = true →
  R (.bool false) w2) ∧
  (x12.isNone = false →
  Calls Try.prog 10 #[(.int .i64 0)] w2 (Ret fun v_2 w3 => ∃ (x20 : Option Addr), v_2 = (.pointer x20) ∧
  ((!x20.isNone) = true →
  R (.bool false) w3) ∧
  ((!x20.isNone) = false →
  ∀ w4 : World, w4 = w3.alloc (.cells #[(.int .i64 1), (.int .i64 1), (.int .i64 1), (.int .i64 1)] 3 (0, 0)) →
  ∀ w5 : World, w5 = w4.alloc (.cells #[(.int .i64 0), (.int .i64 0), (.slice none 0 0), (.int .i64 0), (.slice none 0 0)] 32 (0, 0)) →
  (((∃ u, w5.cell? (⟨w4.heap.size, 0, none⟩ : Addr) = some u) ∧ w5.frozen? (⟨w4.heap.size, 0, none⟩ : Addr) = false) ∧ ((∃ u, w5.cell? (⟨w4.heap.size, 1, none⟩ : Addr) = some u) ∧ w5.frozen? (⟨w4.heap.size, 1, none⟩ : Addr) = false) ∧ ((∃ u, w5.cell? (⟨w4.heap.size, 2, none⟩ : Addr) = some u) ∧ w5.frozen? (⟨w4.heap.size, 2, none⟩ : Addr) = false) ∧ ((∃ u, w5.cell? (⟨w4.heap.size, 3, none⟩ : Addr) = some u) ∧ w5.frozen? (⟨w4.heap.size, 3, none⟩ : Addr) = false) ∧ ((∃ u, w5.cell? (⟨w4.heap.size, 4, none⟩ : Addr) = some u) ∧ w5.frozen? (⟨w4.heap.size, 4, none⟩ : Addr) = false)) ∧ ∀ w6 : World, w6 = (((((w5.setCell (⟨w4.heap.size, 0, none⟩ : Addr) (.int .i64 5)).setCell (⟨w4.heap.size, 1, none⟩ : Addr) (.int .i64 1)).setCell (⟨w4.heap.size, 2, none⟩ : Addr) (.slice (some (⟨w3.heap.size, 0, none⟩ : Addr)) 4 4)).setCell (⟨w4.heap.size, 3, none⟩ : Addr) (.int .i64 2)).setCell (⟨w4.heap.size, 4, none⟩ : Addr) (.slice none 0 0)) →
  ∃ (x270 : Int), ∃ (x271 : Int), ∃ (x272A : Option Addr), ∃ (x272N : Nat), ∃ (x272C : Nat), ∃ (x273 : Int), ∃ (x274A : Option Addr), ∃ (x274N : Nat), ∃ (x274C : Nat), (w6.cell? (⟨w4.heap.size, 0, none⟩ : Addr) = some (.int .i64 x270) ∧ w6.cell? (⟨w4.heap.size, 1, none⟩ : Addr) = some (.int .i64 x271) ∧ w6.cell? (⟨w4.heap.size, 2, none⟩ : Addr) = some (.slice x272A x272N x272C) ∧ w6.cell? (⟨w4.heap.size, 3, none⟩ : Addr) = some (.int .i64 x273) ∧ w6.cell? (⟨w4.heap.size, 4, none⟩ : Addr) = some (.slice x274A x274N x274C)) ∧
  Calls Try.prog 12 #[(.pointer x12), (.pointer x11), (.agg #[(.int .i64 x270), (.int .i64 x271), (.slice x272A x272N x272C), (.int .i64 x273), (.slice x274A x274N x274C)])] w6 (Ret fun v_3 w7 => ∃ (x28 : Int), v_3 = (.int .i64 x28) ∧
  ∃ (x310 : Int), ∃ (x311 : Int), ∃ (x312A : Option Addr), ∃ (x312N : Nat), ∃ (x312C : Nat), ∃ (x313 : Int), ∃ (x314A : Option Addr), ∃ (x314N : Nat), ∃ (x314C : Nat), (w7.cell? (⟨w4.heap.size, 0, none⟩ : Addr) = some (.int .i64 x310) ∧ w7.cell? (⟨w4.heap.size, 1, none⟩ : Addr) = some (.int .i64 x311) ∧ w7.cell? (⟨w4.heap.size, 2, none⟩ : Addr) = some (.slice x312A x312N x312C) ∧ w7.cell? (⟨w4.heap.size, 3, none⟩ : Addr) = some (.int .i64 x313) ∧ w7.cell? (⟨w4.heap.size, 4, none⟩ : Addr) = some (.slice x314A x314N x314C)) ∧
  Calls Try.prog 12 #[(.pointer x12), (.pointer x11), (.agg #[(.int .i64 x310), (.int .i64 x311), (.slice x312A x312N x312C), (.int .i64 x313), (.slice x314A x314N x314C)])] w7 (Ret fun v_4 w8 => ∃ (x32 : Int), v_4 = (.int .i64 x32) ∧
  (((∃ u, w8.cell? (⟨w4.heap.size, 0, none⟩ : Addr) = some u) ∧ w8.frozen? (⟨w4.heap.size, 0, none⟩ : Addr) = false)) ∧ ∀ w9 : World, w9 = (w8.setCell (⟨w4.heap.size, 0, none⟩ : Addr) (.int .i64 6)) →
  (((∃ u, w9.cell? (⟨w4.heap.size, 3, none⟩ : Addr) = some u) ∧ w9.frozen? (⟨w4.heap.size, 3, none⟩ : Addr) = false)) ∧ ∀ w10 : World, w10 = (w9.setCell (⟨w4.heap.size, 3, none⟩ : Addr) (.int .i64 6)) →
  ∃ (x370 : Int), ∃ (x371 : Int), ∃ (x372A : Option Addr), ∃ (x372N : Nat), ∃ (x372C : Nat), ∃ (x373 : Int), ∃ (x374A : Option Addr), ∃ (x374N : Nat), ∃ (x374C : Nat), (w10.cell? (⟨w4.heap.size, 0, none⟩ : Addr) = some (.int .i64 x370) ∧ w10.cell? (⟨w4.heap.size, 1, none⟩ : Addr) = some (.int .i64 x371) ∧ w10.cell? (⟨w4.heap.size, 2, none⟩ : Addr) = some (.slice x372A x372N x372C) ∧ w10.cell? (⟨w4.heap.size, 3, none⟩ : Addr) = some (.int .i64 x373) ∧ w10.cell? (⟨w4.heap.size, 4, none⟩ : Addr) = some (.slice x374A x374N x374C)) ∧
  Calls Try.prog 12 #[(.pointer x12), (.pointer x11), (.agg #[(.int .i64 x370), (.int .i64 x371), (.slice x372A x372N x372C), (.int .i64 x373), (.slice x374A x374N x374C)])] w10 (Ret fun v_5 w11 => ∃ (x38 : Int), v_5 = (.int .i64 x38) ∧
  Calls Try.prog 15 #[(.pointer x12)] w11 (Ret fun v_6 w12 => ∃ (x41_00 : Int), ∃ (x41_01 : Int), ∃ (x41_02A : Option Addr), ∃ (x41_02N : Nat), ∃ (x41_02C : Nat), ∃ (x41_03 : Int), ∃ (x41_04A : Option Addr), ∃ (x41_04N : Nat), ∃ (x41_04C : Nat), ∃ (x41_1 : Bool), v_6 = (.tuple #[(.agg #[(.int .i64 x41_00), (.int .i64 x41_01), (.slice x41_02A x41_02N x41_02C), (.int .i64 x41_03), (.slice x41_04A x41_04N x41_04C)]), (.bool x41_1)]) ∧
  ∀ w13 : World, w13 = w12.alloc (.cells #[(.int .i64 0), (.int .i64 0), (.slice none 0 0), (.int .i64 0), (.slice none 0 0)] 32 (0, 0)) →
  (((∃ u, w13.cell? (⟨w12.heap.size, 0, none⟩ : Addr) = some u) ∧ w13.frozen? (⟨w12.heap.size, 0, none⟩ : Addr) = false) ∧ ((∃ u, w13.cell? (⟨w12.heap.size, 1, none⟩ : Addr) = some u) ∧ w13.frozen? (⟨w12.heap.size, 1, none⟩ : Addr) = false) ∧ ((∃ u, w13.cell? (⟨w12.heap.size, 2, none⟩ : Addr) = some u) ∧ w13.frozen? (⟨w12.heap.size, 2, none⟩ : Addr) = false) ∧ ((∃ u, w13.cell? (⟨w12.heap.size, 3, none⟩ : Addr) = some u) ∧ w13.frozen? (⟨w12.heap.size, 3, none⟩ : Addr) = false) ∧ ((∃ u, w13.cell? (⟨w12.heap.size, 4, none⟩ : Addr) = some u) ∧ w13.frozen? (⟨w12.heap.size, 4, none⟩ : Addr) = false)) ∧ ∀ w14 : World, w14 = (((((w13.setCell (⟨w12.heap.size, 0, none⟩ : Addr) (.int .i64 x41_00)).setCell (⟨w12.heap.size, 1, none⟩ : Addr) (.int .i64 x41_01)).setCell (⟨w12.heap.size, 2, none⟩ : Addr) (.slice x41_02A x41_02N x41_02C)).setCell (⟨w12.heap.size, 3, none⟩ : Addr) (.int .i64 x41_03)).setCell (⟨w12.heap.size, 4, none⟩ : Addr) (.slice x41_04A x41_04N x41_04C)) →
  Calls Try.prog 15 #[(.pointer x12)] w14 (Ret fun v_7 w15 => ∃ (x46_00 : Int), ∃ (x46_01 : Int), ∃ (x46_02A : Option Addr), ∃ (x46_02N : Nat), ∃ (x46_02C : Nat), ∃ (x46_03 : Int), ∃ (x46_04A : Option Addr), ∃ (x46_04N : Nat), ∃ (x46_04C : Nat), ∃ (x46_1 : Bool), v_7 = (.tuple #[(.agg #[(.int .i64 x46_00), (.int .i64 x46_01), (.slice x46_02A x46_02N x46_02C), (.int .i64 x46_03), (.slice x46_04A x46_04N x46_04C)]), (.bool x46_1)]) ∧
  ∀ w16 : World, w16 = w15.alloc (.cells #[(.int .i64 0), (.int .i64 0), (.slice none 0 0), (.int .i64 0), (.slice none 0 0)] 32 (0, 0)) →
  (((∃ u, w16.cell? (⟨w15.heap.size, 0, none⟩ : Addr) = some u) ∧ w16.frozen? (⟨w15.heap.size, 0, none⟩ : Addr) = false) ∧ ((∃ u, w16.cell? (⟨w15.heap.size, 1, none⟩ : Addr) = some u) ∧ w16.frozen? (⟨w15.heap.size, 1, none⟩ : Addr) = false) ∧ ((∃ u, w16.cell? (⟨w15.heap.size, 2, none⟩ : Addr) = some u) ∧ w16.frozen? (⟨w15.heap.size, 2, none⟩ : Addr) = false) ∧ ((∃ u, w16.cell? (⟨w15.heap.size, 3, none⟩ : Addr) = some u) ∧ w16.frozen? (⟨w15.heap.size, 3, none⟩ : Addr) = false) ∧ ((∃ u, w16.cell? (⟨w15.heap.size, 4, none⟩ : Addr) = some u) ∧ w16.frozen? (⟨w15.heap.size, 4, none⟩ : Addr) = false)) ∧ ∀ w17 : World, w17 = (((((w16.setCell (⟨w15.heap.size, 0, none⟩ : Addr) (.int .i64 x46_00)).setCell (⟨w15.heap.size, 1, none⟩ : Addr) (.int .i64 x46_01)).setCell (⟨w15.heap.size, 2, none⟩ : Addr) (.slice x46_02A x46_02N x46_02C)).setCell (⟨w15.heap.size, 3, none⟩ : Addr) (.int .i64 x46_03)).setCell (⟨w15.heap.size, 4, none⟩ : Addr) (.slice x46_04A x46_04N x46_04C)) →
  ((x28 == (0 : Int)) = true →
  ((x32 == (9 : Int)) = true →
  ((x38 == (11 : Int)) = true →
  (x41_1 = true →
  ∃ (x64 : Int), w17.cell? (⟨w12.heap.size, 0, none⟩ : Addr) = some (.int .i64 x64) ∧
  ((x64 == (5 : Int)) = true →
  ∃ (x680 : Int), ∃ (x681 : Int), ∃ (x682A : Option Addr), ∃ (x682N : Nat), ∃ (x682C : Nat), ∃ (x683 : Int), ∃ (x684A : Option Addr), ∃ (x684N : Nat), ∃ (x684C : Nat), (w17.cell? (⟨w12.heap.size, 0, none⟩ : Addr) = some (.int .i64 x680) ∧ w17.cell? (⟨w12.heap.size, 1, none⟩ : Addr) = some (.int .i64 x681) ∧ w17.cell? (⟨w12.heap.size, 2, none⟩ : Addr) = some (.slice x682A x682N x682C) ∧ w17.cell? (⟨w12.heap.size, 3, none⟩ : Addr) = some (.int .i64 x683) ∧ w17.cell? (⟨w12.heap.size, 4, none⟩ : Addr) = some (.slice x684A x684N x684C)) ∧
  Calls Try.prog 21 #[(.agg #[(.int .i64 x680), (.int .i64 x681), (.slice x682A x682N x682C), (.int .i64 x683), (.slice x684A x684N x684C)])] w17 (Ret fun v_8 w18 => ∃ (x69 : Int), v_8 = (.int .i64 x69) ∧
  ((x69 == (2 : Int)) = true →
  R (.bool (!x46_1)) w18) ∧
  ((x69 == (2 : Int)) = false →
  R (.bool false) w18))) ∧
  ((x64 == (5 : Int)) = false →
  R (.bool false) w17)) ∧
  (x41_1 = false →
  R (.bool false) w17)) ∧
  ((x38 == (11 : Int)) = false →
  R (.bool false) w17)) ∧
  ((x32 == (9 : Int)) = false →
  R (.bool false) w17)) ∧
  ((x28 == (0 : Int)) = false →
  R (.bool false) w17))))))))))))
theorem coadjutorlaw24_awake.vc_eq (w : World) (R : Value → World → Prop) : fnV Try.prog Try.f9 (.at_ 3 2 (.k .nil) (.at_ 3 6 (.k .nil) (.c .nil (.at_ 13 2 (.at_ 13 6 (.at_ 13 10 (.at_ 13 13 (.at_ 13 18 (.at_ 13 23 .nil .nil) .nil) .nil) .nil) .nil) .nil)))) [] w R = coadjutorlaw24_awake.vc  w R := by kernel_rfl
theorem coadjutorlaw24_awake.calls {w : World} {R : Value → World → Prop} (h : coadjutorlaw24_awake.vc  w R) : Calls Try.prog 9 #[] w (Ret R) :=
  calls_V fit Try.func9 (.at_ 3 2 (.k .nil) (.at_ 3 6 (.k .nil) (.c .nil (.at_ 13 2 (.at_ 13 6 (.at_ 13 10 (.at_ 13 13 (.at_ 13 18 (.at_ 13 23 .nil .nil) .nil) .nil) .nil) .nil) .nil)))) (by rw [show (#[] : Array Value).toList = [] from rfl, coadjutorlaw24_awake.vc_eq]; exact h)
end Go.Proofs.Ytamkffjmggbekaa.Vc
