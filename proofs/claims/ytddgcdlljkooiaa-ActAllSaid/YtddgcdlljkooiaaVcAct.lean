import Derived.Test.YtddgcdlljkooiaaVc
import Derived.Test.YtddgcdlljkooiaaH
import Derived.Test.YtddgcdlljkooiaaProg
import Derived.KernelRfl
set_option linter.unusedVariables false
set_option maxRecDepth 100000
namespace Go.Proofs.Ytddgcdlljkooiaa.Vc
open Go Go.Proofs Go.Proofs.Ytddgcdlljkooiaa.V
/-- function 26 -/
def act_Gate.vc (n : Int) (w : World) (R : Value → World → Prop) : Prop :=
  Calls Try.prog 52 #[] w (Ret fun v w1 => ∃ (x40 : Int), ∃ (x41 : Int), ∃ (x42 : Int), ∃ (x43 : Int), ∃ (x44 : Int), ∃ (x45 : Int), ∃ (x46 : Int), ∃ (x47 : Int), ∃ (x48 : Int), ∃ (x49 : Int), ∃ (x410 : Int), ∃ (x411 : Int), ∃ (x412 : Int), ∃ (x413 : Int), ∃ (x414 : Int), ∃ (x415 : Int), ∃ (x416 : Int), v = (.agg #[(.int .i64 x40), (.int .i64 x41), (.int .i64 x42), (.int .i64 x43), (.int .i64 x44), (.int .i64 x45), (.int .i64 x46), (.int .i64 x47), (.int .i64 x48), (.int .i64 x49), (.int .i64 x410), (.int .i64 x411), (.int .i64 x412), (.int .i64 x413), (.int .i64 x414), (.int .i64 x415), (.int .i64 x416)]) ∧
  ∀ w2 : World, w2 = w1.alloc (.cells #[(.int .i64 0), (.int .i64 0), (.int .i64 0), (.int .i64 0), (.int .i64 0), (.int .i64 0), (.int .i64 0), (.int .i64 0), (.int .i64 0), (.int .i64 0), (.int .i64 0), (.int .i64 0), (.int .i64 0), (.int .i64 0), (.int .i64 0), (.int .i64 0), (.int .i64 0)] 82 (0, 0)) →
  (((∃ u, w2.cell? (⟨w1.heap.size, 0, none⟩ : Addr) = some u) ∧ w2.frozen? (⟨w1.heap.size, 0, none⟩ : Addr) = false) ∧ ((∃ u, w2.cell? (⟨w1.heap.size, 1, none⟩ : Addr) = some u) ∧ w2.frozen? (⟨w1.heap.size, 1, none⟩ : Addr) = false) ∧ ((∃ u, w2.cell? (⟨w1.heap.size, 2, none⟩ : Addr) = some u) ∧ w2.frozen? (⟨w1.heap.size, 2, none⟩ : Addr) = false) ∧ ((∃ u, w2.cell? (⟨w1.heap.size, 3, none⟩ : Addr) = some u) ∧ w2.frozen? (⟨w1.heap.size, 3, none⟩ : Addr) = false) ∧ ((∃ u, w2.cell? (⟨w1.heap.size, 4, none⟩ : Addr) = some u) ∧ w2.frozen? (⟨w1.heap.size, 4, none⟩ : Addr) = false) ∧ ((∃ u, w2.cell? (⟨w1.heap.size, 5, none⟩ : Addr) = some u) ∧ w2.frozen? (⟨w1.heap.size, 5, none⟩ : Addr) = false) ∧ ((∃ u, w2.cell? (⟨w1.heap.size, 6, none⟩ : Addr) = some u) ∧ w2.frozen? (⟨w1.heap.size, 6, none⟩ : Addr) = false) ∧ ((∃ u, w2.cell? (⟨w1.heap.size, 7, none⟩ : Addr) = some u) ∧ w2.frozen? (⟨w1.heap.size, 7, none⟩ : Addr) = false) ∧ ((∃ u, w2.cell? (⟨w1.heap.size, 8, none⟩ : Addr) = some u) ∧ w2.frozen? (⟨w1.heap.size, 8, none⟩ : Addr) = false) ∧ ((∃ u, w2.cell? (⟨w1.heap.size, 9, none⟩ : Addr) = some u) ∧ w2.frozen? (⟨w1.heap.size, 9, none⟩ : Addr) = false) ∧ ((∃ u, w2.cell? (⟨w1.heap.size, 10, none⟩ : Addr) = some u) ∧ w2.frozen? (⟨w1.heap.size, 10, none⟩ : Addr) = false) ∧ ((∃ u, w2.cell? (⟨w1.heap.size, 11, none⟩ : Addr) = some u) ∧ w2.frozen? (⟨w1.heap.size, 11, none⟩ : Addr) = false) ∧ ((∃ u, w2.cell? (⟨w1.heap.size, 12, none⟩ : Addr) = some u) ∧ w2.frozen? (⟨w1.heap.size, 12, none⟩ : Addr) = false) ∧ ((∃ u, w2.cell? (⟨w1.heap.size, 13, none⟩ : Addr) = some u) ∧ w2.frozen? (⟨w1.heap.size, 13, none⟩ : Addr) = false) ∧ ((∃ u, w2.cell? (⟨w1.heap.size, 14, none⟩ : Addr) = some u) ∧ w2.frozen? (⟨w1.heap.size, 14, none⟩ : Addr) = false) ∧ ((∃ u, w2.cell? (⟨w1.heap.size, 15, none⟩ : Addr) = some u) ∧ w2.frozen? (⟨w1.heap.size, 15, none⟩ : Addr) = false) ∧ ((∃ u, w2.cell? (⟨w1.heap.size, 16, none⟩ : Addr) = some u) ∧ w2.frozen? (⟨w1.heap.size, 16, none⟩ : Addr) = false)) ∧ ∀ w3 : World, w3 = (((((((((((((((((w2.setCell (⟨w1.heap.size, 0, none⟩ : Addr) (.int .i64 x40)).setCell (⟨w1.heap.size, 1, none⟩ : Addr) (.int .i64 x41)).setCell (⟨w1.heap.size, 2, none⟩ : Addr) (.int .i64 x42)).setCell (⟨w1.heap.size, 3, none⟩ : Addr) (.int .i64 x43)).setCell (⟨w1.heap.size, 4, none⟩ : Addr) (.int .i64 x44)).setCell (⟨w1.heap.size, 5, none⟩ : Addr) (.int .i64 x45)).setCell (⟨w1.heap.size, 6, none⟩ : Addr) (.int .i64 x46)).setCell (⟨w1.heap.size, 7, none⟩ : Addr) (.int .i64 x47)).setCell (⟨w1.heap.size, 8, none⟩ : Addr) (.int .i64 x48)).setCell (⟨w1.heap.size, 9, none⟩ : Addr) (.int .i64 x49)).setCell (⟨w1.heap.size, 10, none⟩ : Addr) (.int .i64 x410)).setCell (⟨w1.heap.size, 11, none⟩ : Addr) (.int .i64 x411)).setCell (⟨w1.heap.size, 12, none⟩ : Addr) (.int .i64 x412)).setCell (⟨w1.heap.size, 13, none⟩ : Addr) (.int .i64 x413)).setCell (⟨w1.heap.size, 14, none⟩ : Addr) (.int .i64 x414)).setCell (⟨w1.heap.size, 15, none⟩ : Addr) (.int .i64 x415)).setCell (⟨w1.heap.size, 16, none⟩ : Addr) (.int .i64 x416)) →
  Calls Try.prog 54 #[(.int .i64 n), (.int .i64 32)] w3 (Ret fun v_1 w4 => ∃ (x6 : Int), v_1 = (.int .i64 x6) ∧
  Calls Try.prog 53 #[(.int .i64 x6), (.int .i64 (-8)), (.int .i64 8)] w4 (Ret fun v_2 w5 => ∃ (x7 : Int), v_2 = (.int .i64 x7) ∧
  (0 ≤ (IntKind.i64.wrap (x7 + 8)) ∧ (IntKind.i64.wrap (x7 + 8)) < (17 : Int)) ∧
  ∃ (x10 : Int), w5.cell? ((⟨w1.heap.size, 0, none⟩ : Addr).add ((IntKind.i64.wrap (x7 + 8)).toNat * 1)) = some (.int .i64 x10) ∧
  R (.int .i64 x10) w5)))
theorem act_Gate.vc_eq (n : Int) (w : World) (R : Value → World → Prop) : fnV Try.prog Try.f26 .nil [(.int .i64 n)] w R = act_Gate.vc n w R := by kernel_rfl
theorem act_Gate.calls (n : Int) {w : World} {R : Value → World → Prop} (h : act_Gate.vc n w R) : Calls Try.prog 26 #[(.int .i64 n)] w (Ret R) :=
  calls_V fit Try.func26 .nil (by rw [show (#[(.int .i64 n)] : Array Value).toList = [(.int .i64 n)] from rfl, act_Gate.vc_eq]; exact h)
/-- function 25 -/
def act_Of.vc (n : Int) (w : World) (R : Value → World → Prop) : Prop :=
  Calls Try.prog 26 #[(.int .i64 n)] w (Ret fun v w1 => ∃ (x5 : Int), v = (.int .i64 x5) ∧
  Calls Try.prog 51 #[(.int .i64 n), (.int .i64 x5), (.int .i64 8)] w1 (Ret fun v_1 w2 => ∃ (x6 : Int), v_1 = (.int .i64 x6) ∧
  R (.int .i64 x6) w2))
theorem act_Of.vc_eq (n : Int) (w : World) (R : Value → World → Prop) : fnV Try.prog Try.f25 .nil [(.int .i64 n)] w R = act_Of.vc n w R := by kernel_rfl
theorem act_Of.calls (n : Int) {w : World} {R : Value → World → Prop} (h : act_Of.vc n w R) : Calls Try.prog 25 #[(.int .i64 n)] w (Ret R) :=
  calls_V fit Try.func25 .nil (by rw [show (#[(.int .i64 n)] : Array Value).toList = [(.int .i64 n)] from rfl, act_Of.vc_eq]; exact h)
/-- function 31 -/
def act_All.vc (listA : Option Addr) (listN : Nat) (listC : Nat) (w : World) (R : Value → World → Prop) : Prop :=
  Calls Try.prog 27 #[(.slice listA listN listC), (.slice listA listN listC)] w (Ret fun v w1 => ∃ (x5A : Option Addr), ∃ (x5N : Nat), ∃ (x5C : Nat), v = (.slice x5A x5N x5C) ∧
  R (.slice x5A x5N x5C) w1)
theorem act_All.vc_eq (listA : Option Addr) (listN : Nat) (listC : Nat) (w : World) (R : Value → World → Prop) : fnV Try.prog Try.f31 .nil [(.slice listA listN listC)] w R = act_All.vc listA listN listC w R := by kernel_rfl
theorem act_All.calls (listA : Option Addr) (listN : Nat) (listC : Nat) {w : World} {R : Value → World → Prop} (h : act_All.vc listA listN listC w R) : Calls Try.prog 31 #[(.slice listA listN listC)] w (Ret R) :=
  calls_V fit Try.func31 .nil (by rw [show (#[(.slice listA listN listC)] : Array Value).toList = [(.slice listA listN listC)] from rfl, act_All.vc_eq]; exact h)
/-- function 27 -/
def act_Pairs.vc (gatesA : Option Addr) (gatesN : Nat) (gatesC : Nat) (rowA : Option Addr) (rowN : Nat) (rowC : Nat) (w : World) (R : Value → World → Prop) : Prop :=
  ((((gatesN : Nat) : Int) != ((rowN : Nat) : Int)) = true →
  R (.slice none 0 0) w) ∧
  ((((gatesN : Nat) : Int) != ((rowN : Nat) : Int)) = false →
  ∃ vI : Option Addr → Nat → Nat → Int → Nat → World → Prop, (∃ vk_2 : Nat, vI none 0 0 0 vk_2 w) ∧
  ∀ (jk : Nat → Value) (outA : Option Addr) (outN : Nat) (outC : Nat) (x15 : Int), ∀ (vk : Nat) (w1 : World), vI outA outN outC x15 vk w1 →
  (decide (x15 < ((rowN : Nat) : Int)) = true →
  (0 ≤ x15 ∧ x15 < ((rowN : Nat) : Int)) ∧ someV rowA fun p =>
  ∃ (x19 : Int), w1.cell? (p.add (x15.toNat * 1)) = some (.int .i64 x19) ∧
  (0 ≤ x15 ∧ x15 < ((gatesN : Nat) : Int)) ∧ someV gatesA fun p_1 =>
  ∃ (x25 : Int), w1.cell? (p_1.add (x15.toNat * 1)) = some (.int .i64 x25) ∧
  Calls Try.prog 26 #[(.int .i64 x25)] w1 (Ret fun v w2 => ∃ (x26 : Int), v = (.int .i64 x26) ∧
  Calls Try.prog 51 #[(.int .i64 x19), (.int .i64 x26), (.int .i64 8)] w2 (Ret fun v_1 w3 => ∃ (x27 : Int), v_1 = (.int .i64 x27) ∧
  ∀ w4 : World, w4 = w3.alloc (.cells #[(.int .i64 x27)] 3 (0, 0)) →
  ∃ (x29A : Option Addr), ∃ (x29N : Nat), ∃ (x29C : Nat), ∃ w5 : World, (Builtin.append_ #[43, 43] 43 #[(.slice outA outN outC), (.slice (some (⟨w3.heap.size, 0, none⟩ : Addr)) 1 1)]).run Try.prog w4 = .ok (.slice x29A x29N x29C) w5 ∧
  ∃ vk_1 : Nat, vk_1 < vk ∧ vI x29A x29N x29C (IntKind.i64.wrap (x15 + 1)) vk_1 w5))) ∧
  (decide (x15 < ((rowN : Nat) : Int)) = false →
  R (.slice outA outN outC) w1))
theorem act_Pairs.vc_eq (gatesA : Option Addr) (gatesN : Nat) (gatesC : Nat) (rowA : Option Addr) (rowN : Nat) (rowC : Nat) (w : World) (R : Value → World → Prop) : fnV Try.prog Try.f27 (.c .nil (.lp [(5, some (.slice)), (6, none), (7, none), (15, some (.int .i64)), (16, none), (17, none), (18, none), (19, none), (20, none), (21, none), (22, none), (23, none), (24, none), (25, none), (26, none), (27, none), (28, none), (29, none), (30, none)] (.c .nil .nil))) [(.slice gatesA gatesN gatesC), (.slice rowA rowN rowC)] w R = act_Pairs.vc gatesA gatesN gatesC rowA rowN rowC w R := by kernel_rfl
theorem act_Pairs.calls (gatesA : Option Addr) (gatesN : Nat) (gatesC : Nat) (rowA : Option Addr) (rowN : Nat) (rowC : Nat) {w : World} {R : Value → World → Prop} (h : act_Pairs.vc gatesA gatesN gatesC rowA rowN rowC w R) : Calls Try.prog 27 #[(.slice gatesA gatesN gatesC), (.slice rowA rowN rowC)] w (Ret R) :=
  calls_V fit Try.func27 (.c .nil (.lp [(5, some (.slice)), (6, none), (7, none), (15, some (.int .i64)), (16, none), (17, none), (18, none), (19, none), (20, none), (21, none), (22, none), (23, none), (24, none), (25, none), (26, none), (27, none), (28, none), (29, none), (30, none)] (.c .nil .nil))) (by rw [show (#[(.slice gatesA gatesN gatesC), (.slice rowA rowN rowC)] : Array Value).toList = [(.slice gatesA gatesN gatesC), (.slice rowA rowN rowC)] from rfl, act_Pairs.vc_eq]; exact h)
/-- function 52 -/
def act_table.vc (w : World) (R : Value → World → Prop) : Prop :=
  ∀ w1 : World, w1 = w.alloc (.cells #[(.int .i64 0), (.int .i64 0), (.int .i64 0), (.int .i64 0), (.int .i64 0), (.int .i64 0), (.int .i64 0), (.int .i64 0), (.int .i64 0), (.int .i64 0), (.int .i64 0), (.int .i64 0), (.int .i64 0), (.int .i64 0), (.int .i64 0), (.int .i64 0), (.int .i64 0)] 82 (0, 0)) →
  (((∃ u, w1.cell? (⟨w.heap.size, 0, none⟩ : Addr) = some u) ∧ w1.frozen? (⟨w.heap.size, 0, none⟩ : Addr) = false) ∧ ((∃ u, w1.cell? (⟨w.heap.size, 1, none⟩ : Addr) = some u) ∧ w1.frozen? (⟨w.heap.size, 1, none⟩ : Addr) = false) ∧ ((∃ u, w1.cell? (⟨w.heap.size, 2, none⟩ : Addr) = some u) ∧ w1.frozen? (⟨w.heap.size, 2, none⟩ : Addr) = false) ∧ ((∃ u, w1.cell? (⟨w.heap.size, 3, none⟩ : Addr) = some u) ∧ w1.frozen? (⟨w.heap.size, 3, none⟩ : Addr) = false) ∧ ((∃ u, w1.cell? (⟨w.heap.size, 4, none⟩ : Addr) = some u) ∧ w1.frozen? (⟨w.heap.size, 4, none⟩ : Addr) = false) ∧ ((∃ u, w1.cell? (⟨w.heap.size, 5, none⟩ : Addr) = some u) ∧ w1.frozen? (⟨w.heap.size, 5, none⟩ : Addr) = false) ∧ ((∃ u, w1.cell? (⟨w.heap.size, 6, none⟩ : Addr) = some u) ∧ w1.frozen? (⟨w.heap.size, 6, none⟩ : Addr) = false) ∧ ((∃ u, w1.cell? (⟨w.heap.size, 7, none⟩ : Addr) = some u) ∧ w1.frozen? (⟨w.heap.size, 7, none⟩ : Addr) = false) ∧ ((∃ u, w1.cell? (⟨w.heap.size, 8, none⟩ : Addr) = some u) ∧ w1.frozen? (⟨w.heap.size, 8, none⟩ : Addr) = false) ∧ ((∃ u, w1.cell? (⟨w.heap.size, 9, none⟩ : Addr) = some u) ∧ w1.frozen? (⟨w.heap.size, 9, none⟩ : Addr) = false) ∧ ((∃ u, w1.cell? (⟨w.heap.size, 10, none⟩ : Addr) = some u) ∧ w1.frozen? (⟨w.heap.size, 10, none⟩ : Addr) = false) ∧ ((∃ u, w1.cell? (⟨w.heap.size, 11, none⟩ : Addr) = some u) ∧ w1.frozen? (⟨w.heap.size, 11, none⟩ : Addr) = false) ∧ ((∃ u, w1.cell? (⟨w.heap.size, 12, none⟩ : Addr) = some u) ∧ w1.frozen? (⟨w.heap.size, 12, none⟩ : Addr) = false) ∧ ((∃ u, w1.cell? (⟨w.heap.size, 13, none⟩ : Addr) = some u) ∧ w1.frozen? (⟨w.heap.size, 13, none⟩ : Addr) = false) ∧ ((∃ u, w1.cell? (⟨w.heap.size, 14, none⟩ : Addr) = some u) ∧ w1.frozen? (⟨w.heap.size, 14, none⟩ : Addr) = false) ∧ ((∃ u, w1.cell? (⟨w.heap.size, 15, none⟩ : Addr) = some u) ∧ w1.frozen? (⟨w.heap.size, 15, none⟩ : Addr) = false) ∧ ((∃ u, w1.cell? (⟨w.heap.size, 16, none⟩ : Addr) = some u) ∧ w1.frozen? (⟨w.heap.size, 16, none⟩ : Addr) = false)) ∧ ∀ w2 : World, w2 = (((((((((((((((((w1.setCell (⟨w.heap.size, 0, none⟩ : Addr) (.int .i64 5)).setCell (⟨w.heap.size, 1, none⟩ : Addr) (.int .i64 8)).setCell (⟨w.heap.size, 2, none⟩ : Addr) (.int .i64 12)).setCell (⟨w.heap.size, 3, none⟩ : Addr) (.int .i64 19)).setCell (⟨w.heap.size, 4, none⟩ : Addr) (.int .i64 31)).setCell (⟨w.heap.size, 5, none⟩ : Addr) (.int .i64 47)).setCell (⟨w.heap.size, 6, none⟩ : Addr) (.int .i64 69)).setCell (⟨w.heap.size, 7, none⟩ : Addr) (.int .i64 97)).setCell (⟨w.heap.size, 8, none⟩ : Addr) (.int .i64 128)).setCell (⟨w.heap.size, 9, none⟩ : Addr) (.int .i64 159)).setCell (⟨w.heap.size, 10, none⟩ : Addr) (.int .i64 187)).setCell (⟨w.heap.size, 11, none⟩ : Addr) (.int .i64 209)).setCell (⟨w.heap.size, 12, none⟩ : Addr) (.int .i64 225)).setCell (⟨w.heap.size, 13, none⟩ : Addr) (.int .i64 237)).setCell (⟨w.heap.size, 14, none⟩ : Addr) (.int .i64 244)).setCell (⟨w.heap.size, 15, none⟩ : Addr) (.int .i64 248)).setCell (⟨w.heap.size, 16, none⟩ : Addr) (.int .i64 251)) →
  ∃ (r00 : Int), ∃ (r01 : Int), ∃ (r02 : Int), ∃ (r03 : Int), ∃ (r04 : Int), ∃ (r05 : Int), ∃ (r06 : Int), ∃ (r07 : Int), ∃ (r08 : Int), ∃ (r09 : Int), ∃ (r010 : Int), ∃ (r011 : Int), ∃ (r012 : Int), ∃ (r013 : Int), ∃ (r014 : Int), ∃ (r015 : Int), ∃ (r016 : Int), (w2.cell? (⟨w.heap.size, 0, none⟩ : Addr) = some (.int .i64 r00) ∧ w2.cell? (⟨w.heap.size, 1, none⟩ : Addr) = some (.int .i64 r01) ∧ w2.cell? (⟨w.heap.size, 2, none⟩ : Addr) = some (.int .i64 r02) ∧ w2.cell? (⟨w.heap.size, 3, none⟩ : Addr) = some (.int .i64 r03) ∧ w2.cell? (⟨w.heap.size, 4, none⟩ : Addr) = some (.int .i64 r04) ∧ w2.cell? (⟨w.heap.size, 5, none⟩ : Addr) = some (.int .i64 r05) ∧ w2.cell? (⟨w.heap.size, 6, none⟩ : Addr) = some (.int .i64 r06) ∧ w2.cell? (⟨w.heap.size, 7, none⟩ : Addr) = some (.int .i64 r07) ∧ w2.cell? (⟨w.heap.size, 8, none⟩ : Addr) = some (.int .i64 r08) ∧ w2.cell? (⟨w.heap.size, 9, none⟩ : Addr) = some (.int .i64 r09) ∧ w2.cell? (⟨w.heap.size, 10, none⟩ : Addr) = some (.int .i64 r010) ∧ w2.cell? (⟨w.heap.size, 11, none⟩ : Addr) = some (.int .i64 r011) ∧ w2.cell? (⟨w.heap.size, 12, none⟩ : Addr) = some (.int .i64 r012) ∧ w2.cell? (⟨w.heap.size, 13, none⟩ : Addr) = some (.int .i64 r013) ∧ w2.cell? (⟨w.heap.size, 14, none⟩ : Addr) = some (.int .i64 r014) ∧ w2.cell? (⟨w.heap.size, 15, none⟩ : Addr) = some (.int .i64 r015) ∧ w2.cell? (⟨w.heap.size, 16, none⟩ : Addr) = some (.int .i64 r016)) ∧
  R (.agg #[(.int .i64 r00), (.int .i64 r01), (.int .i64 r02), (.int .i64 r03), (.int .i64 r04), (.int .i64 r05), (.int .i64 r06), (.int .i64 r07), (.int .i64 r08), (.int .i64 r09), (.int .i64 r010), (.int .i64 r011), (.int .i64 r012), (.int .i64 r013), (.int .i64 r014), (.int .i64 r015), (.int .i64 r016)]) w2
theorem act_table.vc_eq (w : World) (R : Value → World → Prop) : fnV Try.prog Try.f52 .nil [] w R = act_table.vc  w R := by kernel_rfl
theorem act_table.calls {w : World} {R : Value → World → Prop} (h : act_table.vc  w R) : Calls Try.prog 52 #[] w (Ret R) :=
  calls_V fit Try.func52 .nil (by rw [show (#[] : Array Value).toList = [] from rfl, act_table.vc_eq]; exact h)
/-- function 28 -/
def coadjutorref14_Gate.vc (n : Int) (w : World) (R : Value → World → Prop) : Prop :=
  ∀ w1 : World, w1 = w.alloc (.cells #[(.int .i64 0), (.int .i64 0), (.int .i64 0), (.int .i64 0), (.int .i64 0), (.int .i64 0), (.int .i64 0), (.int .i64 0), (.int .i64 0), (.int .i64 0), (.int .i64 0), (.int .i64 0), (.int .i64 0), (.int .i64 0), (.int .i64 0), (.int .i64 0), (.int .i64 0)] 82 (0, 0)) →
  (((∃ u, w1.cell? (⟨w.heap.size, 0, none⟩ : Addr) = some u) ∧ w1.frozen? (⟨w.heap.size, 0, none⟩ : Addr) = false) ∧ ((∃ u, w1.cell? (⟨w.heap.size, 1, none⟩ : Addr) = some u) ∧ w1.frozen? (⟨w.heap.size, 1, none⟩ : Addr) = false) ∧ ((∃ u, w1.cell? (⟨w.heap.size, 2, none⟩ : Addr) = some u) ∧ w1.frozen? (⟨w.heap.size, 2, none⟩ : Addr) = false) ∧ ((∃ u, w1.cell? (⟨w.heap.size, 3, none⟩ : Addr) = some u) ∧ w1.frozen? (⟨w.heap.size, 3, none⟩ : Addr) = false) ∧ ((∃ u, w1.cell? (⟨w.heap.size, 4, none⟩ : Addr) = some u) ∧ w1.frozen? (⟨w.heap.size, 4, none⟩ : Addr) = false) ∧ ((∃ u, w1.cell? (⟨w.heap.size, 5, none⟩ : Addr) = some u) ∧ w1.frozen? (⟨w.heap.size, 5, none⟩ : Addr) = false) ∧ ((∃ u, w1.cell? (⟨w.heap.size, 6, none⟩ : Addr) = some u) ∧ w1.frozen? (⟨w.heap.size, 6, none⟩ : Addr) = false) ∧ ((∃ u, w1.cell? (⟨w.heap.size, 7, none⟩ : Addr) = some u) ∧ w1.frozen? (⟨w.heap.size, 7, none⟩ : Addr) = false) ∧ ((∃ u, w1.cell? (⟨w.heap.size, 8, none⟩ : Addr) = some u) ∧ w1.frozen? (⟨w.heap.size, 8, none⟩ : Addr) = false) ∧ ((∃ u, w1.cell? (⟨w.heap.size, 9, none⟩ : Addr) = some u) ∧ w1.frozen? (⟨w.heap.size, 9, none⟩ : Addr) = false) ∧ ((∃ u, w1.cell? (⟨w.heap.size, 10, none⟩ : Addr) = some u) ∧ w1.frozen? (⟨w.heap.size, 10, none⟩ : Addr) = false) ∧ ((∃ u, w1.cell? (⟨w.heap.size, 11, none⟩ : Addr) = some u) ∧ w1.frozen? (⟨w.heap.size, 11, none⟩ : Addr) = false) ∧ ((∃ u, w1.cell? (⟨w.heap.size, 12, none⟩ : Addr) = some u) ∧ w1.frozen? (⟨w.heap.size, 12, none⟩ : Addr) = false) ∧ ((∃ u, w1.cell? (⟨w.heap.size, 13, none⟩ : Addr) = some u) ∧ w1.frozen? (⟨w.heap.size, 13, none⟩ : Addr) = false) ∧ ((∃ u, w1.cell? (⟨w.heap.size, 14, none⟩ : Addr) = some u) ∧ w1.frozen? (⟨w.heap.size, 14, none⟩ : Addr) = false) ∧ ((∃ u, w1.cell? (⟨w.heap.size, 15, none⟩ : Addr) = some u) ∧ w1.frozen? (⟨w.heap.size, 15, none⟩ : Addr) = false) ∧ ((∃ u, w1.cell? (⟨w.heap.size, 16, none⟩ : Addr) = some u) ∧ w1.frozen? (⟨w.heap.size, 16, none⟩ : Addr) = false)) ∧ ∀ w2 : World, w2 = (((((((((((((((((w1.setCell (⟨w.heap.size, 0, none⟩ : Addr) (.int .i64 5)).setCell (⟨w.heap.size, 1, none⟩ : Addr) (.int .i64 8)).setCell (⟨w.heap.size, 2, none⟩ : Addr) (.int .i64 12)).setCell (⟨w.heap.size, 3, none⟩ : Addr) (.int .i64 19)).setCell (⟨w.heap.size, 4, none⟩ : Addr) (.int .i64 31)).setCell (⟨w.heap.size, 5, none⟩ : Addr) (.int .i64 47)).setCell (⟨w.heap.size, 6, none⟩ : Addr) (.int .i64 69)).setCell (⟨w.heap.size, 7, none⟩ : Addr) (.int .i64 97)).setCell (⟨w.heap.size, 8, none⟩ : Addr) (.int .i64 128)).setCell (⟨w.heap.size, 9, none⟩ : Addr) (.int .i64 159)).setCell (⟨w.heap.size, 10, none⟩ : Addr) (.int .i64 187)).setCell (⟨w.heap.size, 11, none⟩ : Addr) (.int .i64 209)).setCell (⟨w.heap.size, 12, none⟩ : Addr) (.int .i64 225)).setCell (⟨w.heap.size, 13, none⟩ : Addr) (.int .i64 237)).setCell (⟨w.heap.size, 14, none⟩ : Addr) (.int .i64 244)).setCell (⟨w.heap.size, 15, none⟩ : Addr) (.int .i64 248)).setCell (⟨w.heap.size, 16, none⟩ : Addr) (.int .i64 251)) →
  Calls Try.prog 55 #[(.int .i64 n), (.int .i64 (-100000)), (.int .i64 100000)] w2 (Ret fun v w3 => ∃ (x6 : Int), v = (.int .i64 x6) ∧
  Calls Try.prog 56 #[(.int .i64 x6), (.int .i64 32)] w3 (Ret fun v_1 w4 => ∃ (x7 : Int), v_1 = (.int .i64 x7) ∧
  Calls Try.prog 55 #[(.int .i64 (IntKind.i64.wrap (x7 + 8))), (.int .i64 0), (.int .i64 16)] w4 (Ret fun v_2 w5 => ∃ (x9 : Int), v_2 = (.int .i64 x9) ∧
  (0 ≤ x9 ∧ x9 < (17 : Int)) ∧
  ∃ (x11 : Int), w5.cell? ((⟨w.heap.size, 0, none⟩ : Addr).add (x9.toNat * 1)) = some (.int .i64 x11) ∧
  R (.int .i64 x11) w5)))
theorem coadjutorref14_Gate.vc_eq (n : Int) (w : World) (R : Value → World → Prop) : fnV Try.prog Try.f28 .nil [(.int .i64 n)] w R = coadjutorref14_Gate.vc n w R := by kernel_rfl
theorem coadjutorref14_Gate.calls (n : Int) {w : World} {R : Value → World → Prop} (h : coadjutorref14_Gate.vc n w R) : Calls Try.prog 28 #[(.int .i64 n)] w (Ret R) :=
  calls_V fit Try.func28 .nil (by rw [show (#[(.int .i64 n)] : Array Value).toList = [(.int .i64 n)] from rfl, coadjutorref14_Gate.vc_eq]; exact h)
/-- function 29 -/
def coadjutorref14_Pairs.vc (gatesA : Option Addr) (gatesN : Nat) (gatesC : Nat) (rowA : Option Addr) (rowN : Nat) (rowC : Nat) (w : World) (R : Value → World → Prop) : Prop :=
  ∀ w1 : World, w1 = w.alloc (.cells #[] 3 (0, 0)) →
  ∃ vI : Option Addr → Nat → Nat → Int → Nat → World → Prop, (∃ vk_2 : Nat, vI (some (⟨w.heap.size, 0, none⟩ : Addr)) 0 0 0 vk_2 w1) ∧
  ∀ (jk : Nat → Value) (outA : Option Addr) (outN : Nat) (outC : Nat) (i : Int), ∀ (vk : Nat) (w2 : World), vI outA outN outC i vk w2 →
  ((((gatesN : Nat) : Int) == ((rowN : Nat) : Int)) = true →
  (decide (i < ((rowN : Nat) : Int)) = true →
  ∃ vS : World → Prop, ∀ w3 : World, w3 = w2.drew → vS w3 ∧
  (0 ≤ i ∧ i < ((rowN : Nat) : Int)) ∧ someV rowA fun p =>
  ∃ (x25 : Int), (∀ w4, vS w4 → w4.cell? (p.add (i.toNat * 1)) = some (.int .i64 x25)) ∧
  (0 ≤ i ∧ i < ((gatesN : Nat) : Int)) ∧ someV gatesA fun p_1 =>
  ∃ (x29 : Int), (∀ w5, vS w5 → w5.cell? (p_1.add (i.toNat * 1)) = some (.int .i64 x29)) ∧
  Calls Try.prog 28 #[(.int .i64 x29)] w3 (Ret fun v w6 => ∃ (x30 : Int), v = (.int .i64 x30) ∧
  vS w6 ∧
  Calls Try.prog 57 #[(.int .i64 x25), (.int .i64 x30), (.int .i64 8)] w6 (Ret fun v_1 w7 => ∃ (x31 : Int), v_1 = (.int .i64 x31) ∧
  vS w7 ∧
  ∀ w8 : World, w8 = w7.alloc (.cells #[(.int .i64 x31)] 3 (0, 0)) →
  vS w8 ∧
  ∃ (x33A : Option Addr), ∃ (x33N : Nat), ∃ (x33C : Nat), ∃ w9 : World, (Builtin.append_ #[43, 43] 43 #[(.slice outA outN outC), (.slice (some (⟨w7.heap.size, 0, none⟩ : Addr)) 1 1)]).run Try.prog w8 = .ok (.slice x33A x33N x33C) w9 ∧
  vS w9 ∧
  ∃ vk_1 : Nat, vk_1 < vk ∧ vI x33A x33N x33C (IntKind.i64.wrap (i + 1)) vk_1 w9))) ∧
  (decide (i < ((rowN : Nat) : Int)) = false →
  R (.slice outA outN outC) w2)) ∧
  ((((gatesN : Nat) : Int) == ((rowN : Nat) : Int)) = false →
  R (.slice outA outN outC) w2)
theorem coadjutorref14_Pairs.vc_eq (gatesA : Option Addr) (gatesN : Nat) (gatesC : Nat) (rowA : Option Addr) (rowN : Nat) (rowC : Nat) (w : World) (R : Value → World → Prop) : fnV Try.prog Try.f29 (.lp [(5, some (.slice)), (6, some (.int .i64)), (8, none), (9, none), (10, none), (11, none), (12, none), (13, none), (14, none), (15, none), (16, none), (17, none), (18, none), (19, none), (20, none), (21, none), (22, none), (23, none), (24, none), (25, none), (26, none), (27, none), (28, none), (29, none), (30, none), (31, none), (32, none), (33, none)] (.at_ 3 5 (.c (.tk 0 (.tk 1 (.tk 2 (.tk 3 (.tk 4 (.tk 5 (.tk 6 (.tk 7 (.tk 8 (.alt 9 (.alt 10 (.alt 11 (.alt 12 (.tk 13 (.fin .nil)) .nil) .nil) .nil) .nil)))))))))) .nil) (.k .nil))) [(.slice gatesA gatesN gatesC), (.slice rowA rowN rowC)] w R = coadjutorref14_Pairs.vc gatesA gatesN gatesC rowA rowN rowC w R := by kernel_rfl
theorem coadjutorref14_Pairs.calls (gatesA : Option Addr) (gatesN : Nat) (gatesC : Nat) (rowA : Option Addr) (rowN : Nat) (rowC : Nat) {w : World} {R : Value → World → Prop} (h : coadjutorref14_Pairs.vc gatesA gatesN gatesC rowA rowN rowC w R) : Calls Try.prog 29 #[(.slice gatesA gatesN gatesC), (.slice rowA rowN rowC)] w (Ret R) :=
  calls_V fit Try.func29 (.lp [(5, some (.slice)), (6, some (.int .i64)), (8, none), (9, none), (10, none), (11, none), (12, none), (13, none), (14, none), (15, none), (16, none), (17, none), (18, none), (19, none), (20, none), (21, none), (22, none), (23, none), (24, none), (25, none), (26, none), (27, none), (28, none), (29, none), (30, none), (31, none), (32, none), (33, none)] (.at_ 3 5 (.c (.tk 0 (.tk 1 (.tk 2 (.tk 3 (.tk 4 (.tk 5 (.tk 6 (.tk 7 (.tk 8 (.alt 9 (.alt 10 (.alt 11 (.alt 12 (.tk 13 (.fin .nil)) .nil) .nil) .nil) .nil)))))))))) .nil) (.k .nil))) (by rw [show (#[(.slice gatesA gatesN gatesC), (.slice rowA rowN rowC)] : Array Value).toList = [(.slice gatesA gatesN gatesC), (.slice rowA rowN rowC)] from rfl, coadjutorref14_Pairs.vc_eq]; exact h)
/-- function 30 -/
def coadjutorlaw14_ints.vc (aA : Option Addr) (aN : Nat) (aC : Nat) (bA : Option Addr) (bN : Nat) (bC : Nat) (w : World) (R : Value → World → Prop) : Prop :=
  ((((aN : Nat) : Int) != ((bN : Nat) : Int)) = true →
  R (.bool false) w) ∧
  ((((aN : Nat) : Int) != ((bN : Nat) : Int)) = false →
  ∃ vI : Int → Nat → World → Prop, (∃ vk_2 : Nat, vI 0 vk_2 w) ∧
  ∀ (jk : Nat → Value) (i : Int), ∀ (vk : Nat) (w1 : World), vI i vk w1 →
  (decide (i < ((aN : Nat) : Int)) = true →
  ∃ vS : World → Prop, ∀ w2 : World, w2 = w1.drew → vS w2 ∧
  (0 ≤ i ∧ i < ((aN : Nat) : Int)) ∧ someV aA fun p =>
  ∃ (x20 : Int), (∀ w3, vS w3 → w3.cell? (p.add (i.toNat * 1)) = some (.int .i64 x20)) ∧
  (0 ≤ i ∧ i < ((bN : Nat) : Int)) ∧ someV bA fun p_1 =>
  ∃ (x24 : Int), (∀ w4, vS w4 → w4.cell? (p_1.add (i.toNat * 1)) = some (.int .i64 x24)) ∧
  ((x20 != x24) = true →
  R (.bool false) w2) ∧
  ((x20 != x24) = false →
  ∃ vk_1 : Nat, vk_1 < vk ∧ vI (IntKind.i64.wrap (i + 1)) vk_1 w2)) ∧
  (decide (i < ((aN : Nat) : Int)) = false →
  R (.bool true) w1))
theorem coadjutorlaw14_ints.vc_eq (aA : Option Addr) (aN : Nat) (aC : Nat) (bA : Option Addr) (bN : Nat) (bC : Nat) (w : World) (R : Value → World → Prop) : fnV Try.prog Try.f30 (.c .nil (.lp [(4, none), (5, some (.int .i64)), (11, none), (12, none), (13, none), (14, none), (15, none), (16, none), (17, none), (18, none), (19, none), (20, none), (21, none), (22, none), (23, none), (24, none), (25, none)] (.c (.tk 0 (.tk 1 (.tk 2 (.tk 3 (.tk 4 (.tk 5 (.tk 6 (.tk 7 (.tk 8 (.fin (.c .nil .nil))))))))))) .nil))) [(.slice aA aN aC), (.slice bA bN bC)] w R = coadjutorlaw14_ints.vc aA aN aC bA bN bC w R := by kernel_rfl
theorem coadjutorlaw14_ints.calls (aA : Option Addr) (aN : Nat) (aC : Nat) (bA : Option Addr) (bN : Nat) (bC : Nat) {w : World} {R : Value → World → Prop} (h : coadjutorlaw14_ints.vc aA aN aC bA bN bC w R) : Calls Try.prog 30 #[(.slice aA aN aC), (.slice bA bN bC)] w (Ret R) :=
  calls_V fit Try.func30 (.c .nil (.lp [(4, none), (5, some (.int .i64)), (11, none), (12, none), (13, none), (14, none), (15, none), (16, none), (17, none), (18, none), (19, none), (20, none), (21, none), (22, none), (23, none), (24, none), (25, none)] (.c (.tk 0 (.tk 1 (.tk 2 (.tk 3 (.tk 4 (.tk 5 (.tk 6 (.tk 7 (.tk 8 (.fin (.c .nil .nil))))))))))) .nil))) (by rw [show (#[(.slice aA aN aC), (.slice bA bN bC)] : Array Value).toList = [(.slice aA aN aC), (.slice bA bN bC)] from rfl, coadjutorlaw14_ints.vc_eq]; exact h)
/-- function 24 -/
def coadjutorlaw14_awake.vc (w : World) (R : Value → World → Prop) : Prop :=
  Calls Try.prog 26 #[(.int .i64 0)] w (Ret fun v w1 => ∃ (x1 : Int), v = (.int .i64 x1) ∧
  ((x1 == (128 : Int)) = true →
  Calls Try.prog 25 #[(.int .i64 64)] w1 (Ret fun v_1 w2 => ∃ (x4 : Int), v_1 = (.int .i64 x4) ∧
  ((x4 == (47 : Int)) = true →
  Calls Try.prog 26 #[(.int .i64 4611686018427387904)] w2 (Ret fun v_2 w3 => ∃ (x8 : Int), v_2 = (.int .i64 x8) ∧
  ((x8 == (251 : Int)) = true →
  Calls Try.prog 26 #[(.int .i64 (-4611686018427387904))] w3 (Ret fun v_3 w4 => ∃ (x12 : Int), v_3 = (.int .i64 x12) ∧
  ((x12 == (5 : Int)) = true →
  ∀ w5 : World, w5 = w4.alloc (.cells #[(.int .i64 1)] 3 (0, 0)) →
  ∀ w6 : World, w6 = w5.alloc (.cells #[(.int .i64 1), (.int .i64 2)] 3 (0, 0)) →
  Calls Try.prog 27 #[(.slice (some (⟨w4.heap.size, 0, none⟩ : Addr)) 1 1), (.slice (some (⟨w5.heap.size, 0, none⟩ : Addr)) 2 2)] w6 (Ret fun v_4 w7 => ∃ (x18A : Option Addr), ∃ (x18N : Nat), ∃ (x18C : Nat), v_4 = (.slice x18A x18N x18C) ∧
  R (.bool (((x18N : Nat) : Int) == (0 : Int))) w7)) ∧
  ((x12 == (5 : Int)) = false →
  R (.bool false) w4))) ∧
  ((x8 == (251 : Int)) = false →
  R (.bool false) w3))) ∧
  ((x4 == (47 : Int)) = false →
  R (.bool false) w2))) ∧
  ((x1 == (128 : Int)) = false →
  R (.bool false) w1))
theorem coadjutorlaw14_awake.vc_eq (w : World) (R : Value → World → Prop) : fnV Try.prog Try.f24 (.at_ 1 2 (.at_ 1 6 (.at_ 1 10 (.at_ 1 14 .nil .nil) .nil) .nil) .nil) [] w R = coadjutorlaw14_awake.vc  w R := by kernel_rfl
theorem coadjutorlaw14_awake.calls {w : World} {R : Value → World → Prop} (h : coadjutorlaw14_awake.vc  w R) : Calls Try.prog 24 #[] w (Ret R) :=
  calls_V fit Try.func24 (.at_ 1 2 (.at_ 1 6 (.at_ 1 10 (.at_ 1 14 .nil .nil) .nil) .nil) .nil) (by rw [show (#[] : Array Value).toList = [] from rfl, coadjutorlaw14_awake.vc_eq]; exact h)
/-- function 7 -/
def coadjutorlaw14_ActExact.vc (gatesA : Option Addr) (gatesN : Nat) (gatesC : Nat) (rowA : Option Addr) (rowN : Nat) (rowC : Nat) (w : World) (R : Value → World → Prop) : Prop :=
  Calls Try.prog 24 #[] w (Ret fun v w1 => ∃ (x6 : Bool), v = (.bool x6) ∧
  ((!x6) = true →
  R (.bool false) w1) ∧
  ((!x6) = false →
  (decide (((gatesN : Nat) : Int) > (64 : Int)) = true →
  R (.bool true) w1) ∧
  (decide (((gatesN : Nat) : Int) > (64 : Int)) = false →
  (decide (((rowN : Nat) : Int) > (64 : Int)) = true →
  R (.bool true) w1) ∧
  (decide (((rowN : Nat) : Int) > (64 : Int)) = false →
  ∃ vI : Int → Nat → World → Prop, (∃ vk_2 : Nat, vI 0 vk_2 w1) ∧
  ∀ (jk : Nat → Value) (i : Int), ∀ (vk : Nat) (w2 : World), vI i vk w2 →
  (decide (i < ((rowN : Nat) : Int)) = true →
  ∃ vS : World → Prop, ∀ w3 : World, w3 = w2.drew → vS w3 ∧
  (0 ≤ i ∧ i < ((rowN : Nat) : Int)) ∧ someV rowA fun p =>
  ∃ (x25 : Int), (∀ w4, vS w4 → w4.cell? (p.add (i.toNat * 1)) = some (.int .i64 x25)) ∧
  (0 ≤ i ∧ i < ((rowN : Nat) : Int)) ∧ someV rowA fun p_1 =>
  ∃ (x30 : Int), (∀ w5, vS w5 → w5.cell? (p_1.add (i.toNat * 1)) = some (.int .i64 x30)) ∧
  Calls Try.prog 26 #[(.int .i64 x25)] w3 (Ret fun v_1 w6 => ∃ (x26 : Int), v_1 = (.int .i64 x26) ∧
  vS w6 ∧
  Calls Try.prog 28 #[(.int .i64 x30)] w6 (Ret fun v_2 w7 => ∃ (x31 : Int), v_2 = (.int .i64 x31) ∧
  vS w7 ∧
  ((x26 != x31) = true →
  R (.bool false) w7) ∧
  ((x26 != x31) = false →
  (0 ≤ i ∧ i < ((rowN : Nat) : Int)) ∧ someV rowA fun p_2 =>
  ∃ (x37 : Int), (∀ w8, vS w8 → w8.cell? (p_2.add (i.toNat * 1)) = some (.int .i64 x37)) ∧
  (0 ≤ i ∧ i ≤ (IntKind.i64.wrap (i + 1)) ∧ (IntKind.i64.wrap (i + 1)) ≤ ((rowC : Nat) : Int)) ∧
  (0 ≤ i ∧ i ≤ (IntKind.i64.wrap (i + 1)) ∧ (IntKind.i64.wrap (i + 1)) ≤ ((rowC : Nat) : Int)) ∧
  Calls Try.prog 25 #[(.int .i64 x37)] w7 (Ret fun v_3 w9 => ∃ (x38 : Int), v_3 = (.int .i64 x38) ∧
  vS w9 ∧
  Calls Try.prog 29 #[(.slice (if rowC = i.toNat then rowA else rowA.map (·.add (i.toNat * 1))) ((IntKind.i64.wrap (i + 1)).toNat - i.toNat) (rowC - i.toNat)), (.slice (if rowC = i.toNat then rowA else rowA.map (·.add (i.toNat * 1))) ((IntKind.i64.wrap (i + 1)).toNat - i.toNat) (rowC - i.toNat))] w9 (Ret fun v_4 w10 => ∃ (x49A : Option Addr), ∃ (x49N : Nat), ∃ (x49C : Nat), v_4 = (.slice x49A x49N x49C) ∧
  vS w10 ∧
  (0 ≤ (0 : Int) ∧ (0 : Int) < ((x49N : Nat) : Int)) ∧ someV x49A fun p_3 =>
  ∃ (x51 : Int), w10.cell? p_3 = some (.int .i64 x51) ∧
  vS w10 ∧
  ((x38 != x51) = true →
  R (.bool false) w10) ∧
  ((x38 != x51) = false →
  ∃ vk_1 : Nat, vk_1 < vk ∧ vI (IntKind.i64.wrap (i + 1)) vk_1 w10))))))) ∧
  (decide (i < ((rowN : Nat) : Int)) = false →
  Calls Try.prog 31 #[(.slice rowA rowN rowC)] w2 (Ret fun v_5 w11 => ∃ (x55A : Option Addr), ∃ (x55N : Nat), ∃ (x55C : Nat), v_5 = (.slice x55A x55N x55C) ∧
  Calls Try.prog 29 #[(.slice rowA rowN rowC), (.slice rowA rowN rowC)] w11 (Ret fun v_6 w12 => ∃ (x58A : Option Addr), ∃ (x58N : Nat), ∃ (x58C : Nat), v_6 = (.slice x58A x58N x58C) ∧
  Calls Try.prog 30 #[(.slice x55A x55N x55C), (.slice x58A x58N x58C)] w12 (Ret fun v_7 w13 => ∃ (x59 : Bool), v_7 = (.bool x59) ∧
  (x59 = true →
  Calls Try.prog 27 #[(.slice gatesA gatesN gatesC), (.slice rowA rowN rowC)] w13 (Ret fun v_8 w14 => ∃ (x63A : Option Addr), ∃ (x63N : Nat), ∃ (x63C : Nat), v_8 = (.slice x63A x63N x63C) ∧
  Calls Try.prog 29 #[(.slice gatesA gatesN gatesC), (.slice rowA rowN rowC)] w14 (Ret fun v_9 w15 => ∃ (x66A : Option Addr), ∃ (x66N : Nat), ∃ (x66C : Nat), v_9 = (.slice x66A x66N x66C) ∧
  Calls Try.prog 30 #[(.slice x63A x63N x63C), (.slice x66A x66N x66C)] w15 (Ret fun v_10 w16 => ∃ (x67 : Bool), v_10 = (.bool x67) ∧
  R (.bool x67) w16)))) ∧
  (x59 = false →
  R (.bool false) w13)))))))))
theorem coadjutorlaw14_ActExact.vc_eq (gatesA : Option Addr) (gatesN : Nat) (gatesC : Nat) (rowA : Option Addr) (rowN : Nat) (rowC : Nat) (w : World) (R : Value → World → Prop) : fnV Try.prog Try.f7 (.c .nil (.at_ 3 3 (.k .nil) (.c .nil (.lp [(4, none), (5, some (.int .i64)), (16, none), (17, none), (18, none), (19, none), (20, none), (21, none), (22, none), (23, none), (24, none), (25, none), (26, none), (27, none), (28, none), (29, none), (30, none), (31, none), (32, none), (33, none), (34, none), (35, none), (36, none), (37, none), (38, none), (39, none), (40, none), (41, none), (42, none), (43, none), (44, none), (45, none), (46, none), (47, none), (48, none), (49, none), (50, none), (51, none), (52, none), (53, none)] (.c (.tk 0 (.tk 1 (.tk 2 (.tk 3 (.tk 5 (.tk 6 (.tk 7 (.tk 8 (.alt 4 (.alt 9 (.tk 10 (.tks 11 (.tk 12 (.tk 13 (.tk 14 (.tk 15 (.tk 16 (.tk 17 (.tk 18 (.tk 19 (.tk 20 (.tk 21 (.tk 22 (.tk 23 (.tk 24 (.tk 25 (.tk 26 (.tk 27 (.tk 28 (.tk 29 (.tk 30 (.tk 31 (.fin (.k .nil)))))))))))))))))))))) (.tk 12 (.tk 13 (.tk 14 (.tk 15 (.tk 17 (.tk 18 (.tk 19 (.tk 20 (.tk 21 (.tk 22 (.tk 23 (.tk 24 (.tk 25 (.tk 26 (.alt 16 (.alt 27 (.tk 28 (.alt 29 (.tk 30 (.tk 31 (.fin (.c .nil .nil)))) .nil)) .nil) .nil))))))))))))))))) .nil) .nil))))))))) (.at_ 10 6 .nil .nil)))))) [(.slice gatesA gatesN gatesC), (.slice rowA rowN rowC)] w R = coadjutorlaw14_ActExact.vc gatesA gatesN gatesC rowA rowN rowC w R := by kernel_rfl
theorem coadjutorlaw14_ActExact.calls (gatesA : Option Addr) (gatesN : Nat) (gatesC : Nat) (rowA : Option Addr) (rowN : Nat) (rowC : Nat) {w : World} {R : Value → World → Prop} (h : coadjutorlaw14_ActExact.vc gatesA gatesN gatesC rowA rowN rowC w R) : Calls Try.prog 7 #[(.slice gatesA gatesN gatesC), (.slice rowA rowN rowC)] w (Ret R) :=
  calls_V fit Try.func7 (.c .nil (.at_ 3 3 (.k .nil) (.c .nil (.lp [(4, none), (5, some (.int .i64)), (16, none), (17, none), (18, none), (19, none), (20, none), (21, none), (22, none), (23, none), (24, none), (25, none), (26, none), (27, none), (28, none), (29, none), (30, none), (31, none), (32, none), (33, none), (34, none), (35, none), (36, none), (37, none), (38, none), (39, none), (40, none), (41, none), (42, none), (43, none), (44, none), (45, none), (46, none), (47, none), (48, none), (49, none), (50, none), (51, none), (52, none), (53, none)] (.c (.tk 0 (.tk 1 (.tk 2 (.tk 3 (.tk 5 (.tk 6 (.tk 7 (.tk 8 (.alt 4 (.alt 9 (.tk 10 (.tks 11 (.tk 12 (.tk 13 (.tk 14 (.tk 15 (.tk 16 (.tk 17 (.tk 18 (.tk 19 (.tk 20 (.tk 21 (.tk 22 (.tk 23 (.tk 24 (.tk 25 (.tk 26 (.tk 27 (.tk 28 (.tk 29 (.tk 30 (.tk 31 (.fin (.k .nil)))))))))))))))))))))) (.tk 12 (.tk 13 (.tk 14 (.tk 15 (.tk 17 (.tk 18 (.tk 19 (.tk 20 (.tk 21 (.tk 22 (.tk 23 (.tk 24 (.tk 25 (.tk 26 (.alt 16 (.alt 27 (.tk 28 (.alt 29 (.tk 30 (.tk 31 (.fin (.c .nil .nil)))) .nil)) .nil) .nil))))))))))))))))) .nil) .nil))))))))) (.at_ 10 6 .nil .nil)))))) (by rw [show (#[(.slice gatesA gatesN gatesC), (.slice rowA rowN rowC)] : Array Value).toList = [(.slice gatesA gatesN gatesC), (.slice rowA rowN rowC)] from rfl, coadjutorlaw14_ActExact.vc_eq]; exact h)
/-- function 6 -/
def coadjutorlaw14_ActOpens.vc (va : Int) (b : Int) (w : World) (R : Value → World → Prop) : Prop :=
  Calls Try.prog 24 #[] w (Ret fun v w1 => ∃ (x8 : Bool), v = (.bool x8) ∧
  ((!x8) = true →
  R (.bool false) w1) ∧
  ((!x8) = false →
  (decide (va > (32767 : Int)) = true →
  R (.bool true) w1) ∧
  (decide (va > (32767 : Int)) = false →
  (decide (va < (-32767 : Int)) = true →
  R (.bool true) w1) ∧
  (decide (va < (-32767 : Int)) = false →
  (decide (b > (32767 : Int)) = true →
  R (.bool true) w1) ∧
  (decide (b > (32767 : Int)) = false →
  (decide (b < (-32767 : Int)) = true →
  R (.bool true) w1) ∧
  (decide (b < (-32767 : Int)) = false →
  Calls Try.prog 25 #[(.int .i64 va)] w1 (Ret fun v_1 w2 => ∃ (x25 : Int), v_1 = (.int .i64 x25) ∧
  (decide (va < b) = true →
  Calls Try.prog 26 #[(.int .i64 va)] w2 (Ret fun v_2 w3 => ∃ (x31 : Int), v_2 = (.int .i64 x31) ∧
  Calls Try.prog 26 #[(.int .i64 b)] w3 (Ret fun v_3 w4 => ∃ (x33 : Int), v_3 = (.int .i64 x33) ∧
  (decide (x31 > x33) = true →
  R (.bool false) w4) ∧
  (decide (x31 > x33) = false →
  (decide (va ≥ (0 : Int)) = true →
  (decide (x25 < (0 : Int)) = true →
  R (.bool false) w4) ∧
  (decide (x25 < (0 : Int)) = false →
  (decide (x25 > va) = true →
  R (.bool false) w4) ∧
  (decide (x25 > va) = false →
  (decide (va < (0 : Int)) = true →
  (decide (x25 > (0 : Int)) = true →
  R (.bool false) w4) ∧
  (decide (x25 > (0 : Int)) = false →
  (decide (x25 < va) = true →
  R (.bool false) w4) ∧
  (decide (x25 < va) = false →
  Calls Try.prog 26 #[(.int .i64 va)] w4 (Ret fun v_4 w5 => ∃ (x63 : Int), v_4 = (.int .i64 x63) ∧
  ∀ w6 : World, w6 = w5.alloc (.cells #[(.int .i64 va)] 3 (0, 0)) →
  ∀ w7 : World, w7 = w6.alloc (.cells #[(.int .i64 b)] 3 (0, 0)) →
  Calls Try.prog 27 #[(.slice (some (⟨w5.heap.size, 0, none⟩ : Addr)) 1 1), (.slice (some (⟨w6.heap.size, 0, none⟩ : Addr)) 1 1)] w7 (Ret fun v_5 w8 => ∃ (x68A : Option Addr), ∃ (x68N : Nat), ∃ (x68C : Nat), v_5 = (.slice x68A x68N x68C) ∧
  (decide (x63 ≥ (0 : Int)) = true →
  (decide (x63 ≤ (256 : Int)) = true →
  ((((x68N : Nat) : Int) == (1 : Int)) = true →
  (decide (b ≥ (0 : Int)) = true →
  (0 ≤ (0 : Int) ∧ (0 : Int) < ((x68N : Nat) : Int)) ∧ someV x68A fun p =>
  ∃ (x86 : Int), w8.cell? p = some (.int .i64 x86) ∧
  (decide (x86 ≥ (0 : Int)) = true →
  (0 ≤ (0 : Int) ∧ (0 : Int) < ((x68N : Nat) : Int)) ∧ someV x68A fun p_1 =>
  ∃ (x92 : Int), w8.cell? p_1 = some (.int .i64 x92) ∧
  (decide (x92 ≤ b) = true →
  R (.bool true) w8) ∧
  (decide (x92 ≤ b) = false →
  (decide (b < (0 : Int)) = true →
  (0 ≤ (0 : Int) ∧ (0 : Int) < ((x68N : Nat) : Int)) ∧ someV x68A fun p_2 =>
  ∃ (x102 : Int), w8.cell? p_2 = some (.int .i64 x102) ∧
  (decide (x102 ≤ (0 : Int)) = true →
  (0 ≤ (0 : Int) ∧ (0 : Int) < ((x68N : Nat) : Int)) ∧ someV x68A fun p_3 =>
  ∃ (x108 : Int), w8.cell? p_3 = some (.int .i64 x108) ∧
  R (.bool (decide (x108 ≥ b))) w8) ∧
  (decide (x102 ≤ (0 : Int)) = false →
  R (.bool false) w8)) ∧
  (decide (b < (0 : Int)) = false →
  R (.bool false) w8))) ∧
  (decide (x86 ≥ (0 : Int)) = false →
  (decide (b < (0 : Int)) = true →
  (0 ≤ (0 : Int) ∧ (0 : Int) < ((x68N : Nat) : Int)) ∧ someV x68A fun p_4 =>
  ∃ (x102_1 : Int), w8.cell? p_4 = some (.int .i64 x102_1) ∧
  (decide (x102_1 ≤ (0 : Int)) = true →
  (0 ≤ (0 : Int) ∧ (0 : Int) < ((x68N : Nat) : Int)) ∧ someV x68A fun p_5 =>
  ∃ (x108_1 : Int), w8.cell? p_5 = some (.int .i64 x108_1) ∧
  R (.bool (decide (x108_1 ≥ b))) w8) ∧
  (decide (x102_1 ≤ (0 : Int)) = false →
  R (.bool false) w8)) ∧
  (decide (b < (0 : Int)) = false →
  R (.bool false) w8))) ∧
  (decide (b ≥ (0 : Int)) = false →
  (decide (b < (0 : Int)) = true →
  (0 ≤ (0 : Int) ∧ (0 : Int) < ((x68N : Nat) : Int)) ∧ someV x68A fun p_6 =>
  ∃ (x102_2 : Int), w8.cell? p_6 = some (.int .i64 x102_2) ∧
  (decide (x102_2 ≤ (0 : Int)) = true →
  (0 ≤ (0 : Int) ∧ (0 : Int) < ((x68N : Nat) : Int)) ∧ someV x68A fun p_7 =>
  ∃ (x108_2 : Int), w8.cell? p_7 = some (.int .i64 x108_2) ∧
  R (.bool (decide (x108_2 ≥ b))) w8) ∧
  (decide (x102_2 ≤ (0 : Int)) = false →
  R (.bool false) w8)) ∧
  (decide (b < (0 : Int)) = false →
  R (.bool false) w8))) ∧
  ((((x68N : Nat) : Int) == (1 : Int)) = false →
  R (.bool false) w8)) ∧
  (decide (x63 ≤ (256 : Int)) = false →
  R (.bool false) w8)) ∧
  (decide (x63 ≥ (0 : Int)) = false →
  R (.bool false) w8)))))) ∧
  (decide (va < (0 : Int)) = false →
  Calls Try.prog 26 #[(.int .i64 va)] w4 (Ret fun v_6 w9 => ∃ (x63_1 : Int), v_6 = (.int .i64 x63_1) ∧
  ∀ w10 : World, w10 = w9.alloc (.cells #[(.int .i64 va)] 3 (0, 0)) →
  ∀ w11 : World, w11 = w10.alloc (.cells #[(.int .i64 b)] 3 (0, 0)) →
  Calls Try.prog 27 #[(.slice (some (⟨w9.heap.size, 0, none⟩ : Addr)) 1 1), (.slice (some (⟨w10.heap.size, 0, none⟩ : Addr)) 1 1)] w11 (Ret fun v_7 w12 => ∃ (x68A_1 : Option Addr), ∃ (x68N_1 : Nat), ∃ (x68C_1 : Nat), v_7 = (.slice x68A_1 x68N_1 x68C_1) ∧
  (decide (x63_1 ≥ (0 : Int)) = true →
  (decide (x63_1 ≤ (256 : Int)) = true →
  ((((x68N_1 : Nat) : Int) == (1 : Int)) = true →
  (decide (b ≥ (0 : Int)) = true →
  (0 ≤ (0 : Int) ∧ (0 : Int) < ((x68N_1 : Nat) : Int)) ∧ someV x68A_1 fun p_8 =>
  ∃ (x86_1 : Int), w12.cell? p_8 = some (.int .i64 x86_1) ∧
  (decide (x86_1 ≥ (0 : Int)) = true →
  (0 ≤ (0 : Int) ∧ (0 : Int) < ((x68N_1 : Nat) : Int)) ∧ someV x68A_1 fun p_9 =>
  ∃ (x92_1 : Int), w12.cell? p_9 = some (.int .i64 x92_1) ∧
  (decide (x92_1 ≤ b) = true →
  R (.bool true) w12) ∧
  (decide (x92_1 ≤ b) = false →
  (decide (b < (0 : Int)) = true →
  (0 ≤ (0 : Int) ∧ (0 : Int) < ((x68N_1 : Nat) : Int)) ∧ someV x68A_1 fun p_10 =>
  ∃ (x102_3 : Int), w12.cell? p_10 = some (.int .i64 x102_3) ∧
  (decide (x102_3 ≤ (0 : Int)) = true →
  (0 ≤ (0 : Int) ∧ (0 : Int) < ((x68N_1 : Nat) : Int)) ∧ someV x68A_1 fun p_11 =>
  ∃ (x108_3 : Int), w12.cell? p_11 = some (.int .i64 x108_3) ∧
  R (.bool (decide (x108_3 ≥ b))) w12) ∧
  (decide (x102_3 ≤ (0 : Int)) = false →
  R (.bool false) w12)) ∧
  (decide (b < (0 : Int)) = false →
  R (.bool false) w12))) ∧
  (decide (x86_1 ≥ (0 : Int)) = false →
  (decide (b < (0 : Int)) = true →
  (0 ≤ (0 : Int) ∧ (0 : Int) < ((x68N_1 : Nat) : Int)) ∧ someV x68A_1 fun p_12 =>
  ∃ (x102_4 : Int), w12.cell? p_12 = some (.int .i64 x102_4) ∧
  (decide (x102_4 ≤ (0 : Int)) = true →
  (0 ≤ (0 : Int) ∧ (0 : Int) < ((x68N_1 : Nat) : Int)) ∧ someV x68A_1 fun p_13 =>
  ∃ (x108_4 : Int), w12.cell? p_13 = some (.int .i64 x108_4) ∧
  R (.bool (decide (x108_4 ≥ b))) w12) ∧
  (decide (x102_4 ≤ (0 : Int)) = false →
  R (.bool false) w12)) ∧
  (decide (b < (0 : Int)) = false →
  R (.bool false) w12))) ∧
  (decide (b ≥ (0 : Int)) = false →
  (decide (b < (0 : Int)) = true →
  (0 ≤ (0 : Int) ∧ (0 : Int) < ((x68N_1 : Nat) : Int)) ∧ someV x68A_1 fun p_14 =>
  ∃ (x102_5 : Int), w12.cell? p_14 = some (.int .i64 x102_5) ∧
  (decide (x102_5 ≤ (0 : Int)) = true →
  (0 ≤ (0 : Int) ∧ (0 : Int) < ((x68N_1 : Nat) : Int)) ∧ someV x68A_1 fun p_15 =>
  ∃ (x108_5 : Int), w12.cell? p_15 = some (.int .i64 x108_5) ∧
  R (.bool (decide (x108_5 ≥ b))) w12) ∧
  (decide (x102_5 ≤ (0 : Int)) = false →
  R (.bool false) w12)) ∧
  (decide (b < (0 : Int)) = false →
  R (.bool false) w12))) ∧
  ((((x68N_1 : Nat) : Int) == (1 : Int)) = false →
  R (.bool false) w12)) ∧
  (decide (x63_1 ≤ (256 : Int)) = false →
  R (.bool false) w12)) ∧
  (decide (x63_1 ≥ (0 : Int)) = false →
  R (.bool false) w12))))))) ∧
  (decide (va ≥ (0 : Int)) = false →
  (decide (va < (0 : Int)) = true →
  (decide (x25 > (0 : Int)) = true →
  R (.bool false) w4) ∧
  (decide (x25 > (0 : Int)) = false →
  (decide (x25 < va) = true →
  R (.bool false) w4) ∧
  (decide (x25 < va) = false →
  Calls Try.prog 26 #[(.int .i64 va)] w4 (Ret fun v_8 w13 => ∃ (x63_2 : Int), v_8 = (.int .i64 x63_2) ∧
  ∀ w14 : World, w14 = w13.alloc (.cells #[(.int .i64 va)] 3 (0, 0)) →
  ∀ w15 : World, w15 = w14.alloc (.cells #[(.int .i64 b)] 3 (0, 0)) →
  Calls Try.prog 27 #[(.slice (some (⟨w13.heap.size, 0, none⟩ : Addr)) 1 1), (.slice (some (⟨w14.heap.size, 0, none⟩ : Addr)) 1 1)] w15 (Ret fun v_9 w16 => ∃ (x68A_2 : Option Addr), ∃ (x68N_2 : Nat), ∃ (x68C_2 : Nat), v_9 = (.slice x68A_2 x68N_2 x68C_2) ∧
  (decide (x63_2 ≥ (0 : Int)) = true →
  (decide (x63_2 ≤ (256 : Int)) = true →
  ((((x68N_2 : Nat) : Int) == (1 : Int)) = true →
  (decide (b ≥ (0 : Int)) = true →
  (0 ≤ (0 : Int) ∧ (0 : Int) < ((x68N_2 : Nat) : Int)) ∧ someV x68A_2 fun p_16 =>
  ∃ (x86_2 : Int), w16.cell? p_16 = some (.int .i64 x86_2) ∧
  (decide (x86_2 ≥ (0 : Int)) = true →
  (0 ≤ (0 : Int) ∧ (0 : Int) < ((x68N_2 : Nat) : Int)) ∧ someV x68A_2 fun p_17 =>
  ∃ (x92_2 : Int), w16.cell? p_17 = some (.int .i64 x92_2) ∧
  (decide (x92_2 ≤ b) = true →
  R (.bool true) w16) ∧
  (decide (x92_2 ≤ b) = false →
  (decide (b < (0 : Int)) = true →
  (0 ≤ (0 : Int) ∧ (0 : Int) < ((x68N_2 : Nat) : Int)) ∧ someV x68A_2 fun p_18 =>
  ∃ (x102_6 : Int), w16.cell? p_18 = some (.int .i64 x102_6) ∧
  (decide (x102_6 ≤ (0 : Int)) = true →
  (0 ≤ (0 : Int) ∧ (0 : Int) < ((x68N_2 : Nat) : Int)) ∧ someV x68A_2 fun p_19 =>
  ∃ (x108_6 : Int), w16.cell? p_19 = some (.int .i64 x108_6) ∧
  R (.bool (decide (x108_6 ≥ b))) w16) ∧
  (decide (x102_6 ≤ (0 : Int)) = false →
  R (.bool false) w16)) ∧
  (decide (b < (0 : Int)) = false →
  R (.bool false) w16))) ∧
  (decide (x86_2 ≥ (0 : Int)) = false →
  (decide (b < (0 : Int)) = true →
  (0 ≤ (0 : Int) ∧ (0 : Int) < ((x68N_2 : Nat) : Int)) ∧ someV x68A_2 fun p_20 =>
  ∃ (x102_7 : Int), w16.cell? p_20 = some (.int .i64 x102_7) ∧
  (decide (x102_7 ≤ (0 : Int)) = true →
  (0 ≤ (0 : Int) ∧ (0 : Int) < ((x68N_2 : Nat) : Int)) ∧ someV x68A_2 fun p_21 =>
  ∃ (x108_7 : Int), w16.cell? p_21 = some (.int .i64 x108_7) ∧
  R (.bool (decide (x108_7 ≥ b))) w16) ∧
  (decide (x102_7 ≤ (0 : Int)) = false →
  R (.bool false) w16)) ∧
  (decide (b < (0 : Int)) = false →
  R (.bool false) w16))) ∧
  (decide (b ≥ (0 : Int)) = false →
  (decide (b < (0 : Int)) = true →
  (0 ≤ (0 : Int) ∧ (0 : Int) < ((x68N_2 : Nat) : Int)) ∧ someV x68A_2 fun p_22 =>
  ∃ (x102_8 : Int), w16.cell? p_22 = some (.int .i64 x102_8) ∧
  (decide (x102_8 ≤ (0 : Int)) = true →
  (0 ≤ (0 : Int) ∧ (0 : Int) < ((x68N_2 : Nat) : Int)) ∧ someV x68A_2 fun p_23 =>
  ∃ (x108_8 : Int), w16.cell? p_23 = some (.int .i64 x108_8) ∧
  R (.bool (decide (x108_8 ≥ b))) w16) ∧
  (decide (x102_8 ≤ (0 : Int)) = false →
  R (.bool false) w16)) ∧
  (decide (b < (0 : Int)) = false →
  R (.bool false) w16))) ∧
  ((((x68N_2 : Nat) : Int) == (1 : Int)) = false →
  R (.bool false) w16)) ∧
  (decide (x63_2 ≤ (256 : Int)) = false →
  R (.bool false) w16)) ∧
  (decide (x63_2 ≥ (0 : Int)) = false →
  R (.bool false) w16)))))) ∧
  (decide (va < (0 : Int)) = false →
  Calls Try.prog 26 #[(.int .i64 va)] w4 (Ret fun v_10 w17 => ∃ (x63_3 : Int), v_10 = (.int .i64 x63_3) ∧
  ∀ w18 : World, w18 = w17.alloc (.cells #[(.int .i64 va)] 3 (0, 0)) →
  ∀ w19 : World, w19 = w18.alloc (.cells #[(.int .i64 b)] 3 (0, 0)) →
  Calls Try.prog 27 #[(.slice (some (⟨w17.heap.size, 0, none⟩ : Addr)) 1 1), (.slice (some (⟨w18.heap.size, 0, none⟩ : Addr)) 1 1)] w19 (Ret fun v_11 w20 => ∃ (x68A_3 : Option Addr), ∃ (x68N_3 : Nat), ∃ (x68C_3 : Nat), v_11 = (.slice x68A_3 x68N_3 x68C_3) ∧
  (decide (x63_3 ≥ (0 : Int)) = true →
  (decide (x63_3 ≤ (256 : Int)) = true →
  ((((x68N_3 : Nat) : Int) == (1 : Int)) = true →
  (decide (b ≥ (0 : Int)) = true →
  (0 ≤ (0 : Int) ∧ (0 : Int) < ((x68N_3 : Nat) : Int)) ∧ someV x68A_3 fun p_24 =>
  ∃ (x86_3 : Int), w20.cell? p_24 = some (.int .i64 x86_3) ∧
  (decide (x86_3 ≥ (0 : Int)) = true →
  (0 ≤ (0 : Int) ∧ (0 : Int) < ((x68N_3 : Nat) : Int)) ∧ someV x68A_3 fun p_25 =>
  ∃ (x92_3 : Int), w20.cell? p_25 = some (.int .i64 x92_3) ∧
  (decide (x92_3 ≤ b) = true →
  R (.bool true) w20) ∧
  (decide (x92_3 ≤ b) = false →
  (decide (b < (0 : Int)) = true →
  (0 ≤ (0 : Int) ∧ (0 : Int) < ((x68N_3 : Nat) : Int)) ∧ someV x68A_3 fun p_26 =>
  ∃ (x102_9 : Int), w20.cell? p_26 = some (.int .i64 x102_9) ∧
  (decide (x102_9 ≤ (0 : Int)) = true →
  (0 ≤ (0 : Int) ∧ (0 : Int) < ((x68N_3 : Nat) : Int)) ∧ someV x68A_3 fun p_27 =>
  ∃ (x108_9 : Int), w20.cell? p_27 = some (.int .i64 x108_9) ∧
  R (.bool (decide (x108_9 ≥ b))) w20) ∧
  (decide (x102_9 ≤ (0 : Int)) = false →
  R (.bool false) w20)) ∧
  (decide (b < (0 : Int)) = false →
  R (.bool false) w20))) ∧
  (decide (x86_3 ≥ (0 : Int)) = false →
  (decide (b < (0 : Int)) = true →
  (0 ≤ (0 : Int) ∧ (0 : Int) < ((x68N_3 : Nat) : Int)) ∧ someV x68A_3 fun p_28 =>
  ∃ (x102_10 : Int), w20.cell? p_28 = some (.int .i64 x102_10) ∧
  (decide (x102_10 ≤ (0 : Int)) = true →
  (0 ≤ (0 : Int) ∧ (0 : Int) < ((x68N_3 : Nat) : Int)) ∧ someV x68A_3 fun p_29 =>
  ∃ (x108_10 : Int), w20.cell? p_29 = some (.int .i64 x108_10) ∧
  R (.bool (decide (x108_10 ≥ b))) w20) ∧
  (decide (x102_10 ≤ (0 : Int)) = false →
  R (.bool false) w20)) ∧
  (decide (b < (0 : Int)) = false →
  R (.bool false) w20))) ∧
  (decide (b ≥ (0 : Int)) = false →
  (decide (b < (0 : Int)) = true →
  (0 ≤ (0 : Int) ∧ (0 : Int) < ((x68N_3 : Nat) : Int)) ∧ someV x68A_3 fun p_30 =>
  ∃ (x102_11 : Int), w20.cell? p_30 = some (.int .i64 x102_11) ∧
  (decide (x102_11 ≤ (0 : Int)) = true →
  (0 ≤ (0 : Int) ∧ (0 : Int) < ((x68N_3 : Nat) : Int)) ∧ someV x68A_3 fun p_31 =>
  ∃ (x108_11 : Int), w20.cell? p_31 = some (.int .i64 x108_11) ∧
  R (.bool (decide (x108_11 ≥ b))) w20) ∧
  (decide (x102_11 ≤ (0 : Int)) = false →
  R (.bool false) w20)) ∧
  (decide (b < (0 : Int)) = false →
  R (.bool false) w20))) ∧
  ((((x68N_3 : Nat) : Int) == (1 : Int)) = false →
  R (.bool false) w20)) ∧
  (decide (x63_3 ≤ (256 : Int)) = false →
  R (.bool false) w20)) ∧
  (decide (x63_3 ≥ (0 : Int)) = false →
  R (.bool false) w20))))))))) ∧
  (decide (va < b) = false →
  (decide (va ≥ (0 : Int)) = true →
  (decide (x25 < (0 : Int)) = true →
  R (.bool false) w2) ∧
  (decide (x25 < (0 : Int)) = false →
  (decide (x25 > va) = true →
  R (.bool false) w2) ∧
  (decide (x25 > va) = false →
  (decide (va < (0 : Int)) = true →
  (decide (x25 > (0 : Int)) = true →
  R (.bool false) w2) ∧
  (decide (x25 > (0 : Int)) = false →
  (decide (x25 < va) = true →
  R (.bool false) w2) ∧
  (decide (x25 < va) = false →
  Calls Try.prog 26 #[(.int .i64 va)] w2 (Ret fun v_12 w21 => ∃ (x63_4 : Int), v_12 = (.int .i64 x63_4) ∧
  ∀ w22 : World, w22 = w21.alloc (.cells #[(.int .i64 va)] 3 (0, 0)) →
  ∀ w23 : World, w23 = w22.alloc (.cells #[(.int .i64 b)] 3 (0, 0)) →
  Calls Try.prog 27 #[(.slice (some (⟨w21.heap.size, 0, none⟩ : Addr)) 1 1), (.slice (some (⟨w22.heap.size, 0, none⟩ : Addr)) 1 1)] w23 (Ret fun v_13 w24 => ∃ (x68A_4 : Option Addr), ∃ (x68N_4 : Nat), ∃ (x68C_4 : Nat), v_13 = (.slice x68A_4 x68N_4 x68C_4) ∧
  (decide (x63_4 ≥ (0 : Int)) = true →
  (decide (x63_4 ≤ (256 : Int)) = true →
  ((((x68N_4 : Nat) : Int) == (1 : Int)) = true →
  (decide (b ≥ (0 : Int)) = true →
  (0 ≤ (0 : Int) ∧ (0 : Int) < ((x68N_4 : Nat) : Int)) ∧ someV x68A_4 fun p_32 =>
  ∃ (x86_4 : Int), w24.cell? p_32 = some (.int .i64 x86_4) ∧
  (decide (x86_4 ≥ (0 : Int)) = true →
  (0 ≤ (0 : Int) ∧ (0 : Int) < ((x68N_4 : Nat) : Int)) ∧ someV x68A_4 fun p_33 =>
  ∃ (x92_4 : Int), w24.cell? p_33 = some (.int .i64 x92_4) ∧
  (decide (x92_4 ≤ b) = true →
  R (.bool true) w24) ∧
  (decide (x92_4 ≤ b) = false →
  (decide (b < (0 : Int)) = true →
  (0 ≤ (0 : Int) ∧ (0 : Int) < ((x68N_4 : Nat) : Int)) ∧ someV x68A_4 fun p_34 =>
  ∃ (x102_12 : Int), w24.cell? p_34 = some (.int .i64 x102_12) ∧
  (decide (x102_12 ≤ (0 : Int)) = true →
  (0 ≤ (0 : Int) ∧ (0 : Int) < ((x68N_4 : Nat) : Int)) ∧ someV x68A_4 fun p_35 =>
  ∃ (x108_12 : Int), w24.cell? p_35 = some (.int .i64 x108_12) ∧
  R (.bool (decide (x108_12 ≥ b))) w24) ∧
  (decide (x102_12 ≤ (0 : Int)) = false →
  R (.bool false) w24)) ∧
  (decide (b < (0 : Int)) = false →
  R (.bool false) w24))) ∧
  (decide (x86_4 ≥ (0 : Int)) = false →
  (decide (b < (0 : Int)) = true →
  (0 ≤ (0 : Int) ∧ (0 : Int) < ((x68N_4 : Nat) : Int)) ∧ someV x68A_4 fun p_36 =>
  ∃ (x102_13 : Int), w24.cell? p_36 = some (.int .i64 x102_13) ∧
  (decide (x102_13 ≤ (0 : Int)) = true →
  (0 ≤ (0 : Int) ∧ (0 : Int) < ((x68N_4 : Nat) : Int)) ∧ someV x68A_4 fun p_37 =>
  ∃ (x108_13 : Int), w24.cell? p_37 = some (.int .i64 x108_13) ∧
  R (.bool (decide (x108_13 ≥ b))) w24) ∧
  (decide (x102_13 ≤ (0 : Int)) = false →
  R (.bool false) w24)) ∧
  (decide (b < (0 : Int)) = false →
  R (.bool false) w24))) ∧
  (decide (b ≥ (0 : Int)) = false →
  (decide (b < (0 : Int)) = true →
  (0 ≤ (0 : Int) ∧ (0 : Int) < ((x68N_4 : Nat) : Int)) ∧ someV x68A_4 fun p_38 =>
  ∃ (x102_14 : Int), w24.cell? p_38 = some (.int .i64 x102_14) ∧
  (decide (x102_14 ≤ (0 : Int)) = true →
  (0 ≤ (0 : Int) ∧ (0 : Int) < ((x68N_4 : Nat) : Int)) ∧ someV x68A_4 fun p_39 =>
  ∃ (x108_14 : Int), w24.cell? p_39 = some (.int .i64 x108_14) ∧
  R (.bool (decide (x108_14 ≥ b))) w24) ∧
  (decide (x102_14 ≤ (0 : Int)) = false →
  R (.bool false) w24)) ∧
  (decide (b < (0 : Int)) = false →
  R (.bool false) w24))) ∧
  ((((x68N_4 : Nat) : Int) == (1 : Int)) = false →
  R (.bool false) w24)) ∧
  (decide (x63_4 ≤ (256 : Int)) = false →
  R (.bool false) w24)) ∧
  (decide (x63_4 ≥ (0 : Int)) = false →
  R (.bool false) w24)))))) ∧
  (decide (va < (0 : Int)) = false →
  Calls Try.prog 26 #[(.int .i64 va)] w2 (Ret fun v_14 w25 => ∃ (x63_5 : Int), v_14 = (.int .i64 x63_5) ∧
  ∀ w26 : World, w26 = w25.alloc (.cells #[(.int .i64 va)] 3 (0, 0)) →
  ∀ w27 : World, w27 = w26.alloc (.cells #[(.int .i64 b)] 3 (0, 0)) →
  Calls Try.prog 27 #[(.slice (some (⟨w25.heap.size, 0, none⟩ : Addr)) 1 1), (.slice (some (⟨w26.heap.size, 0, none⟩ : Addr)) 1 1)] w27 (Ret fun v_15 w28 => ∃ (x68A_5 : Option Addr), ∃ (x68N_5 : Nat), ∃ (x68C_5 : Nat), v_15 = (.slice x68A_5 x68N_5 x68C_5) ∧
  (decide (x63_5 ≥ (0 : Int)) = true →
  (decide (x63_5 ≤ (256 : Int)) = true →
  ((((x68N_5 : Nat) : Int) == (1 : Int)) = true →
  (decide (b ≥ (0 : Int)) = true →
  (0 ≤ (0 : Int) ∧ (0 : Int) < ((x68N_5 : Nat) : Int)) ∧ someV x68A_5 fun p_40 =>
  ∃ (x86_5 : Int), w28.cell? p_40 = some (.int .i64 x86_5) ∧
  (decide (x86_5 ≥ (0 : Int)) = true →
  (0 ≤ (0 : Int) ∧ (0 : Int) < ((x68N_5 : Nat) : Int)) ∧ someV x68A_5 fun p_41 =>
  ∃ (x92_5 : Int), w28.cell? p_41 = some (.int .i64 x92_5) ∧
  (decide (x92_5 ≤ b) = true →
  R (.bool true) w28) ∧
  (decide (x92_5 ≤ b) = false →
  (decide (b < (0 : Int)) = true →
  (0 ≤ (0 : Int) ∧ (0 : Int) < ((x68N_5 : Nat) : Int)) ∧ someV x68A_5 fun p_42 =>
  ∃ (x102_15 : Int), w28.cell? p_42 = some (.int .i64 x102_15) ∧
  (decide (x102_15 ≤ (0 : Int)) = true →
  (0 ≤ (0 : Int) ∧ (0 : Int) < ((x68N_5 : Nat) : Int)) ∧ someV x68A_5 fun p_43 =>
  ∃ (x108_15 : Int), w28.cell? p_43 = some (.int .i64 x108_15) ∧
  R (.bool (decide (x108_15 ≥ b))) w28) ∧
  (decide (x102_15 ≤ (0 : Int)) = false →
  R (.bool false) w28)) ∧
  (decide (b < (0 : Int)) = false →
  R (.bool false) w28))) ∧
  (decide (x86_5 ≥ (0 : Int)) = false →
  (decide (b < (0 : Int)) = true →
  (0 ≤ (0 : Int) ∧ (0 : Int) < ((x68N_5 : Nat) : Int)) ∧ someV x68A_5 fun p_44 =>
  ∃ (x102_16 : Int), w28.cell? p_44 = some (.int .i64 x102_16) ∧
  (decide (x102_16 ≤ (0 : Int)) = true →
  (0 ≤ (0 : Int) ∧ (0 : Int) < ((x68N_5 : Nat) : Int)) ∧ someV x68A_5 fun p_45 =>
  ∃ (x108_16 : Int), w28.cell? p_45 = some (.int .i64 x108_16) ∧
  R (.bool (decide (x108_16 ≥ b))) w28) ∧
  (decide (x102_16 ≤ (0 : Int)) = false →
  R (.bool false) w28)) ∧
  (decide (b < (0 : Int)) = false →
  R (.bool false) w28))) ∧
  (decide (b ≥ (0 : Int)) = false →
  (decide (b < (0 : Int)) = true →
  (0 ≤ (0 : Int) ∧ (0 : Int) < ((x68N_5 : Nat) : Int)) ∧ someV x68A_5 fun p_46 =>
  ∃ (x102_17 : Int), w28.cell? p_46 = some (.int .i64 x102_17) ∧
  (decide (x102_17 ≤ (0 : Int)) = true →
  (0 ≤ (0 : Int) ∧ (0 : Int) < ((x68N_5 : Nat) : Int)) ∧ someV x68A_5 fun p_47 =>
  ∃ (x108_17 : Int), w28.cell? p_47 = some (.int .i64 x108_17) ∧
  R (.bool (decide (x108_17 ≥ b))) w28) ∧
  (decide (x102_17 ≤ (0 : Int)) = false →
  R (.bool false) w28)) ∧
  (decide (b < (0 : Int)) = false →
  R (.bool false) w28))) ∧
  ((((x68N_5 : Nat) : Int) == (1 : Int)) = false →
  R (.bool false) w28)) ∧
  (decide (x63_5 ≤ (256 : Int)) = false →
  R (.bool false) w28)) ∧
  (decide (x63_5 ≥ (0 : Int)) = false →
  R (.bool false) w28))))))) ∧
  (decide (va ≥ (0 : Int)) = false →
  (decide (va < (0 : Int)) = true →
  (decide (x25 > (0 : Int)) = true →
  R (.bool false) w2) ∧
  (decide (x25 > (0 : Int)) = false →
  (decide (x25 < va) = true →
  R (.bool false) w2) ∧
  (decide (x25 < va) = false →
  Calls Try.prog 26 #[(.int .i64 va)] w2 (Ret fun v_16 w29 => ∃ (x63_6 : Int), v_16 = (.int .i64 x63_6) ∧
  ∀ w30 : World, w30 = w29.alloc (.cells #[(.int .i64 va)] 3 (0, 0)) →
  ∀ w31 : World, w31 = w30.alloc (.cells #[(.int .i64 b)] 3 (0, 0)) →
  Calls Try.prog 27 #[(.slice (some (⟨w29.heap.size, 0, none⟩ : Addr)) 1 1), (.slice (some (⟨w30.heap.size, 0, none⟩ : Addr)) 1 1)] w31 (Ret fun v_17 w32 => ∃ (x68A_6 : Option Addr), ∃ (x68N_6 : Nat), ∃ (x68C_6 : Nat), v_17 = (.slice x68A_6 x68N_6 x68C_6) ∧
  (decide (x63_6 ≥ (0 : Int)) = true →
  (decide (x63_6 ≤ (256 : Int)) = true →
  ((((x68N_6 : Nat) : Int) == (1 : Int)) = true →
  (decide (b ≥ (0 : Int)) = true →
  (0 ≤ (0 : Int) ∧ (0 : Int) < ((x68N_6 : Nat) : Int)) ∧ someV x68A_6 fun p_48 =>
  ∃ (x86_6 : Int), w32.cell? p_48 = some (.int .i64 x86_6) ∧
  (decide (x86_6 ≥ (0 : Int)) = true →
  (0 ≤ (0 : Int) ∧ (0 : Int) < ((x68N_6 : Nat) : Int)) ∧ someV x68A_6 fun p_49 =>
  ∃ (x92_6 : Int), w32.cell? p_49 = some (.int .i64 x92_6) ∧
  (decide (x92_6 ≤ b) = true →
  R (.bool true) w32) ∧
  (decide (x92_6 ≤ b) = false →
  (decide (b < (0 : Int)) = true →
  (0 ≤ (0 : Int) ∧ (0 : Int) < ((x68N_6 : Nat) : Int)) ∧ someV x68A_6 fun p_50 =>
  ∃ (x102_18 : Int), w32.cell? p_50 = some (.int .i64 x102_18) ∧
  (decide (x102_18 ≤ (0 : Int)) = true →
  (0 ≤ (0 : Int) ∧ (0 : Int) < ((x68N_6 : Nat) : Int)) ∧ someV x68A_6 fun p_51 =>
  ∃ (x108_18 : Int), w32.cell? p_51 = some (.int .i64 x108_18) ∧
  R (.bool (decide (x108_18 ≥ b))) w32) ∧
  (decide (x102_18 ≤ (0 : Int)) = false →
  R (.bool false) w32)) ∧
  (decide (b < (0 : Int)) = false →
  R (.bool false) w32))) ∧
  (decide (x86_6 ≥ (0 : Int)) = false →
  (decide (b < (0 : Int)) = true →
  (0 ≤ (0 : Int) ∧ (0 : Int) < ((x68N_6 : Nat) : Int)) ∧ someV x68A_6 fun p_52 =>
  ∃ (x102_19 : Int), w32.cell? p_52 = some (.int .i64 x102_19) ∧
  (decide (x102_19 ≤ (0 : Int)) = true →
  (0 ≤ (0 : Int) ∧ (0 : Int) < ((x68N_6 : Nat) : Int)) ∧ someV x68A_6 fun p_53 =>
  ∃ (x108_19 : Int), w32.cell? p_53 = some (.int .i64 x108_19) ∧
  R (.bool (decide (x108_19 ≥ b))) w32) ∧
  (decide (x102_19 ≤ (0 : Int)) = false →
  R (.bool false) w32)) ∧
  (decide (b < (0 : Int)) = false →
  R (.bool false) w32))) ∧
  (decide (b ≥ (0 : Int)) = false →
  (decide (b < (0 : Int)) = true →
  (0 ≤ (0 : Int) ∧ (0 : Int) < ((x68N_6 : Nat) : Int)) ∧ someV x68A_6 fun p_54 =>
  ∃ (x102_20 : Int), w32.cell? p_54 = some (.int .i64 x102_20) ∧
  (decide (x102_20 ≤ (0 : Int)) = true →
  (0 ≤ (0 : Int) ∧ (0 : Int) < ((x68N_6 : Nat) : Int)) ∧ someV x68A_6 fun p_55 =>
  ∃ (x108_20 : Int), w32.cell? p_55 = some (.int .i64 x108_20) ∧
  R (.bool (decide (x108_20 ≥ b))) w32) ∧
  (decide (x102_20 ≤ (0 : Int)) = false →
  R (.bool false) w32)) ∧
  (decide (b < (0 : Int)) = false →
  R (.bool false) w32))) ∧
  ((((x68N_6 : Nat) : Int) == (1 : Int)) = false →
  R (.bool false) w32)) ∧
  (decide (x63_6 ≤ (256 : Int)) = false →
  R (.bool false) w32)) ∧
  (decide (x63_6 ≥ (0 : Int)) = false →
  R (.bool false) w32)))))) ∧
  (decide (va < (0 : Int)) = false →
  Calls Try.prog 26 #[(.int .i64 va)] w2 (Ret fun v_18 w33 => ∃ (x63_7 : Int), v_18 = (.int .i64 x63_7) ∧
  ∀ w34 : World, w34 = w33.alloc (.cells #[(.int .i64 va)] 3 (0, 0)) →
  ∀ w35 : World, w35 = w34.alloc (.cells #[(.int .i64 b)] 3 (0, 0)) →
  Calls Try.prog 27 #[(.slice (some (⟨w33.heap.size, 0, none⟩ : Addr)) 1 1), (.slice (some (⟨w34.heap.size, 0, none⟩ : Addr)) 1 1)] w35 (Ret fun v_19 w36 => ∃ (x68A_7 : Option Addr), ∃ (x68N_7 : Nat), ∃ (x68C_7 : Nat), v_19 = (.slice x68A_7 x68N_7 x68C_7) ∧
  (decide (x63_7 ≥ (0 : Int)) = true →
  (decide (x63_7 ≤ (256 : Int)) = true →
  ((((x68N_7 : Nat) : Int) == (1 : Int)) = true →
  (decide (b ≥ (0 : Int)) = true →
  (0 ≤ (0 : Int) ∧ (0 : Int) < ((x68N_7 : Nat) : Int)) ∧ someV x68A_7 fun p_56 =>
  ∃ (x86_7 : Int), w36.cell? p_56 = some (.int .i64 x86_7) ∧
  (decide (x86_7 ≥ (0 : Int)) = true →
  (0 ≤ (0 : Int) ∧ (0 : Int) < ((x68N_7 : Nat) : Int)) ∧ someV x68A_7 fun p_57 =>
  ∃ (x92_7 : Int), w36.cell? p_57 = some (.int .i64 x92_7) ∧
  (decide (x92_7 ≤ b) = true →
  R (.bool true) w36) ∧
  (decide (x92_7 ≤ b) = false →
  (decide (b < (0 : Int)) = true →
  (0 ≤ (0 : Int) ∧ (0 : Int) < ((x68N_7 : Nat) : Int)) ∧ someV x68A_7 fun p_58 =>
  ∃ (x102_21 : Int), w36.cell? p_58 = some (.int .i64 x102_21) ∧
  (decide (x102_21 ≤ (0 : Int)) = true →
  (0 ≤ (0 : Int) ∧ (0 : Int) < ((x68N_7 : Nat) : Int)) ∧ someV x68A_7 fun p_59 =>
  ∃ (x108_21 : Int), w36.cell? p_59 = some (.int .i64 x108_21) ∧
  R (.bool (decide (x108_21 ≥ b))) w36) ∧
  (decide (x102_21 ≤ (0 : Int)) = false →
  R (.bool false) w36)) ∧
  (decide (b < (0 : Int)) = false →
  R (.bool false) w36))) ∧
  (decide (x86_7 ≥ (0 : Int)) = false →
  (decide (b < (0 : Int)) = true →
  (0 ≤ (0 : Int) ∧ (0 : Int) < ((x68N_7 : Nat) : Int)) ∧ someV x68A_7 fun p_60 =>
  ∃ (x102_22 : Int), w36.cell? p_60 = some (.int .i64 x102_22) ∧
  (decide (x102_22 ≤ (0 : Int)) = true →
  (0 ≤ (0 : Int) ∧ (0 : Int) < ((x68N_7 : Nat) : Int)) ∧ someV x68A_7 fun p_61 =>
  ∃ (x108_22 : Int), w36.cell? p_61 = some (.int .i64 x108_22) ∧
  R (.bool (decide (x108_22 ≥ b))) w36) ∧
  (decide (x102_22 ≤ (0 : Int)) = false →
  R (.bool false) w36)) ∧
  (decide (b < (0 : Int)) = false →
  R (.bool false) w36))) ∧
  (decide (b ≥ (0 : Int)) = false →
  (decide (b < (0 : Int)) = true →
  (0 ≤ (0 : Int) ∧ (0 : Int) < ((x68N_7 : Nat) : Int)) ∧ someV x68A_7 fun p_62 =>
  ∃ (x102_23 : Int), w36.cell? p_62 = some (.int .i64 x102_23) ∧
  (decide (x102_23 ≤ (0 : Int)) = true →
  (0 ≤ (0 : Int) ∧ (0 : Int) < ((x68N_7 : Nat) : Int)) ∧ someV x68A_7 fun p_63 =>
  ∃ (x108_23 : Int), w36.cell? p_63 = some (.int .i64 x108_23) ∧
  R (.bool (decide (x108_23 ≥ b))) w36) ∧
  (decide (x102_23 ≤ (0 : Int)) = false →
  R (.bool false) w36)) ∧
  (decide (b < (0 : Int)) = false →
  R (.bool false) w36))) ∧
  ((((x68N_7 : Nat) : Int) == (1 : Int)) = false →
  R (.bool false) w36)) ∧
  (decide (x63_7 ≤ (256 : Int)) = false →
  R (.bool false) w36)) ∧
  (decide (x63_7 ≥ (0 : Int)) = false →
  R (.bool false) w36)))))))))))))
theorem coadjutorlaw14_ActOpens.vc_eq (va : Int) (b : Int) (w : World) (R : Value → World → Prop) : fnV Try.prog Try.f6 (.c .nil (.at_ 3 2 (.k .nil) (.at_ 3 6 (.k .nil) (.at_ 3 10 (.k .nil) (.c .nil (.at_ 6 3 (.at_ 6 10 (.k .nil) (.at_ 6 13 (.at_ 6 16 (.k .nil) (.at_ 6 23 (.k .nil) (.at_ 6 26 (.at_ 6 29 (.k .nil) (.c .nil (.at_ 10 2 (.at_ 10 6 (.at_ 10 11 (.at_ 10 14 (.at_ 10 20 (.at_ 10 27 .nil (.at_ 10 30 (.at_ 10 36 .nil .nil) .nil)) (.at_ 10 30 (.at_ 10 36 .nil .nil) .nil)) (.at_ 10 30 (.at_ 10 36 .nil .nil) .nil)) .nil) .nil) .nil))) (.k (.at_ 10 2 (.at_ 10 6 (.at_ 10 11 (.at_ 10 14 (.at_ 10 20 (.at_ 10 27 .nil (.at_ 10 30 (.at_ 10 36 .nil .nil) .nil)) (.at_ 10 30 (.at_ 10 36 .nil .nil) .nil)) (.at_ 10 30 (.at_ 10 36 .nil .nil) .nil)) .nil) .nil) .nil))))) (.at_ 6 26 (.at_ 6 29 (.k .nil) (.c .nil (.at_ 10 2 (.at_ 10 6 (.at_ 10 11 (.at_ 10 14 (.at_ 10 20 (.at_ 10 27 .nil (.at_ 10 30 (.at_ 10 36 .nil .nil) .nil)) (.at_ 10 30 (.at_ 10 36 .nil .nil) .nil)) (.at_ 10 30 (.at_ 10 36 .nil .nil) .nil)) .nil) .nil) .nil))) (.k (.at_ 10 2 (.at_ 10 6 (.at_ 10 11 (.at_ 10 14 (.at_ 10 20 (.at_ 10 27 .nil (.at_ 10 30 (.at_ 10 36 .nil .nil) .nil)) (.at_ 10 30 (.at_ 10 36 .nil .nil) .nil)) (.at_ 10 30 (.at_ 10 36 .nil .nil) .nil)) .nil) .nil) .nil))))) (.at_ 6 13 (.at_ 6 16 (.k .nil) (.at_ 6 23 (.k .nil) (.at_ 6 26 (.at_ 6 29 (.k .nil) (.c .nil (.at_ 10 2 (.at_ 10 6 (.at_ 10 11 (.at_ 10 14 (.at_ 10 20 (.at_ 10 27 .nil (.at_ 10 30 (.at_ 10 36 .nil .nil) .nil)) (.at_ 10 30 (.at_ 10 36 .nil .nil) .nil)) (.at_ 10 30 (.at_ 10 36 .nil .nil) .nil)) .nil) .nil) .nil))) (.k (.at_ 10 2 (.at_ 10 6 (.at_ 10 11 (.at_ 10 14 (.at_ 10 20 (.at_ 10 27 .nil (.at_ 10 30 (.at_ 10 36 .nil .nil) .nil)) (.at_ 10 30 (.at_ 10 36 .nil .nil) .nil)) (.at_ 10 30 (.at_ 10 36 .nil .nil) .nil)) .nil) .nil) .nil))))) (.at_ 6 26 (.at_ 6 29 (.k .nil) (.c .nil (.at_ 10 2 (.at_ 10 6 (.at_ 10 11 (.at_ 10 14 (.at_ 10 20 (.at_ 10 27 .nil (.at_ 10 30 (.at_ 10 36 .nil .nil) .nil)) (.at_ 10 30 (.at_ 10 36 .nil .nil) .nil)) (.at_ 10 30 (.at_ 10 36 .nil .nil) .nil)) .nil) .nil) .nil))) (.k (.at_ 10 2 (.at_ 10 6 (.at_ 10 11 (.at_ 10 14 (.at_ 10 20 (.at_ 10 27 .nil (.at_ 10 30 (.at_ 10 36 .nil .nil) .nil)) (.at_ 10 30 (.at_ 10 36 .nil .nil) .nil)) (.at_ 10 30 (.at_ 10 36 .nil .nil) .nil)) .nil) .nil) .nil)))))))))) [(.int .i64 va), (.int .i64 b)] w R = coadjutorlaw14_ActOpens.vc va b w R := by kernel_rfl
theorem coadjutorlaw14_ActOpens.calls (va : Int) (b : Int) {w : World} {R : Value → World → Prop} (h : coadjutorlaw14_ActOpens.vc va b w R) : Calls Try.prog 6 #[(.int .i64 va), (.int .i64 b)] w (Ret R) :=
  calls_V fit Try.func6 (.c .nil (.at_ 3 2 (.k .nil) (.at_ 3 6 (.k .nil) (.at_ 3 10 (.k .nil) (.c .nil (.at_ 6 3 (.at_ 6 10 (.k .nil) (.at_ 6 13 (.at_ 6 16 (.k .nil) (.at_ 6 23 (.k .nil) (.at_ 6 26 (.at_ 6 29 (.k .nil) (.c .nil (.at_ 10 2 (.at_ 10 6 (.at_ 10 11 (.at_ 10 14 (.at_ 10 20 (.at_ 10 27 .nil (.at_ 10 30 (.at_ 10 36 .nil .nil) .nil)) (.at_ 10 30 (.at_ 10 36 .nil .nil) .nil)) (.at_ 10 30 (.at_ 10 36 .nil .nil) .nil)) .nil) .nil) .nil))) (.k (.at_ 10 2 (.at_ 10 6 (.at_ 10 11 (.at_ 10 14 (.at_ 10 20 (.at_ 10 27 .nil (.at_ 10 30 (.at_ 10 36 .nil .nil) .nil)) (.at_ 10 30 (.at_ 10 36 .nil .nil) .nil)) (.at_ 10 30 (.at_ 10 36 .nil .nil) .nil)) .nil) .nil) .nil))))) (.at_ 6 26 (.at_ 6 29 (.k .nil) (.c .nil (.at_ 10 2 (.at_ 10 6 (.at_ 10 11 (.at_ 10 14 (.at_ 10 20 (.at_ 10 27 .nil (.at_ 10 30 (.at_ 10 36 .nil .nil) .nil)) (.at_ 10 30 (.at_ 10 36 .nil .nil) .nil)) (.at_ 10 30 (.at_ 10 36 .nil .nil) .nil)) .nil) .nil) .nil))) (.k (.at_ 10 2 (.at_ 10 6 (.at_ 10 11 (.at_ 10 14 (.at_ 10 20 (.at_ 10 27 .nil (.at_ 10 30 (.at_ 10 36 .nil .nil) .nil)) (.at_ 10 30 (.at_ 10 36 .nil .nil) .nil)) (.at_ 10 30 (.at_ 10 36 .nil .nil) .nil)) .nil) .nil) .nil))))) (.at_ 6 13 (.at_ 6 16 (.k .nil) (.at_ 6 23 (.k .nil) (.at_ 6 26 (.at_ 6 29 (.k .nil) (.c .nil (.at_ 10 2 (.at_ 10 6 (.at_ 10 11 (.at_ 10 14 (.at_ 10 20 (.at_ 10 27 .nil (.at_ 10 30 (.at_ 10 36 .nil .nil) .nil)) (.at_ 10 30 (.at_ 10 36 .nil .nil) .nil)) (.at_ 10 30 (.at_ 10 36 .nil .nil) .nil)) .nil) .nil) .nil))) (.k (.at_ 10 2 (.at_ 10 6 (.at_ 10 11 (.at_ 10 14 (.at_ 10 20 (.at_ 10 27 .nil (.at_ 10 30 (.at_ 10 36 .nil .nil) .nil)) (.at_ 10 30 (.at_ 10 36 .nil .nil) .nil)) (.at_ 10 30 (.at_ 10 36 .nil .nil) .nil)) .nil) .nil) .nil))))) (.at_ 6 26 (.at_ 6 29 (.k .nil) (.c .nil (.at_ 10 2 (.at_ 10 6 (.at_ 10 11 (.at_ 10 14 (.at_ 10 20 (.at_ 10 27 .nil (.at_ 10 30 (.at_ 10 36 .nil .nil) .nil)) (.at_ 10 30 (.at_ 10 36 .nil .nil) .nil)) (.at_ 10 30 (.at_ 10 36 .nil .nil) .nil)) .nil) .nil) .nil))) (.k (.at_ 10 2 (.at_ 10 6 (.at_ 10 11 (.at_ 10 14 (.at_ 10 20 (.at_ 10 27 .nil (.at_ 10 30 (.at_ 10 36 .nil .nil) .nil)) (.at_ 10 30 (.at_ 10 36 .nil .nil) .nil)) (.at_ 10 30 (.at_ 10 36 .nil .nil) .nil)) .nil) .nil) .nil)))))))))) (by rw [show (#[(.int .i64 va), (.int .i64 b)] : Array Value).toList = [(.int .i64 va), (.int .i64 b)] from rfl, coadjutorlaw14_ActOpens.vc_eq]; exact h)
/-- function 8 -/
def coadjutorlaw14_ActAll.vc (listA : Option Addr) (listN : Nat) (listC : Nat) (split : Int) (w : World) (R : Value → World → Prop) : Prop :=
  Calls Try.prog 24 #[] w (Ret fun v w1 => ∃ (x9 : Bool), v = (.bool x9) ∧
  ((!x9) = true →
  R (.bool false) w1) ∧
  ((!x9) = false →
  (decide (((listN : Nat) : Int) > (40 : Int)) = true →
  R (.bool true) w1) ∧
  (decide (((listN : Nat) : Int) > (40 : Int)) = false →
  Calls Try.prog 31 #[(.slice listA listN listC)] w1 (Ret fun v_1 w2 => ∃ (x15A : Option Addr), ∃ (x15N : Nat), ∃ (x15C : Nat), v_1 = (.slice x15A x15N x15C) ∧
  Calls Try.prog 27 #[(.slice listA listN listC), (.slice listA listN listC)] w2 (Ret fun v_2 w3 => ∃ (x18A : Option Addr), ∃ (x18N : Nat), ∃ (x18C : Nat), v_2 = (.slice x18A x18N x18C) ∧
  Calls Try.prog 30 #[(.slice x15A x15N x15C), (.slice x18A x18N x18C)] w3 (Ret fun v_3 w4 => ∃ (x21 : Bool), v_3 = (.bool x21) ∧
  ((!x21) = true →
  R (.bool false) w4) ∧
  ((!x21) = false →
  ((((x15N : Nat) : Int) != ((listN : Nat) : Int)) = true →
  R (.bool false) w4) ∧
  ((((x15N : Nat) : Int) != ((listN : Nat) : Int)) = false →
  ∃ vI : Int → Nat → World → Prop, (∃ vk_2 : Nat, vI 0 vk_2 w4) ∧
  ∀ (jk : Nat → Value) (i : Int), ∀ (vk : Nat) (w5 : World), vI i vk w5 →
  (decide (i < ((listN : Nat) : Int)) = true →
  ∃ vS : World → Prop, ∀ w6 : World, w6 = w5.drew → vS w6 ∧
  (0 ≤ i ∧ i < ((x15N : Nat) : Int)) ∧ someV x15A fun p =>
  ∃ (x39 : Int), (∀ w7, vS w7 → w7.cell? (p.add (i.toNat * 1)) = some (.int .i64 x39)) ∧
  (0 ≤ i ∧ i < ((listN : Nat) : Int)) ∧ someV listA fun p_1 =>
  ∃ (x43 : Int), (∀ w8, vS w8 → w8.cell? (p_1.add (i.toNat * 1)) = some (.int .i64 x43)) ∧
  Calls Try.prog 25 #[(.int .i64 x43)] w6 (Ret fun v_4 w9 => ∃ (x44 : Int), v_4 = (.int .i64 x44) ∧
  vS w9 ∧
  ((x39 != x44) = true →
  R (.bool false) w9) ∧
  ((x39 != x44) = false →
  ∃ vk_1 : Nat, vk_1 < vk ∧ vI (IntKind.i64.wrap (i + 1)) vk_1 w9))) ∧
  (decide (i < ((listN : Nat) : Int)) = false →
  (IntKind.u64.wrap (IntKind.i64.wrap (((listN : Nat) : Int) + 1))) ≠ 0 ∧
  ∃ vS_1 : World → Prop, ∀ w10 : World, w10 = w5.drew → vS_1 w10 ∧
  (0 ≤ (IntKind.i64.wrap (Int.tmod (IntKind.u64.wrap split) (IntKind.u64.wrap (IntKind.i64.wrap (((listN : Nat) : Int) + 1))))) ∧ (IntKind.i64.wrap (Int.tmod (IntKind.u64.wrap split) (IntKind.u64.wrap (IntKind.i64.wrap (((listN : Nat) : Int) + 1))))) ≤ ((listC : Nat) : Int)) ∧
  (0 ≤ (IntKind.i64.wrap (Int.tmod (IntKind.u64.wrap split) (IntKind.u64.wrap (IntKind.i64.wrap (((listN : Nat) : Int) + 1))))) ∧ (IntKind.i64.wrap (Int.tmod (IntKind.u64.wrap split) (IntKind.u64.wrap (IntKind.i64.wrap (((listN : Nat) : Int) + 1))))) ≤ ((listN : Nat) : Int)) ∧
  Calls Try.prog 31 #[(.slice (if listC = 0 then listA else listA.map (·.add (0 * 1))) ((IntKind.i64.wrap (Int.tmod (IntKind.u64.wrap split) (IntKind.u64.wrap (IntKind.i64.wrap (((listN : Nat) : Int) + 1))))).toNat - 0) (listC - 0))] w10 (Ret fun v_5 w11 => ∃ (x57A : Option Addr), ∃ (x57N : Nat), ∃ (x57C : Nat), v_5 = (.slice x57A x57N x57C) ∧
  vS_1 w11 ∧
  Calls Try.prog 31 #[(.slice (if listC = (IntKind.i64.wrap (Int.tmod (IntKind.u64.wrap split) (IntKind.u64.wrap (IntKind.i64.wrap (((listN : Nat) : Int) + 1))))).toNat then listA else listA.map (·.add ((IntKind.i64.wrap (Int.tmod (IntKind.u64.wrap split) (IntKind.u64.wrap (IntKind.i64.wrap (((listN : Nat) : Int) + 1))))).toNat * 1))) (listN - (IntKind.i64.wrap (Int.tmod (IntKind.u64.wrap split) (IntKind.u64.wrap (IntKind.i64.wrap (((listN : Nat) : Int) + 1))))).toNat) (listC - (IntKind.i64.wrap (Int.tmod (IntKind.u64.wrap split) (IntKind.u64.wrap (IntKind.i64.wrap (((listN : Nat) : Int) + 1))))).toNat))] w11 (Ret fun v_6 w12 => ∃ (x61A : Option Addr), ∃ (x61N : Nat), ∃ (x61C : Nat), v_6 = (.slice x61A x61N x61C) ∧
  vS_1 w12 ∧
  ∃ (x62A : Option Addr), ∃ (x62N : Nat), ∃ (x62C : Nat), ∃ w13 : World, (Builtin.append_ #[43, 43] 43 #[(.slice x57A x57N x57C), (.slice x61A x61N x61C)]).run Try.prog w12 = .ok (.slice x62A x62N x62C) w13 ∧
  vS_1 w13 ∧
  Calls Try.prog 30 #[(.slice x62A x62N x62C), (.slice x15A x15N x15C)] w13 (Ret fun v_7 w14 => ∃ (x64 : Bool), v_7 = (.bool x64) ∧
  vS_1 w14 ∧
  R (.bool x64) w14))))))))))))
theorem coadjutorlaw14_ActAll.vc_eq (listA : Option Addr) (listN : Nat) (listC : Nat) (split : Int) (w : World) (R : Value → World → Prop) : fnV Try.prog Try.f8 (.c .nil (.c .nil (.at_ 7 4 (.k .nil) (.c .nil (.lp [(4, none), (7, some (.int .i64)), (30, none), (31, none), (32, none), (33, none), (34, none), (35, none), (36, none), (37, none), (38, none), (39, none), (40, none), (41, none), (42, none), (43, none), (44, none), (45, none)] (.c (.tk 0 (.tk 1 (.tk 2 (.tk 3 (.tk 4 (.tk 5 (.tk 6 (.tk 7 (.alt 8 (.tk 9 (.fin (.c .nil .nil))) .nil))))))))) (.tk 0 (.tk 1 (.tk 2 (.tk 4 (.tk 5 (.tk 6 (.tk 9 (.alt 3 (.alt 7 (.alt 8 (.alt 10 (.tk 11 (.fin .nil)) .nil) .nil) .nil) .nil)))))))))))))) [(.slice listA listN listC), (.int .i64 split)] w R = coadjutorlaw14_ActAll.vc listA listN listC split w R := by kernel_rfl
theorem coadjutorlaw14_ActAll.calls (listA : Option Addr) (listN : Nat) (listC : Nat) (split : Int) {w : World} {R : Value → World → Prop} (h : coadjutorlaw14_ActAll.vc listA listN listC split w R) : Calls Try.prog 8 #[(.slice listA listN listC), (.int .i64 split)] w (Ret R) :=
  calls_V fit Try.func8 (.c .nil (.c .nil (.at_ 7 4 (.k .nil) (.c .nil (.lp [(4, none), (7, some (.int .i64)), (30, none), (31, none), (32, none), (33, none), (34, none), (35, none), (36, none), (37, none), (38, none), (39, none), (40, none), (41, none), (42, none), (43, none), (44, none), (45, none)] (.c (.tk 0 (.tk 1 (.tk 2 (.tk 3 (.tk 4 (.tk 5 (.tk 6 (.tk 7 (.alt 8 (.tk 9 (.fin (.c .nil .nil))) .nil))))))))) (.tk 0 (.tk 1 (.tk 2 (.tk 4 (.tk 5 (.tk 6 (.tk 9 (.alt 3 (.alt 7 (.alt 8 (.alt 10 (.tk 11 (.fin .nil)) .nil) .nil) .nil) .nil)))))))))))))) (by rw [show (#[(.slice listA listN listC), (.int .i64 split)] : Array Value).toList = [(.slice listA listN listC), (.int .i64 split)] from rfl, coadjutorlaw14_ActAll.vc_eq]; exact h)
end Go.Proofs.Ytddgcdlljkooiaa.Vc
