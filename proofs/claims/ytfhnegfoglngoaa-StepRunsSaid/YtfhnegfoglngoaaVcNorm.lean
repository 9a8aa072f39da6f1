import Derived.Test.YtfhnegfoglngoaaVc
import Derived.Test.YtfhnegfoglngoaaH
import Derived.Test.YtfhnegfoglngoaaProg
import Derived.KernelRfl
set_option linter.unusedVariables false
set_option maxRecDepth 100000
namespace Go.Proofs.Ytfhnegfoglngoaa.Vc
open Go Go.Proofs Go.Proofs.Ytfhnegfoglngoaa.V
/-- function 91 -/
def norm_Root.vc (rowA : Option Addr) (rowN : Nat) (rowC : Nat) (w : World) (R : Value → World → Prop) : Prop :=
  ∃ vI : Option Addr → Nat → Nat → Int → Nat → World → Prop, (∃ vk_2 : Nat, vI none 0 0 0 vk_2 w) ∧
  ∀ (jk : Nat → Value) (squaresA : Option Addr) (squaresN : Nat) (squaresC : Nat) (x9 : Int), ∀ (vk : Nat) (w1 : World), vI squaresA squaresN squaresC x9 vk w1 →
  (decide (x9 < ((rowN : Nat) : Int)) = true →
  (0 ≤ x9 ∧ x9 < ((rowN : Nat) : Int)) ∧ someV rowA fun p =>
  ∃ (x12 : Int), w1.cell? (p.add (x9.toNat * 1)) = some (.int .i64 x12) ∧
  Calls Try.prog 33 #[(.int .i64 x12)] w1 (Ret fun v w2 => ∃ (x14 : Int), v = (.int .i64 x14) ∧
  ∀ w3 : World, w3 = w2.alloc (.cells #[(.int .i64 (IntKind.i64.wrap (x14 * x14)))] 3 (0, 0)) →
  ∃ (x20A : Option Addr), ∃ (x20N : Nat), ∃ (x20C : Nat), ∃ w4 : World, (Builtin.append_ #[24, 24] 24 #[(.slice squaresA squaresN squaresC), (.slice (some (⟨w2.heap.size, 0, none⟩ : Addr)) 1 1)]).run Try.prog w3 = .ok (.slice x20A x20N x20C) w4 ∧
  ∃ vk_1 : Nat, vk_1 < vk ∧ vI x20A x20N x20C (IntKind.i64.wrap (x9 + 1)) vk_1 w4)) ∧
  (decide (x9 < ((rowN : Nat) : Int)) = false →
  Calls Try.prog 96 #[(.slice squaresA squaresN squaresC)] w1 (Ret fun v_1 w5 => ∃ (x23 : Int), v_1 = (.int .i64 x23) ∧
  Calls Try.prog 95 #[(.int .i64 x23)] w5 (Ret fun v_2 w6 => ∃ (x24 : Int), v_2 = (.int .i64 x24) ∧
  R (.int .i64 (IntKind.i64.wrap (x24 + 1))) w6)))
theorem norm_Root.vc_eq (rowA : Option Addr) (rowN : Nat) (rowC : Nat) (w : World) (R : Value → World → Prop) : fnV Try.prog Try.f91 (.lp [(3, some (.slice)), (5, none), (6, none), (9, some (.int .i64)), (10, none), (11, none), (12, none), (13, none), (14, none), (15, none), (16, none), (17, none), (18, none), (19, none), (20, none), (21, none)] (.c .nil .nil)) [(.slice rowA rowN rowC)] w R = norm_Root.vc rowA rowN rowC w R := by kernel_rfl
theorem norm_Root.calls (rowA : Option Addr) (rowN : Nat) (rowC : Nat) {w : World} {R : Value → World → Prop} (h : norm_Root.vc rowA rowN rowC w R) : Calls Try.prog 91 #[(.slice rowA rowN rowC)] w (Ret R) :=
  calls_V fit Try.func91 (.lp [(3, some (.slice)), (5, none), (6, none), (9, some (.int .i64)), (10, none), (11, none), (12, none), (13, none), (14, none), (15, none), (16, none), (17, none), (18, none), (19, none), (20, none), (21, none)] (.c .nil .nil)) (by rw [show (#[(.slice rowA rowN rowC)] : Array Value).toList = [(.slice rowA rowN rowC)] from rfl, norm_Root.vc_eq]; exact h)
/-- function 79 -/
def norm_Of.vc (gainsA : Option Addr) (gainsN : Nat) (gainsC : Nat) (rowA : Option Addr) (rowN : Nat) (rowC : Nat) (w : World) (R : Value → World → Prop) : Prop :=
  ((((gainsN : Nat) : Int) != ((rowN : Nat) : Int)) = true →
  R (.slice none 0 0) w) ∧
  ((((gainsN : Nat) : Int) != ((rowN : Nat) : Int)) = false →
  Calls Try.prog 91 #[(.slice rowA rowN rowC)] w (Ret fun v w1 => ∃ (x16 : Int), v = (.int .i64 x16) ∧
  ∃ vI : Option Addr → Nat → Nat → Int → Nat → World → Prop, (∃ vk_2 : Nat, vI none 0 0 0 vk_2 w1) ∧
  ∀ (jk : Nat → Value) (outA : Option Addr) (outN : Nat) (outC : Nat) (x19 : Int), ∀ (vk : Nat) (w2 : World), vI outA outN outC x19 vk w2 →
  (decide (x19 < ((rowN : Nat) : Int)) = true →
  (0 ≤ x19 ∧ x19 < ((rowN : Nat) : Int)) ∧ someV rowA fun p =>
  ∃ (x23 : Int), w2.cell? (p.add (x19.toNat * 1)) = some (.int .i64 x23) ∧
  (0 ≤ x19 ∧ x19 < ((gainsN : Nat) : Int)) ∧ someV gainsA fun p_1 =>
  ∃ (x27 : Int), w2.cell? (p_1.add (x19.toNat * 1)) = some (.int .i64 x27) ∧
  Calls Try.prog 56 #[(.int .i64 x27), (.int .i64 (-128)), (.int .i64 127)] w2 (Ret fun v_1 w3 => ∃ (x28 : Int), v_1 = (.int .i64 x28) ∧
  Calls Try.prog 33 #[(.int .i64 x23)] w3 (Ret fun v_2 w4 => ∃ (x32 : Int), v_2 = (.int .i64 x32) ∧
  x16 ≠ 0 ∧
  Calls Try.prog 33 #[(.int .i64 (IntKind.i64.wrap (Int.tdiv (IntKind.i64.wrap (x32 * (IntKind.i64.wrap (64 + x28)))) x16)))] w4 (Ret fun v_3 w5 => ∃ (x37 : Int), v_3 = (.int .i64 x37) ∧
  ∀ w6 : World, w6 = w5.alloc (.cells #[(.int .i64 x37)] 3 (0, 0)) →
  ∃ (x39A : Option Addr), ∃ (x39N : Nat), ∃ (x39C : Nat), ∃ w7 : World, (Builtin.append_ #[24, 24] 24 #[(.slice outA outN outC), (.slice (some (⟨w5.heap.size, 0, none⟩ : Addr)) 1 1)]).run Try.prog w6 = .ok (.slice x39A x39N x39C) w7 ∧
  ∃ vk_1 : Nat, vk_1 < vk ∧ vI x39A x39N x39C (IntKind.i64.wrap (x19 + 1)) vk_1 w7)))) ∧
  (decide (x19 < ((rowN : Nat) : Int)) = false →
  R (.slice outA outN outC) w2)))
theorem norm_Of.vc_eq (gainsA : Option Addr) (gainsN : Nat) (gainsC : Nat) (rowA : Option Addr) (rowN : Nat) (rowC : Nat) (w : World) (R : Value → World → Prop) : fnV Try.prog Try.f79 (.c .nil (.lp [(6, some (.slice)), (7, none), (8, none), (9, none), (19, some (.int .i64)), (20, none), (21, none), (22, none), (23, none), (24, none), (25, none), (26, none), (27, none), (28, none), (29, none), (30, none), (31, none), (32, none), (33, none), (34, none), (35, none), (36, none), (37, none), (38, none), (39, none), (40, none)] (.c .nil .nil))) [(.slice gainsA gainsN gainsC), (.slice rowA rowN rowC)] w R = norm_Of.vc gainsA gainsN gainsC rowA rowN rowC w R := by kernel_rfl
theorem norm_Of.calls (gainsA : Option Addr) (gainsN : Nat) (gainsC : Nat) (rowA : Option Addr) (rowN : Nat) (rowC : Nat) {w : World} {R : Value → World → Prop} (h : norm_Of.vc gainsA gainsN gainsC rowA rowN rowC w R) : Calls Try.prog 79 #[(.slice gainsA gainsN gainsC), (.slice rowA rowN rowC)] w (Ret R) :=
  calls_V fit Try.func79 (.c .nil (.lp [(6, some (.slice)), (7, none), (8, none), (9, none), (19, some (.int .i64)), (20, none), (21, none), (22, none), (23, none), (24, none), (25, none), (26, none), (27, none), (28, none), (29, none), (30, none), (31, none), (32, none), (33, none), (34, none), (35, none), (36, none), (37, none), (38, none), (39, none), (40, none)] (.c .nil .nil))) (by rw [show (#[(.slice gainsA gainsN gainsC), (.slice rowA rowN rowC)] : Array Value).toList = [(.slice gainsA gainsN gainsC), (.slice rowA rowN rowC)] from rfl, norm_Of.vc_eq]; exact h)
end Go.Proofs.Ytfhnegfoglngoaa.Vc
