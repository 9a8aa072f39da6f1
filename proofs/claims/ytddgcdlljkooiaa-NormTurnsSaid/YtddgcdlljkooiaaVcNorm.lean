import Derived.Test.YtddgcdlljkooiaaVc
import Derived.Test.YtddgcdlljkooiaaH
import Derived.Test.YtddgcdlljkooiaaProg
import Derived.KernelRfl
set_option linter.unusedVariables false
set_option maxRecDepth 100000
namespace Go.Proofs.Ytddgcdlljkooiaa.Vc
open Go Go.Proofs Go.Proofs.Ytddgcdlljkooiaa.V
/-- function 44 -/
def norm_Root.vc (rowA : Option Addr) (rowN : Nat) (rowC : Nat) (w : World) (R : Value → World → Prop) : Prop :=
  ∃ vI : Option Addr → Nat → Nat → Int → Nat → World → Prop, (∃ vk_2 : Nat, vI none 0 0 0 vk_2 w) ∧
  ∀ (jk : Nat → Value) (squaresA : Option Addr) (squaresN : Nat) (squaresC : Nat) (x9 : Int), ∀ (vk : Nat) (w1 : World), vI squaresA squaresN squaresC x9 vk w1 →
  (decide (x9 < ((rowN : Nat) : Int)) = true →
  (0 ≤ x9 ∧ x9 < ((rowN : Nat) : Int)) ∧ someV rowA fun p =>
  ∃ (x12 : Int), w1.cell? (p.add (x9.toNat * 1)) = some (.int .i64 x12) ∧
  Calls Try.prog 62 #[(.int .i64 x12)] w1 (Ret fun v w2 => ∃ (x14 : Int), v = (.int .i64 x14) ∧
  ∀ w3 : World, w3 = w2.alloc (.cells #[(.int .i64 (IntKind.i64.wrap (x14 * x14)))] 3 (0, 0)) →
  ∃ (x20A : Option Addr), ∃ (x20N : Nat), ∃ (x20C : Nat), ∃ w4 : World, (Builtin.append_ #[43, 43] 43 #[(.slice squaresA squaresN squaresC), (.slice (some (⟨w2.heap.size, 0, none⟩ : Addr)) 1 1)]).run Try.prog w3 = .ok (.slice x20A x20N x20C) w4 ∧
  ∃ vk_1 : Nat, vk_1 < vk ∧ vI x20A x20N x20C (IntKind.i64.wrap (x9 + 1)) vk_1 w4)) ∧
  (decide (x9 < ((rowN : Nat) : Int)) = false →
  Calls Try.prog 64 #[(.slice squaresA squaresN squaresC)] w1 (Ret fun v_1 w5 => ∃ (x23 : Int), v_1 = (.int .i64 x23) ∧
  Calls Try.prog 63 #[(.int .i64 x23)] w5 (Ret fun v_2 w6 => ∃ (x24 : Int), v_2 = (.int .i64 x24) ∧
  R (.int .i64 (IntKind.i64.wrap (x24 + 1))) w6)))
theorem norm_Root.vc_eq (rowA : Option Addr) (rowN : Nat) (rowC : Nat) (w : World) (R : Value → World → Prop) : fnV Try.prog Try.f44 (.lp [(3, some (.slice)), (5, none), (6, none), (9, some (.int .i64)), (10, none), (11, none), (12, none), (13, none), (14, none), (15, none), (16, none), (17, none), (18, none), (19, none), (20, none), (21, none)] (.c .nil .nil)) [(.slice rowA rowN rowC)] w R = norm_Root.vc rowA rowN rowC w R := by kernel_rfl
theorem norm_Root.calls (rowA : Option Addr) (rowN : Nat) (rowC : Nat) {w : World} {R : Value → World → Prop} (h : norm_Root.vc rowA rowN rowC w R) : Calls Try.prog 44 #[(.slice rowA rowN rowC)] w (Ret R) :=
  calls_V fit Try.func44 (.lp [(3, some (.slice)), (5, none), (6, none), (9, some (.int .i64)), (10, none), (11, none), (12, none), (13, none), (14, none), (15, none), (16, none), (17, none), (18, none), (19, none), (20, none), (21, none)] (.c .nil .nil)) (by rw [show (#[(.slice rowA rowN rowC)] : Array Value).toList = [(.slice rowA rowN rowC)] from rfl, norm_Root.vc_eq]; exact h)
/-- function 47 -/
def norm_Of.vc (gainsA : Option Addr) (gainsN : Nat) (gainsC : Nat) (rowA : Option Addr) (rowN : Nat) (rowC : Nat) (w : World) (R : Value → World → Prop) : Prop :=
  ((((gainsN : Nat) : Int) != ((rowN : Nat) : Int)) = true →
  R (.slice none 0 0) w) ∧
  ((((gainsN : Nat) : Int) != ((rowN : Nat) : Int)) = false →
  Calls Try.prog 44 #[(.slice rowA rowN rowC)] w (Ret fun v w1 => ∃ (x16 : Int), v = (.int .i64 x16) ∧
  ∃ vI : Option Addr → Nat → Nat → Int → Nat → World → Prop, (∃ vk_2 : Nat, vI none 0 0 0 vk_2 w1) ∧
  ∀ (jk : Nat → Value) (outA : Option Addr) (outN : Nat) (outC : Nat) (x19 : Int), ∀ (vk : Nat) (w2 : World), vI outA outN outC x19 vk w2 →
  (decide (x19 < ((rowN : Nat) : Int)) = true →
  (0 ≤ x19 ∧ x19 < ((rowN : Nat) : Int)) ∧ someV rowA fun p =>
  ∃ (x23 : Int), w2.cell? (p.add (x19.toNat * 1)) = some (.int .i64 x23) ∧
  (0 ≤ x19 ∧ x19 < ((gainsN : Nat) : Int)) ∧ someV gainsA fun p_1 =>
  ∃ (x27 : Int), w2.cell? (p_1.add (x19.toNat * 1)) = some (.int .i64 x27) ∧
  Calls Try.prog 53 #[(.int .i64 x27), (.int .i64 (-128)), (.int .i64 127)] w2 (Ret fun v_1 w3 => ∃ (x28 : Int), v_1 = (.int .i64 x28) ∧
  Calls Try.prog 62 #[(.int .i64 x23)] w3 (Ret fun v_2 w4 => ∃ (x32 : Int), v_2 = (.int .i64 x32) ∧
  x16 ≠ 0 ∧
  Calls Try.prog 62 #[(.int .i64 (IntKind.i64.wrap (Int.tdiv (IntKind.i64.wrap (x32 * (IntKind.i64.wrap (64 + x28)))) x16)))] w4 (Ret fun v_3 w5 => ∃ (x37 : Int), v_3 = (.int .i64 x37) ∧
  ∀ w6 : World, w6 = w5.alloc (.cells #[(.int .i64 x37)] 3 (0, 0)) →
  ∃ (x39A : Option Addr), ∃ (x39N : Nat), ∃ (x39C : Nat), ∃ w7 : World, (Builtin.append_ #[43, 43] 43 #[(.slice outA outN outC), (.slice (some (⟨w5.heap.size, 0, none⟩ : Addr)) 1 1)]).run Try.prog w6 = .ok (.slice x39A x39N x39C) w7 ∧
  ∃ vk_1 : Nat, vk_1 < vk ∧ vI x39A x39N x39C (IntKind.i64.wrap (x19 + 1)) vk_1 w7)))) ∧
  (decide (x19 < ((rowN : Nat) : Int)) = false →
  R (.slice outA outN outC) w2)))
theorem norm_Of.vc_eq (gainsA : Option Addr) (gainsN : Nat) (gainsC : Nat) (rowA : Option Addr) (rowN : Nat) (rowC : Nat) (w : World) (R : Value → World → Prop) : fnV Try.prog Try.f47 (.c .nil (.lp [(6, some (.slice)), (7, none), (8, none), (9, none), (19, some (.int .i64)), (20, none), (21, none), (22, none), (23, none), (24, none), (25, none), (26, none), (27, none), (28, none), (29, none), (30, none), (31, none), (32, none), (33, none), (34, none), (35, none), (36, none), (37, none), (38, none), (39, none), (40, none)] (.c .nil .nil))) [(.slice gainsA gainsN gainsC), (.slice rowA rowN rowC)] w R = norm_Of.vc gainsA gainsN gainsC rowA rowN rowC w R := by kernel_rfl
theorem norm_Of.calls (gainsA : Option Addr) (gainsN : Nat) (gainsC : Nat) (rowA : Option Addr) (rowN : Nat) (rowC : Nat) {w : World} {R : Value → World → Prop} (h : norm_Of.vc gainsA gainsN gainsC rowA rowN rowC w R) : Calls Try.prog 47 #[(.slice gainsA gainsN gainsC), (.slice rowA rowN rowC)] w (Ret R) :=
  calls_V fit Try.func47 (.c .nil (.lp [(6, some (.slice)), (7, none), (8, none), (9, none), (19, some (.int .i64)), (20, none), (21, none), (22, none), (23, none), (24, none), (25, none), (26, none), (27, none), (28, none), (29, none), (30, none), (31, none), (32, none), (33, none), (34, none), (35, none), (36, none), (37, none), (38, none), (39, none), (40, none)] (.c .nil .nil))) (by rw [show (#[(.slice gainsA gainsN gainsC), (.slice rowA rowN rowC)] : Array Value).toList = [(.slice gainsA gainsN gainsC), (.slice rowA rowN rowC)] from rfl, norm_Of.vc_eq]; exact h)
/-- function 49 -/
def norm_Plain.vc (rowA : Option Addr) (rowN : Nat) (rowC : Nat) (w : World) (R : Value → World → Prop) : Prop :=
  (((rowN : Nat) : Int) = ((rowN : Nat) : Int) ∧ 0 ≤ ((rowN : Nat) : Int) ∧ ((rowN : Nat) : Int) * (8 : Int) ≤ 140737488355328) ∧ ∀ w1 : World, w1 = w.alloc (.cells (zeroRow [(.int .i64 0)] ((rowN : Nat) : Int).toNat).toArray 3 (0, 0)) →
  Calls Try.prog 47 #[(.slice (some (⟨w.heap.size, 0, none⟩ : Addr)) (((rowN : Nat) : Int).toNat) (((rowN : Nat) : Int).toNat)), (.slice rowA rowN rowC)] w1 (Ret fun v w2 => ∃ (x7A : Option Addr), ∃ (x7N : Nat), ∃ (x7C : Nat), v = (.slice x7A x7N x7C) ∧
  R (.slice x7A x7N x7C) w2)
theorem norm_Plain.vc_eq (rowA : Option Addr) (rowN : Nat) (rowC : Nat) (w : World) (R : Value → World → Prop) : fnV Try.prog Try.f49 .nil [(.slice rowA rowN rowC)] w R = norm_Plain.vc rowA rowN rowC w R := by kernel_rfl
theorem norm_Plain.calls (rowA : Option Addr) (rowN : Nat) (rowC : Nat) {w : World} {R : Value → World → Prop} (h : norm_Plain.vc rowA rowN rowC w R) : Calls Try.prog 49 #[(.slice rowA rowN rowC)] w (Ret R) :=
  calls_V fit Try.func49 .nil (by rw [show (#[(.slice rowA rowN rowC)] : Array Value).toList = [(.slice rowA rowN rowC)] from rfl, norm_Plain.vc_eq]; exact h)
/-- function 45 -/
def coadjutorref13_Root.vc (rowA : Option Addr) (rowN : Nat) (rowC : Nat) (w : World) (R : Value → World → Prop) : Prop :=
  ((((rowN : Nat) : Int) == (0 : Int)) = true →
  R (.int .i64 1) w) ∧
  ((((rowN : Nat) : Int) == (0 : Int)) = false →
  ∃ vI : Int → Int → Nat → World → Prop, (∃ vk_2 : Nat, vI 0 0 vk_2 w) ∧
  ∀ (jk : Nat → Value) (sum : Int) (i : Int), ∀ (vk : Nat) (w1 : World), vI sum i vk w1 →
  (decide (i < ((rowN : Nat) : Int)) = true →
  (0 ≤ i ∧ i < ((rowN : Nat) : Int)) ∧ someV rowA fun p =>
  ∃ (x18 : Int), w1.cell? (p.add (i.toNat * 1)) = some (.int .i64 x18) ∧
  Calls Try.prog 65 #[(.int .i64 x18)] w1 (Ret fun v w2 => ∃ (x19 : Int), v = (.int .i64 x19) ∧
  ∃ vk_1 : Nat, vk_1 < vk ∧ vI (IntKind.i64.wrap (sum + (IntKind.i64.wrap (x19 * x19)))) (IntKind.i64.wrap (i + 1)) vk_1 w2)) ∧
  (decide (i < ((rowN : Nat) : Int)) = false →
  ((rowN : Nat) : Int) ≠ 0 ∧
  Calls Try.prog 66 #[(.int .i64 (IntKind.i64.wrap (Int.tdiv sum ((rowN : Nat) : Int))))] w1 (Ret fun v_1 w3 => ∃ (x29 : Int), v_1 = (.int .i64 x29) ∧
  R (.int .i64 (IntKind.i64.wrap (x29 + 1))) w3)))
theorem coadjutorref13_Root.vc_eq (rowA : Option Addr) (rowN : Nat) (rowC : Nat) (w : World) (R : Value → World → Prop) : fnV Try.prog Try.f45 (.c .nil (.lp [(3, some (.int .i64)), (4, some (.int .i64)), (5, none), (9, none), (10, none), (11, none), (12, none), (13, none), (14, none), (15, none), (16, none), (17, none), (18, none), (19, none), (20, none), (21, none), (22, none), (23, none), (24, none)] (.c .nil .nil))) [(.slice rowA rowN rowC)] w R = coadjutorref13_Root.vc rowA rowN rowC w R := by kernel_rfl
theorem coadjutorref13_Root.calls (rowA : Option Addr) (rowN : Nat) (rowC : Nat) {w : World} {R : Value → World → Prop} (h : coadjutorref13_Root.vc rowA rowN rowC w R) : Calls Try.prog 45 #[(.slice rowA rowN rowC)] w (Ret R) :=
  calls_V fit Try.func45 (.c .nil (.lp [(3, some (.int .i64)), (4, some (.int .i64)), (5, none), (9, none), (10, none), (11, none), (12, none), (13, none), (14, none), (15, none), (16, none), (17, none), (18, none), (19, none), (20, none), (21, none), (22, none), (23, none), (24, none)] (.c .nil .nil))) (by rw [show (#[(.slice rowA rowN rowC)] : Array Value).toList = [(.slice rowA rowN rowC)] from rfl, coadjutorref13_Root.vc_eq]; exact h)
/-- function 48 -/
def coadjutorref13_Of.vc (gainsA : Option Addr) (gainsN : Nat) (gainsC : Nat) (rowA : Option Addr) (rowN : Nat) (rowC : Nat) (w : World) (R : Value → World → Prop) : Prop :=
  ∀ w1 : World, w1 = w.alloc (.cells #[] 3 (0, 0)) →
  ((((gainsN : Nat) : Int) != ((rowN : Nat) : Int)) = true →
  R (.slice (some (⟨w.heap.size, 0, none⟩ : Addr)) 0 0) w1) ∧
  ((((gainsN : Nat) : Int) != ((rowN : Nat) : Int)) = false →
  ∃ vI : Option Addr → Nat → Nat → Int → Nat → World → Prop, (∃ vk_2 : Nat, vI (some (⟨w.heap.size, 0, none⟩ : Addr)) 0 0 0 vk_2 w1) ∧
  ∀ (jk : Nat → Value) (outA : Option Addr) (outN : Nat) (outC : Nat) (i : Int), ∀ (vk : Nat) (w2 : World), vI outA outN outC i vk w2 →
  (decide (i < ((rowN : Nat) : Int)) = true →
  (0 ≤ i ∧ i < ((gainsN : Nat) : Int)) ∧ someV gainsA fun p =>
  ∃ (x24 : Int), w2.cell? (p.add (i.toNat * 1)) = some (.int .i64 x24) ∧
  Calls Try.prog 55 #[(.int .i64 x24), (.int .i64 (-128)), (.int .i64 127)] w2 (Ret fun v w3 => ∃ (x25 : Int), v = (.int .i64 x25) ∧
  (0 ≤ i ∧ i < ((rowN : Nat) : Int)) ∧ someV rowA fun p_1 =>
  ∃ (x31 : Int), w3.cell? (p_1.add (i.toNat * 1)) = some (.int .i64 x31) ∧
  Calls Try.prog 65 #[(.int .i64 x31)] w3 (Ret fun v_1 w4 => ∃ (x32 : Int), v_1 = (.int .i64 x32) ∧
  Calls Try.prog 45 #[(.slice rowA rowN rowC)] w4 (Ret fun v_2 w5 => ∃ (x36 : Int), v_2 = (.int .i64 x36) ∧
  x36 ≠ 0 ∧
  Calls Try.prog 65 #[(.int .i64 (IntKind.i64.wrap (Int.tdiv (IntKind.i64.wrap (x32 * (IntKind.i64.wrap (64 + x25)))) x36)))] w5 (Ret fun v_3 w6 => ∃ (x38 : Int), v_3 = (.int .i64 x38) ∧
  ∀ w7 : World, w7 = w6.alloc (.cells #[(.int .i64 x38)] 3 (0, 0)) →
  ∃ (x40A : Option Addr), ∃ (x40N : Nat), ∃ (x40C : Nat), ∃ w8 : World, (Builtin.append_ #[43, 43] 43 #[(.slice outA outN outC), (.slice (some (⟨w6.heap.size, 0, none⟩ : Addr)) 1 1)]).run Try.prog w7 = .ok (.slice x40A x40N x40C) w8 ∧
  ∃ vk_1 : Nat, vk_1 < vk ∧ vI x40A x40N x40C (IntKind.i64.wrap (i + 1)) vk_1 w8))))) ∧
  (decide (i < ((rowN : Nat) : Int)) = false →
  R (.slice outA outN outC) w2))
theorem coadjutorref13_Of.vc_eq (gainsA : Option Addr) (gainsN : Nat) (gainsC : Nat) (rowA : Option Addr) (rowN : Nat) (rowC : Nat) (w : World) (R : Value → World → Prop) : fnV Try.prog Try.f48 (.c .nil (.lp [(5, some (.slice)), (6, some (.int .i64)), (7, none), (15, none), (16, none), (17, none), (18, none), (19, none), (20, none), (21, none), (22, none), (23, none), (24, none), (25, none), (26, none), (27, none), (28, none), (29, none), (30, none), (31, none), (32, none), (33, none), (34, none), (35, none), (36, none), (37, none), (38, none), (39, none), (40, none)] (.c .nil .nil))) [(.slice gainsA gainsN gainsC), (.slice rowA rowN rowC)] w R = coadjutorref13_Of.vc gainsA gainsN gainsC rowA rowN rowC w R := by kernel_rfl
theorem coadjutorref13_Of.calls (gainsA : Option Addr) (gainsN : Nat) (gainsC : Nat) (rowA : Option Addr) (rowN : Nat) (rowC : Nat) {w : World} {R : Value → World → Prop} (h : coadjutorref13_Of.vc gainsA gainsN gainsC rowA rowN rowC w R) : Calls Try.prog 48 #[(.slice gainsA gainsN gainsC), (.slice rowA rowN rowC)] w (Ret R) :=
  calls_V fit Try.func48 (.c .nil (.lp [(5, some (.slice)), (6, some (.int .i64)), (7, none), (15, none), (16, none), (17, none), (18, none), (19, none), (20, none), (21, none), (22, none), (23, none), (24, none), (25, none), (26, none), (27, none), (28, none), (29, none), (30, none), (31, none), (32, none), (33, none), (34, none), (35, none), (36, none), (37, none), (38, none), (39, none), (40, none)] (.c .nil .nil))) (by rw [show (#[(.slice gainsA gainsN gainsC), (.slice rowA rowN rowC)] : Array Value).toList = [(.slice gainsA gainsN gainsC), (.slice rowA rowN rowC)] from rfl, coadjutorref13_Of.vc_eq]; exact h)
/-- function 46 -/
def coadjutorlaw13_ints.vc (aA : Option Addr) (aN : Nat) (aC : Nat) (bA : Option Addr) (bN : Nat) (bC : Nat) (w : World) (R : Value → World → Prop) : Prop :=
  ((((aN : Nat) : Int) != ((bN : Nat) : Int)) = true →
  R (.bool false) w) ∧
  ((((aN : Nat) : Int) != ((bN : Nat) : Int)) = false →
  ∃ vI : Int → Nat → World → Prop, (∃ vk_2 : Nat, vI 0 vk_2 w) ∧
  ∀ (jk : Nat → Value) (i : Int), ∀ (vk : Nat) (w1 : World), vI i vk w1 →
  (decide (i < ((aN : Nat) : Int)) = true →
  ∃ vS : World → Prop, ∀ w2 : World, w2 = w1.drew → vS w2 ∧
  (0 ≤ i ∧ i < ((aN : Nat) : Int)) ∧ someV aA fun p =>
  ∃ (x20 : Int), (∀ w3, vS w3 → w3.cell? (p.add (i.toNat * 1)) = some (.int .i64 x20)) ∧
  (0 ≤ i ∧ i < ((bN : Nat) : Int)) ∧ someV bA fun p_1 =>
  ∃ (x24 : Int), (∀ w4, vS w4 → w4.cell? (p_1.add (i.toNat * 1)) = some (.int .i64 x24)) ∧
  ((x20 != x24) = true →
  R (.bool false) w2) ∧
  ((x20 != x24) = false →
  ∃ vk_1 : Nat, vk_1 < vk ∧ vI (IntKind.i64.wrap (i + 1)) vk_1 w2)) ∧
  (decide (i < ((aN : Nat) : Int)) = false →
  R (.bool true) w1))
theorem coadjutorlaw13_ints.vc_eq (aA : Option Addr) (aN : Nat) (aC : Nat) (bA : Option Addr) (bN : Nat) (bC : Nat) (w : World) (R : Value → World → Prop) : fnV Try.prog Try.f46 (.c .nil (.lp [(4, none), (5, some (.int .i64)), (11, none), (12, none), (13, none), (14, none), (15, none), (16, none), (17, none), (18, none), (19, none), (20, none), (21, none), (22, none), (23, none), (24, none), (25, none)] (.c (.tk 0 (.tk 1 (.tk 2 (.tk 3 (.tk 4 (.tk 5 (.tk 6 (.tk 7 (.tk 8 (.fin (.c .nil .nil))))))))))) .nil))) [(.slice aA aN aC), (.slice bA bN bC)] w R = coadjutorlaw13_ints.vc aA aN aC bA bN bC w R := by kernel_rfl
theorem coadjutorlaw13_ints.calls (aA : Option Addr) (aN : Nat) (aC : Nat) (bA : Option Addr) (bN : Nat) (bC : Nat) {w : World} {R : Value → World → Prop} (h : coadjutorlaw13_ints.vc aA aN aC bA bN bC w R) : Calls Try.prog 46 #[(.slice aA aN aC), (.slice bA bN bC)] w (Ret R) :=
  calls_V fit Try.func46 (.c .nil (.lp [(4, none), (5, some (.int .i64)), (11, none), (12, none), (13, none), (14, none), (15, none), (16, none), (17, none), (18, none), (19, none), (20, none), (21, none), (22, none), (23, none), (24, none), (25, none)] (.c (.tk 0 (.tk 1 (.tk 2 (.tk 3 (.tk 4 (.tk 5 (.tk 6 (.tk 7 (.tk 8 (.fin (.c .nil .nil))))))))))) .nil))) (by rw [show (#[(.slice aA aN aC), (.slice bA bN bC)] : Array Value).toList = [(.slice aA aN aC), (.slice bA bN bC)] from rfl, coadjutorlaw13_ints.vc_eq]; exact h)
/-- function 43 -/
def coadjutorlaw13_awake.vc (w : World) (R : Value → World → Prop) : Prop :=
  ∀ w1 : World, w1 = w.alloc (.cells #[(.int .i64 0), (.int .i64 0)] 3 (0, 0)) →
  ∀ w2 : World, w2 = w1.alloc (.cells #[(.int .i64 300), (.int .i64 (-300))] 3 (0, 0)) →
  Calls Try.prog 47 #[(.slice (some (⟨w.heap.size, 0, none⟩ : Addr)) 2 2), (.slice (some (⟨w1.heap.size, 0, none⟩ : Addr)) 2 2)] w2 (Ret fun v w3 => ∃ (x3A : Option Addr), ∃ (x3N : Nat), ∃ (x3C : Nat), v = (.slice x3A x3N x3C) ∧
  ∀ w4 : World, w4 = w3.alloc (.cells #[(.int .i64 63), (.int .i64 (-63))] 3 (0, 0)) →
  Calls Try.prog 46 #[(.slice x3A x3N x3C), (.slice (some (⟨w3.heap.size, 0, none⟩ : Addr)) 2 2)] w4 (Ret fun v_1 w5 => ∃ (x5 : Bool), v_1 = (.bool x5) ∧
  (x5 = true →
  Calls Try.prog 44 #[(.slice none 0 0)] w5 (Ret fun v_2 w6 => ∃ (x7 : Int), v_2 = (.int .i64 x7) ∧
  ((x7 == (1 : Int)) = true →
  ∀ w7 : World, w7 = w6.alloc (.cells #[(.int .i64 3), (.int .i64 4)] 3 (0, 0)) →
  Calls Try.prog 44 #[(.slice (some (⟨w6.heap.size, 0, none⟩ : Addr)) 2 2)] w7 (Ret fun v_3 w8 => ∃ (x12 : Int), v_3 = (.int .i64 x12) ∧
  ((x12 == (4 : Int)) = true →
  ∀ w9 : World, w9 = w8.alloc (.cells #[(.int .i64 8)] 3 (0, 0)) →
  Calls Try.prog 49 #[(.slice (some (⟨w8.heap.size, 0, none⟩ : Addr)) 1 1)] w9 (Ret fun v_4 w10 => ∃ (x17A : Option Addr), ∃ (x17N : Nat), ∃ (x17C : Nat), v_4 = (.slice x17A x17N x17C) ∧
  ∀ w11 : World, w11 = w10.alloc (.cells #[(.int .i64 56)] 3 (0, 0)) →
  Calls Try.prog 46 #[(.slice x17A x17N x17C), (.slice (some (⟨w10.heap.size, 0, none⟩ : Addr)) 1 1)] w11 (Ret fun v_5 w12 => ∃ (x19 : Bool), v_5 = (.bool x19) ∧
  R (.bool x19) w12))) ∧
  ((x12 == (4 : Int)) = false →
  R (.bool false) w8))) ∧
  ((x7 == (1 : Int)) = false →
  R (.bool false) w6))) ∧
  (x5 = false →
  R (.bool false) w5)))
theorem coadjutorlaw13_awake.vc_eq (w : World) (R : Value → World → Prop) : fnV Try.prog Try.f43 (.at_ 1 5 (.at_ 1 9 (.at_ 1 14 .nil .nil) .nil) .nil) [] w R = coadjutorlaw13_awake.vc  w R := by kernel_rfl
theorem coadjutorlaw13_awake.calls {w : World} {R : Value → World → Prop} (h : coadjutorlaw13_awake.vc  w R) : Calls Try.prog 43 #[] w (Ret R) :=
  calls_V fit Try.func43 (.at_ 1 5 (.at_ 1 9 (.at_ 1 14 .nil .nil) .nil) .nil) (by rw [show (#[] : Array Value).toList = [] from rfl, coadjutorlaw13_awake.vc_eq]; exact h)
/-- function 12 -/
def coadjutorlaw13_NormExact.vc (gainsA : Option Addr) (gainsN : Nat) (gainsC : Nat) (rowA : Option Addr) (rowN : Nat) (rowC : Nat) (w : World) (R : Value → World → Prop) : Prop :=
  Calls Try.prog 43 #[] w (Ret fun v w1 => ∃ (x6 : Bool), v = (.bool x6) ∧
  ((!x6) = true →
  R (.bool false) w1) ∧
  ((!x6) = false →
  (decide (((rowN : Nat) : Int) > (64 : Int)) = true →
  R (.bool true) w1) ∧
  (decide (((rowN : Nat) : Int) > (64 : Int)) = false →
  (decide (((gainsN : Nat) : Int) > (64 : Int)) = true →
  R (.bool true) w1) ∧
  (decide (((gainsN : Nat) : Int) > (64 : Int)) = false →
  (((rowN : Nat) : Int) = ((rowN : Nat) : Int) ∧ 0 ≤ ((rowN : Nat) : Int) ∧ ((rowN : Nat) : Int) * (8 : Int) ≤ 140737488355328) ∧ ∀ w2 : World, w2 = w1.alloc (.cells (zeroRow [(.int .i64 0)] ((rowN : Nat) : Int).toNat).toArray 3 (0, 0)) →
  Calls Try.prog 44 #[(.slice rowA rowN rowC)] w2 (Ret fun v_1 w3 => ∃ (x20 : Int), v_1 = (.int .i64 x20) ∧
  Calls Try.prog 45 #[(.slice rowA rowN rowC)] w3 (Ret fun v_2 w4 => ∃ (x22 : Int), v_2 = (.int .i64 x22) ∧
  ((x20 == x22) = true →
  Calls Try.prog 47 #[(.slice gainsA gainsN gainsC), (.slice rowA rowN rowC)] w4 (Ret fun v_3 w5 => ∃ (x27A : Option Addr), ∃ (x27N : Nat), ∃ (x27C : Nat), v_3 = (.slice x27A x27N x27C) ∧
  Calls Try.prog 48 #[(.slice gainsA gainsN gainsC), (.slice rowA rowN rowC)] w5 (Ret fun v_4 w6 => ∃ (x30A : Option Addr), ∃ (x30N : Nat), ∃ (x30C : Nat), v_4 = (.slice x30A x30N x30C) ∧
  Calls Try.prog 46 #[(.slice x27A x27N x27C), (.slice x30A x30N x30C)] w6 (Ret fun v_5 w7 => ∃ (x31 : Bool), v_5 = (.bool x31) ∧
  (x31 = true →
  Calls Try.prog 49 #[(.slice rowA rowN rowC)] w7 (Ret fun v_6 w8 => ∃ (x35A : Option Addr), ∃ (x35N : Nat), ∃ (x35C : Nat), v_6 = (.slice x35A x35N x35C) ∧
  Calls Try.prog 48 #[(.slice (some (⟨w1.heap.size, 0, none⟩ : Addr)) (((rowN : Nat) : Int).toNat) (((rowN : Nat) : Int).toNat)), (.slice rowA rowN rowC)] w8 (Ret fun v_7 w9 => ∃ (x38A : Option Addr), ∃ (x38N : Nat), ∃ (x38C : Nat), v_7 = (.slice x38A x38N x38C) ∧
  Calls Try.prog 46 #[(.slice x35A x35N x35C), (.slice x38A x38N x38C)] w9 (Ret fun v_8 w10 => ∃ (x39 : Bool), v_8 = (.bool x39) ∧
  R (.bool x39) w10)))) ∧
  (x31 = false →
  R (.bool false) w7))))) ∧
  ((x20 == x22) = false →
  R (.bool false) w4)))))))
theorem coadjutorlaw13_NormExact.vc_eq (gainsA : Option Addr) (gainsN : Nat) (gainsC : Nat) (rowA : Option Addr) (rowN : Nat) (rowC : Nat) (w : World) (R : Value → World → Prop) : fnV Try.prog Try.f12 (.c .nil (.at_ 3 3 (.k .nil) (.c .nil (.at_ 6 5 (.at_ 6 14 .nil .nil) .nil)))) [(.slice gainsA gainsN gainsC), (.slice rowA rowN rowC)] w R = coadjutorlaw13_NormExact.vc gainsA gainsN gainsC rowA rowN rowC w R := by kernel_rfl
theorem coadjutorlaw13_NormExact.calls (gainsA : Option Addr) (gainsN : Nat) (gainsC : Nat) (rowA : Option Addr) (rowN : Nat) (rowC : Nat) {w : World} {R : Value → World → Prop} (h : coadjutorlaw13_NormExact.vc gainsA gainsN gainsC rowA rowN rowC w R) : Calls Try.prog 12 #[(.slice gainsA gainsN gainsC), (.slice rowA rowN rowC)] w (Ret R) :=
  calls_V fit Try.func12 (.c .nil (.at_ 3 3 (.k .nil) (.c .nil (.at_ 6 5 (.at_ 6 14 .nil .nil) .nil)))) (by rw [show (#[(.slice gainsA gainsN gainsC), (.slice rowA rowN rowC)] : Array Value).toList = [(.slice gainsA gainsN gainsC), (.slice rowA rowN rowC)] from rfl, coadjutorlaw13_NormExact.vc_eq]; exact h)
/-- function 13 -/
def coadjutorlaw13_NormTurns.vc (gainsA : Option Addr) (gainsN : Nat) (gainsC : Nat) (rowA : Option Addr) (rowN : Nat) (rowC : Nat) (turn : Int) (w : World) (R : Value → World → Prop) : Prop :=
  Calls Try.prog 43 #[] w (Ret fun v w1 => ∃ (x16 : Bool), v = (.bool x16) ∧
  ((!x16) = true →
  R (.bool false) w1) ∧
  ((!x16) = false →
  (decide (((rowN : Nat) : Int) > (40 : Int)) = true →
  R (.bool true) w1) ∧
  (decide (((rowN : Nat) : Int) > (40 : Int)) = false →
  ((((gainsN : Nat) : Int) != ((rowN : Nat) : Int)) = true →
  R (.bool true) w1) ∧
  ((((gainsN : Nat) : Int) != ((rowN : Nat) : Int)) = false →
  ((((rowN : Nat) : Int) == (0 : Int)) = true →
  R (.bool true) w1) ∧
  ((((rowN : Nat) : Int) == (0 : Int)) = false →
  ∀ w2 : World, w2 = w1.alloc (.cells #[] 3 (0, 0)) →
  ∃ vI : Option Addr → Nat → Nat → Int → Nat → World → Prop, (∃ vk_2 : Nat, vI (some (⟨w1.heap.size, 0, none⟩ : Addr)) 0 0 0 vk_2 w2) ∧
  ∀ (jk : Nat → Value) (otherA : Option Addr) (otherN : Nat) (otherC : Nat) (i : Int), ∀ (vk : Nat) (w3 : World), vI otherA otherN otherC i vk w3 →
  (decide (i < ((rowN : Nat) : Int)) = true →
  (0 ≤ i ∧ i < ((rowN : Nat) : Int)) ∧ someV rowA fun p =>
  ∃ (x41 : Int), w3.cell? (p.add (i.toNat * 1)) = some (.int .i64 x41) ∧
  (decide (x41 > (32767 : Int)) = true →
  R (.bool true) w3) ∧
  (decide (x41 > (32767 : Int)) = false →
  (0 ≤ i ∧ i < ((rowN : Nat) : Int)) ∧ someV rowA fun p_1 =>
  ∃ (x47 : Int), w3.cell? (p_1.add (i.toNat * 1)) = some (.int .i64 x47) ∧
  (decide (x47 < (-32767 : Int)) = true →
  R (.bool true) w3) ∧
  (decide (x47 < (-32767 : Int)) = false →
  (0 ≤ i ∧ i < ((rowN : Nat) : Int)) ∧ someV rowA fun p_2 =>
  ∃ (x54 : Int), w3.cell? (p_2.add (i.toNat * 1)) = some (.int .i64 x54) ∧
  ∀ w4 : World, w4 = w3.alloc (.cells #[(.int .i64 (IntKind.i64.wrap (0 - x54)))] 3 (0, 0)) →
  ∃ (x57A : Option Addr), ∃ (x57N : Nat), ∃ (x57C : Nat), ∃ w5 : World, (Builtin.append_ #[43, 43] 43 #[(.slice otherA otherN otherC), (.slice (some (⟨w3.heap.size, 0, none⟩ : Addr)) 1 1)]).run Try.prog w4 = .ok (.slice x57A x57N x57C) w5 ∧
  ∃ vk_1 : Nat, vk_1 < vk ∧ vI x57A x57N x57C (IntKind.i64.wrap (i + 1)) vk_1 w5))) ∧
  (decide (i < ((rowN : Nat) : Int)) = false →
  Calls Try.prog 47 #[(.slice gainsA gainsN gainsC), (.slice rowA rowN rowC)] w3 (Ret fun v_1 w6 => ∃ (x60A : Option Addr), ∃ (x60N : Nat), ∃ (x60C : Nat), v_1 = (.slice x60A x60N x60C) ∧
  Calls Try.prog 47 #[(.slice gainsA gainsN gainsC), (.slice otherA otherN otherC)] w6 (Ret fun v_2 w7 => ∃ (x63A : Option Addr), ∃ (x63N : Nat), ∃ (x63C : Nat), v_2 = (.slice x63A x63N x63C) ∧
  Calls Try.prog 49 #[(.slice rowA rowN rowC)] w7 (Ret fun v_3 w8 => ∃ (x65A : Option Addr), ∃ (x65N : Nat), ∃ (x65C : Nat), v_3 = (.slice x65A x65N x65C) ∧
  ((((x60N : Nat) : Int) != ((rowN : Nat) : Int)) = true →
  R (.bool false) w8) ∧
  ((((x60N : Nat) : Int) != ((rowN : Nat) : Int)) = false →
  ((((x63N : Nat) : Int) != ((rowN : Nat) : Int)) = true →
  R (.bool false) w8) ∧
  ((((x63N : Nat) : Int) != ((rowN : Nat) : Int)) = false →
  ((((x65N : Nat) : Int) != ((rowN : Nat) : Int)) = true →
  R (.bool false) w8) ∧
  ((((x65N : Nat) : Int) != ((rowN : Nat) : Int)) = false →
  ∃ vI_1 : Int → Nat → World → Prop, (∃ vk_5 : Nat, vI_1 0 vk_5 w8) ∧
  ∀ (jk : Nat → Value) (i_1 : Int), ∀ (vk_3 : Nat) (w9 : World), vI_1 i_1 vk_3 w9 →
  (decide (i_1 < ((rowN : Nat) : Int)) = true →
  ∃ vS : World → Prop, ∀ w10 : World, w10 = w9.drew → vS w10 ∧
  (0 ≤ i_1 ∧ i_1 < ((x60N : Nat) : Int)) ∧ someV x60A fun p_3 =>
  ∃ (x90 : Int), (∀ w11, vS w11 → w11.cell? (p_3.add (i_1.toNat * 1)) = some (.int .i64 x90)) ∧
  (0 ≤ i_1 ∧ i_1 < ((x63N : Nat) : Int)) ∧ someV x63A fun p_4 =>
  ∃ (x94 : Int), (∀ w12, vS w12 → w12.cell? (p_4.add (i_1.toNat * 1)) = some (.int .i64 x94)) ∧
  ((x90 != (IntKind.i64.wrap (0 - x94))) = true →
  R (.bool false) w10) ∧
  ((x90 != (IntKind.i64.wrap (0 - x94))) = false →
  ∃ vI_2 : Int → Nat → World → Prop, (∃ vk_8 : Nat, vI_2 0 vk_8 w10) ∧
  ∀ (jk : Nat → Value) (vk_9 : Int), ∀ (vk_6 : Nat) (w13 : World), vI_2 vk_9 vk_6 w13 →
  (decide (vk_9 < ((rowN : Nat) : Int)) = true →
  ∃ vS_1 : World → Prop, ∀ w14 : World, w14 = w13.drew → vS_1 w14 ∧
  (0 ≤ i_1 ∧ i_1 < ((rowN : Nat) : Int)) ∧ someV rowA fun p_5 =>
  ∃ (x105 : Int), (∀ w15, vS_1 w15 → w15.cell? (p_5.add (i_1.toNat * 1)) = some (.int .i64 x105)) ∧
  (0 ≤ vk_9 ∧ vk_9 < ((rowN : Nat) : Int)) ∧ someV rowA fun p_6 =>
  ∃ (x109 : Int), (∀ w16, vS_1 w16 → w16.cell? (p_6.add (vk_9.toNat * 1)) = some (.int .i64 x109)) ∧
  (decide (x105 > x109) = true →
  (0 ≤ i_1 ∧ i_1 < ((x65N : Nat) : Int)) ∧ someV x65A fun p_7 =>
  ∃ (x115 : Int), (∀ w17, vS_1 w17 → w17.cell? (p_7.add (i_1.toNat * 1)) = some (.int .i64 x115)) ∧
  (0 ≤ vk_9 ∧ vk_9 < ((x65N : Nat) : Int)) ∧ someV x65A fun p_8 =>
  ∃ (x119 : Int), (∀ w18, vS_1 w18 → w18.cell? (p_8.add (vk_9.toNat * 1)) = some (.int .i64 x119)) ∧
  (decide (x115 < x119) = true →
  R (.bool false) w14) ∧
  (decide (x115 < x119) = false →
  ∃ vk_7 : Nat, vk_7 < vk_6 ∧ vI_2 (IntKind.i64.wrap (vk_9 + 1)) vk_7 w14)) ∧
  (decide (x105 > x109) = false →
  ∃ vk_7 : Nat, vk_7 < vk_6 ∧ vI_2 (IntKind.i64.wrap (vk_9 + 1)) vk_7 w14)) ∧
  (decide (vk_9 < ((rowN : Nat) : Int)) = false →
  ∃ vk_4 : Nat, vk_4 < vk_3 ∧ vI_1 (IntKind.i64.wrap (i_1 + 1)) vk_4 w13))) ∧
  (decide (i_1 < ((rowN : Nat) : Int)) = false →
  (IntKind.u64.wrap ((rowN : Nat) : Int)) ≠ 0 ∧
  ∃ vS_2 : World → Prop, ∀ w19 : World, w19 = w9.drew → vS_2 w19 ∧
  (0 ≤ (IntKind.i64.wrap (Int.tmod (IntKind.u64.wrap turn) (IntKind.u64.wrap ((rowN : Nat) : Int)))) ∧ (IntKind.i64.wrap (Int.tmod (IntKind.u64.wrap turn) (IntKind.u64.wrap ((rowN : Nat) : Int)))) ≤ ((rowN : Nat) : Int)) ∧
  (0 ≤ (IntKind.i64.wrap (Int.tmod (IntKind.u64.wrap turn) (IntKind.u64.wrap ((rowN : Nat) : Int)))) ∧ (IntKind.i64.wrap (Int.tmod (IntKind.u64.wrap turn) (IntKind.u64.wrap ((rowN : Nat) : Int)))) ≤ ((rowC : Nat) : Int)) ∧
  ∀ w20 : World, w20 = w19.alloc (.cells #[] 3 (0, 0)) →
  vS_2 w20 ∧
  ∃ (x132A : Option Addr), ∃ (x132N : Nat), ∃ (x132C : Nat), ∃ w21 : World, (Builtin.append_ #[43, 43] 43 #[(.slice (some (⟨w19.heap.size, 0, none⟩ : Addr)) 0 0), (.slice (if rowC = (IntKind.i64.wrap (Int.tmod (IntKind.u64.wrap turn) (IntKind.u64.wrap ((rowN : Nat) : Int)))).toNat then rowA else rowA.map (·.add ((IntKind.i64.wrap (Int.tmod (IntKind.u64.wrap turn) (IntKind.u64.wrap ((rowN : Nat) : Int)))).toNat * 1))) (rowN - (IntKind.i64.wrap (Int.tmod (IntKind.u64.wrap turn) (IntKind.u64.wrap ((rowN : Nat) : Int)))).toNat) (rowC - (IntKind.i64.wrap (Int.tmod (IntKind.u64.wrap turn) (IntKind.u64.wrap ((rowN : Nat) : Int)))).toNat))]).run Try.prog w20 = .ok (.slice x132A x132N x132C) w21 ∧
  vS_2 w21 ∧
  ∃ (x136A : Option Addr), ∃ (x136N : Nat), ∃ (x136C : Nat), ∃ w22 : World, (Builtin.append_ #[43, 43] 43 #[(.slice x132A x132N x132C), (.slice (if rowC = 0 then rowA else rowA.map (·.add (0 * 1))) ((IntKind.i64.wrap (Int.tmod (IntKind.u64.wrap turn) (IntKind.u64.wrap ((rowN : Nat) : Int)))).toNat - 0) (rowC - 0))]).run Try.prog w21 = .ok (.slice x136A x136N x136C) w22 ∧
  vS_2 w22 ∧
  Calls Try.prog 44 #[(.slice x136A x136N x136C)] w22 (Ret fun v_4 w23 => ∃ (x137 : Int), v_4 = (.int .i64 x137) ∧
  vS_2 w23 ∧
  Calls Try.prog 44 #[(.slice rowA rowN rowC)] w23 (Ret fun v_5 w24 => ∃ (x139 : Int), v_5 = (.int .i64 x139) ∧
  vS_2 w24 ∧
  ((x137 == x139) = true →
  Calls Try.prog 44 #[(.slice otherA otherN otherC)] w24 (Ret fun v_6 w25 => ∃ (x143 : Int), v_6 = (.int .i64 x143) ∧
  vS_2 w25 ∧
  Calls Try.prog 44 #[(.slice rowA rowN rowC)] w25 (Ret fun v_7 w26 => ∃ (x145 : Int), v_7 = (.int .i64 x145) ∧
  vS_2 w26 ∧
  R (.bool (x143 == x145)) w26))) ∧
  ((x137 == x139) = false →
  R (.bool false) w24))))))))))))))))
theorem coadjutorlaw13_NormTurns.vc_eq (gainsA : Option Addr) (gainsN : Nat) (gainsC : Nat) (rowA : Option Addr) (rowN : Nat) (rowC : Nat) (turn : Int) (w : World) (R : Value → World → Prop) : fnV Try.prog Try.f13 (.c .nil (.at_ 4 2 (.k .nil) (.at_ 4 8 (.k .nil) (.c .nil (.lp [(6, none), (8, some (.slice)), (9, some (.int .i64)), (33, none), (34, none), (35, none), (36, none), (37, none), (38, none), (39, none), (40, none), (41, none), (42, none), (43, none), (44, none), (45, none), (46, none), (47, none), (48, none), (49, none), (50, none), (51, none), (52, none), (53, none), (54, none), (55, none), (56, none), (57, none)] (.c (.at_ 10 5 (.k .nil) (.c .nil .nil)) (.at_ 16 4 (.k .nil) (.at_ 16 10 (.k .nil) (.c .nil (.lp [(6, none), (13, some (.int .i64)), (14, none), (82, none), (83, none), (84, none), (85, none), (86, none), (87, none), (88, none), (89, none), (90, none), (91, none), (92, none), (93, none), (94, none), (95, none), (96, none), (97, none), (98, none), (99, none), (100, none), (101, none), (102, none), (103, none), (104, none), (105, none), (106, none), (107, none), (108, none), (109, none), (110, none), (111, none), (112, none), (113, none), (114, none), (115, none), (116, none), (117, none), (118, none), (119, none), (120, none), (121, none)] (.c (.tk 0 (.tk 1 (.tk 2 (.tk 3 (.tk 4 (.tk 5 (.tk 6 (.tk 7 (.tk 8 (.tk 9 (.fin (.c .nil (.lp [(6, none), (14, some (.int .i64)), (97, none), (98, none), (99, none), (100, none), (101, none), (102, none), (103, none), (104, none), (105, none), (106, none), (107, none), (108, none), (109, none), (110, none), (111, none), (112, none), (113, none), (114, none), (115, none), (116, none), (117, none), (118, none), (119, none), (120, none), (121, none)] (.c (.tk 0 (.tk 1 (.tk 2 (.tk 3 (.tk 4 (.tk 5 (.tk 6 (.tk 7 (.tk 8 (.tks 9 (.tk 10 (.tk 11 (.tk 12 (.tk 13 (.tk 14 (.tk 15 (.tk 16 (.tk 17 (.tk 18 (.tk 19 (.fin (.c .nil .nil)))))))))))) (.tk 10 (.tk 11 (.tk 12 (.tk 13 (.tk 14 (.tk 15 (.tk 16 (.tk 17 (.tk 18 (.tk 19 (.fin (.k .nil)))))))))))))))))))))) .nil)))))))))))))) (.tk 1 (.tk 2 (.tk 3 (.tk 5 (.tk 6 (.tk 7 (.tk 10 (.alt 0 (.alt 4 (.alt 8 (.alt 9 (.alt 11 (.tk 12 (.tks 13 (.tk 14 (.tk 16 (.alt 15 (.alt 17 (.tk 18 (.tk 19 (.tk 20 (.fin .nil)))) .nil) .nil))) (.tk 14 (.tk 15 (.tk 16 (.tk 17 (.tk 18 (.tk 19 (.tk 20 (.fin .nil)))))))))) .nil) .nil) .nil) .nil) .nil))))))))))))))))))) [(.slice gainsA gainsN gainsC), (.slice rowA rowN rowC), (.int .i64 turn)] w R = coadjutorlaw13_NormTurns.vc gainsA gainsN gainsC rowA rowN rowC turn w R := by kernel_rfl
theorem coadjutorlaw13_NormTurns.calls (gainsA : Option Addr) (gainsN : Nat) (gainsC : Nat) (rowA : Option Addr) (rowN : Nat) (rowC : Nat) (turn : Int) {w : World} {R : Value → World → Prop} (h : coadjutorlaw13_NormTurns.vc gainsA gainsN gainsC rowA rowN rowC turn w R) : Calls Try.prog 13 #[(.slice gainsA gainsN gainsC), (.slice rowA rowN rowC), (.int .i64 turn)] w (Ret R) :=
  calls_V fit Try.func13 (.c .nil (.at_ 4 2 (.k .nil) (.at_ 4 8 (.k .nil) (.c .nil (.lp [(6, none), (8, some (.slice)), (9, some (.int .i64)), (33, none), (34, none), (35, none), (36, none), (37, none), (38, none), (39, none), (40, none), (41, none), (42, none), (43, none), (44, none), (45, none), (46, none), (47, none), (48, none), (49, none), (50, none), (51, none), (52, none), (53, none), (54, none), (55, none), (56, none), (57, none)] (.c (.at_ 10 5 (.k .nil) (.c .nil .nil)) (.at_ 16 4 (.k .nil) (.at_ 16 10 (.k .nil) (.c .nil (.lp [(6, none), (13, some (.int .i64)), (14, none), (82, none), (83, none), (84, none), (85, none), (86, none), (87, none), (88, none), (89, none), (90, none), (91, none), (92, none), (93, none), (94, none), (95, none), (96, none), (97, none), (98, none), (99, none), (100, none), (101, none), (102, none), (103, none), (104, none), (105, none), (106, none), (107, none), (108, none), (109, none), (110, none), (111, none), (112, none), (113, none), (114, none), (115, none), (116, none), (117, none), (118, none), (119, none), (120, none), (121, none)] (.c (.tk 0 (.tk 1 (.tk 2 (.tk 3 (.tk 4 (.tk 5 (.tk 6 (.tk 7 (.tk 8 (.tk 9 (.fin (.c .nil (.lp [(6, none), (14, some (.int .i64)), (97, none), (98, none), (99, none), (100, none), (101, none), (102, none), (103, none), (104, none), (105, none), (106, none), (107, none), (108, none), (109, none), (110, none), (111, none), (112, none), (113, none), (114, none), (115, none), (116, none), (117, none), (118, none), (119, none), (120, none), (121, none)] (.c (.tk 0 (.tk 1 (.tk 2 (.tk 3 (.tk 4 (.tk 5 (.tk 6 (.tk 7 (.tk 8 (.tks 9 (.tk 10 (.tk 11 (.tk 12 (.tk 13 (.tk 14 (.tk 15 (.tk 16 (.tk 17 (.tk 18 (.tk 19 (.fin (.c .nil .nil)))))))))))) (.tk 10 (.tk 11 (.tk 12 (.tk 13 (.tk 14 (.tk 15 (.tk 16 (.tk 17 (.tk 18 (.tk 19 (.fin (.k .nil)))))))))))))))))))))) .nil)))))))))))))) (.tk 1 (.tk 2 (.tk 3 (.tk 5 (.tk 6 (.tk 7 (.tk 10 (.alt 0 (.alt 4 (.alt 8 (.alt 9 (.alt 11 (.tk 12 (.tks 13 (.tk 14 (.tk 16 (.alt 15 (.alt 17 (.tk 18 (.tk 19 (.tk 20 (.fin .nil)))) .nil) .nil))) (.tk 14 (.tk 15 (.tk 16 (.tk 17 (.tk 18 (.tk 19 (.tk 20 (.fin .nil)))))))))) .nil) .nil) .nil) .nil) .nil))))))))))))))))))) (by rw [show (#[(.slice gainsA gainsN gainsC), (.slice rowA rowN rowC), (.int .i64 turn)] : Array Value).toList = [(.slice gainsA gainsN gainsC), (.slice rowA rowN rowC), (.int .i64 turn)] from rfl, coadjutorlaw13_NormTurns.vc_eq]; exact h)
/-- function 14 -/
def coadjutorlaw13_NormSize.vc (rowA : Option Addr) (rowN : Nat) (rowC : Nat) (w : World) (R : Value → World → Prop) : Prop :=
  Calls Try.prog 43 #[] w (Ret fun v w1 => ∃ (x7 : Bool), v = (.bool x7) ∧
  ((!x7) = true →
  R (.bool false) w1) ∧
  ((!x7) = false →
  (decide (((rowN : Nat) : Int) > (64 : Int)) = true →
  R (.bool true) w1) ∧
  (decide (((rowN : Nat) : Int) > (64 : Int)) = false →
  Calls Try.prog 49 #[(.slice rowA rowN rowC)] w1 (Ret fun v_1 w2 => ∃ (x14A : Option Addr), ∃ (x14N : Nat), ∃ (x14C : Nat), v_1 = (.slice x14A x14N x14C) ∧
  ∃ vI : Int → Int → Nat → World → Prop, (∃ vk_2 : Nat, vI 0 0 vk_2 w2) ∧
  ∀ (jk : Nat → Value) (sum : Int) (i : Int), ∀ (vk : Nat) (w3 : World), vI sum i vk w3 →
  (decide (i < ((x14N : Nat) : Int)) = true →
  (0 ≤ i ∧ i < ((x14N : Nat) : Int)) ∧ someV x14A fun p =>
  ∃ (x24 : Int), w3.cell? (p.add (i.toNat * 1)) = some (.int .i64 x24) ∧
  (decide (x24 > (512 : Int)) = true →
  R (.bool false) w3) ∧
  (decide (x24 > (512 : Int)) = false →
  (0 ≤ i ∧ i < ((x14N : Nat) : Int)) ∧ someV x14A fun p_1 =>
  ∃ (x30 : Int), w3.cell? (p_1.add (i.toNat * 1)) = some (.int .i64 x30) ∧
  (decide (x30 < (-512 : Int)) = true →
  R (.bool false) w3) ∧
  (decide (x30 < (-512 : Int)) = false →
  ∃ vS : World → Prop, ∀ w4 : World, w4 = w3.drew → vS w4 ∧
  (0 ≤ i ∧ i < ((x14N : Nat) : Int)) ∧ someV x14A fun p_2 =>
  ∃ (x37 : Int), (∀ w5, vS w5 → w5.cell? (p_2.add (i.toNat * 1)) = some (.int .i64 x37)) ∧
  (0 ≤ i ∧ i < ((x14N : Nat) : Int)) ∧ someV x14A fun p_3 =>
  ∃ (x41 : Int), (∀ w6, vS w6 → w6.cell? (p_3.add (i.toNat * 1)) = some (.int .i64 x41)) ∧
  ∃ vk_1 : Nat, vk_1 < vk ∧ vI (IntKind.i64.wrap (sum + (IntKind.i64.wrap (x37 * x41)))) (IntKind.i64.wrap (i + 1)) vk_1 w4))) ∧
  (decide (i < ((x14N : Nat) : Int)) = false →
  ((((x14N : Nat) : Int) == ((rowN : Nat) : Int)) = true →
  R (.bool (decide (sum ≤ (IntKind.i64.wrap (4096 * ((rowN : Nat) : Int)))))) w3) ∧
  ((((x14N : Nat) : Int) == ((rowN : Nat) : Int)) = false →
  R (.bool false) w3))))))
theorem coadjutorlaw13_NormSize.vc_eq (rowA : Option Addr) (rowN : Nat) (rowC : Nat) (w : World) (R : Value → World → Prop) : fnV Try.prog Try.f14 (.c .nil (.c .nil (.lp [(2, none), (5, some (.int .i64)), (6, some (.int .i64)), (15, none), (16, none), (17, none), (18, none), (19, none), (20, none), (21, none), (22, none), (23, none), (24, none), (25, none), (26, none), (27, none), (28, none), (29, none), (30, none), (31, none), (32, none), (33, none), (34, none), (35, none), (36, none), (37, none), (38, none), (39, none), (40, none), (41, none), (42, none), (43, none)] (.c (.at_ 11 5 (.k .nil) (.c .nil (.tk 0 (.tk 1 (.tk 2 (.tk 3 (.tk 4 (.tk 5 (.tk 6 (.tk 7 (.tk 8 (.tk 9 (.tk 10 (.tk 11 (.fin .nil))))))))))))))) (.at_ 14 4 .nil .nil))))) [(.slice rowA rowN rowC)] w R = coadjutorlaw13_NormSize.vc rowA rowN rowC w R := by kernel_rfl
theorem coadjutorlaw13_NormSize.calls (rowA : Option Addr) (rowN : Nat) (rowC : Nat) {w : World} {R : Value → World → Prop} (h : coadjutorlaw13_NormSize.vc rowA rowN rowC w R) : Calls Try.prog 14 #[(.slice rowA rowN rowC)] w (Ret R) :=
  calls_V fit Try.func14 (.c .nil (.c .nil (.lp [(2, none), (5, some (.int .i64)), (6, some (.int .i64)), (15, none), (16, none), (17, none), (18, none), (19, none), (20, none), (21, none), (22, none), (23, none), (24, none), (25, none), (26, none), (27, none), (28, none), (29, none), (30, none), (31, none), (32, none), (33, none), (34, none), (35, none), (36, none), (37, none), (38, none), (39, none), (40, none), (41, none), (42, none), (43, none)] (.c (.at_ 11 5 (.k .nil) (.c .nil (.tk 0 (.tk 1 (.tk 2 (.tk 3 (.tk 4 (.tk 5 (.tk 6 (.tk 7 (.tk 8 (.tk 9 (.tk 10 (.tk 11 (.fin .nil))))))))))))))) (.at_ 14 4 .nil .nil))))) (by rw [show (#[(.slice rowA rowN rowC)] : Array Value).toList = [(.slice rowA rowN rowC)] from rfl, coadjutorlaw13_NormSize.vc_eq]; exact h)
end Go.Proofs.Ytddgcdlljkooiaa.Vc
