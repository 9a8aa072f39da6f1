import Derived.Test.YtbadkcnemcnhfaaGreatDoorVc
import Derived.Test.YtbadkcnemcnhfaaGreatDoorH
import Derived.Test.YtbadkcnemcnhfaaGreatDoorProg
import Derived.KernelRfl
set_option linter.unusedVariables false
set_option maxRecDepth 100000
namespace Go.Proofs.YtbadkcnemcnhfaaGreatDoor.Vc
open Go Go.Proofs Go.Proofs.YtbadkcnemcnhfaaGreatDoor.V
/-- function 86 -/
def gen_Check_c1.vc (n : Int) (c0B : Nat) (w : World) (R : Value → World → Prop) : Prop :=
  (decide (n < (0 : Int)) = true →
  R (.bool true) w) ∧
  (decide (n < (0 : Int)) = false →
  ∃ (x8 : Option Addr), w.cell? (⟨c0B, 0, none⟩ : Addr) = some (.pointer x8) ∧
  someV x8 fun p =>
  ∃ (x13 : Int), w.cell? p = some (.int .i64 x13) ∧
  R (.bool (decide (n ≥ x13))) w)
theorem gen_Check_c1.vc_eq (n : Int) (c0B : Nat) (w : World) (R : Value → World → Prop) : fnV Tryz.prog Tryz.f86 (.at_ 1 2 .nil .nil) [(.int .i64 n), (.pointer (some (⟨c0B, 0, none⟩ : Addr)))] w R = gen_Check_c1.vc n c0B w R := by kernel_rfl
theorem gen_Check_c1.calls (n : Int) (c0B : Nat) {w : World} {R : Value → World → Prop} (h : gen_Check_c1.vc n c0B w R) : Calls Tryz.prog 86 #[(.int .i64 n), (.pointer (some (⟨c0B, 0, none⟩ : Addr)))] w (Ret R) :=
  calls_V fit Tryz.func86 (.at_ 1 2 .nil .nil) (by rw [show (#[(.int .i64 n), (.pointer (some (⟨c0B, 0, none⟩ : Addr)))] : Array Value).toList = [(.int .i64 n), (.pointer (some (⟨c0B, 0, none⟩ : Addr)))] from rfl, gen_Check_c1.vc_eq]; exact h)
/-- function 85 -/
def slices_ContainsFunc.vc_gc (sA : Option Addr) (sN : Nat) (sC : Nat) (c0B : Nat) (w : World) (R : Value → World → Prop) : Prop :=
  Calls Tryz.prog 108 #[(.slice sA sN sC), (.func (.func 86) #[] #[(.pointer (some (⟨c0B, 0, none⟩ : Addr)))])] w (Ret fun v w1 => ∃ (x7 : Int), v = (.int .i64 x7) ∧
  R (.bool (decide (x7 ≥ (0 : Int)))) w1)
theorem slices_ContainsFunc.vc_gc_eq (sA : Option Addr) (sN : Nat) (sC : Nat) (c0B : Nat) (w : World) (R : Value → World → Prop) : fnV Tryz.prog Tryz.f85 .nil [(.slice sA sN sC), (.func (.func 86) #[] #[(.pointer (some (⟨c0B, 0, none⟩ : Addr)))])] w R = slices_ContainsFunc.vc_gc sA sN sC c0B w R := by kernel_rfl
theorem slices_ContainsFunc.calls_gc (sA : Option Addr) (sN : Nat) (sC : Nat) (c0B : Nat) {w : World} {R : Value → World → Prop} (h : slices_ContainsFunc.vc_gc sA sN sC c0B w R) : Calls Tryz.prog 85 #[(.slice sA sN sC), (.func (.func 86) #[] #[(.pointer (some (⟨c0B, 0, none⟩ : Addr)))])] w (Ret R) :=
  calls_V fit Tryz.func85 .nil (by rw [show (#[(.slice sA sN sC), (.func (.func 86) #[] #[(.pointer (some (⟨c0B, 0, none⟩ : Addr)))])] : Array Value).toList = [(.slice sA sN sC), (.func (.func 86) #[] #[(.pointer (some (⟨c0B, 0, none⟩ : Addr)))])] from rfl, slices_ContainsFunc.vc_gc_eq]; exact h)
/-- function 108 -/
def slices_IndexFunc.vc_gc (sA : Option Addr) (sN : Nat) (sC : Nat) (c0B : Nat) (w : World) (R : Value → World → Prop) : Prop :=
  ∃ vI : Int → Nat → World → Prop, (∃ vk_2 : Nat, vI 0 vk_2 w) ∧
  ∀ (jk : Nat → Value) (x8 : Int), ∀ (vk : Nat) (w1 : World), vI x8 vk w1 →
  (decide (x8 < ((sN : Nat) : Int)) = true →
  (0 ≤ x8 ∧ x8 < ((sN : Nat) : Int)) ∧ someV sA fun p =>
  ∃ (x15 : Int), w1.cell? (p.add (x8.toNat * 1)) = some (.int .i64 x15) ∧
  Calls Tryz.prog 86 #[(.int .i64 x15), (.pointer (some (⟨c0B, 0, none⟩ : Addr)))] w1 (Ret fun v w2 => ∃ (x16 : Bool), v = (.bool x16) ∧
  (x16 = true →
  R (.int .i64 x8) w2) ∧
  (x16 = false →
  ∃ vk_1 : Nat, vk_1 < vk ∧ vI (IntKind.i64.wrap (x8 + 1)) vk_1 w2))) ∧
  (decide (x8 < ((sN : Nat) : Int)) = false →
  R (.int .i64 (-1)) w1)
theorem slices_IndexFunc.vc_gc_eq (sA : Option Addr) (sN : Nat) (sC : Nat) (c0B : Nat) (w : World) (R : Value → World → Prop) : fnV Tryz.prog Tryz.f108 (.lp [(4, none), (5, none), (8, some (.int .i64)), (9, none), (10, none), (11, none), (12, none), (13, none), (14, none), (15, none), (16, none), (17, none), (18, none)] (.c (.c .nil .nil) .nil)) [(.slice sA sN sC), (.func (.func 86) #[] #[(.pointer (some (⟨c0B, 0, none⟩ : Addr)))])] w R = slices_IndexFunc.vc_gc sA sN sC c0B w R := by kernel_rfl
theorem slices_IndexFunc.calls_gc (sA : Option Addr) (sN : Nat) (sC : Nat) (c0B : Nat) {w : World} {R : Value → World → Prop} (h : slices_IndexFunc.vc_gc sA sN sC c0B w R) : Calls Tryz.prog 108 #[(.slice sA sN sC), (.func (.func 86) #[] #[(.pointer (some (⟨c0B, 0, none⟩ : Addr)))])] w (Ret R) :=
  calls_V fit Tryz.func108 (.lp [(4, none), (5, none), (8, some (.int .i64)), (9, none), (10, none), (11, none), (12, none), (13, none), (14, none), (15, none), (16, none), (17, none), (18, none)] (.c (.c .nil .nil) .nil)) (by rw [show (#[(.slice sA sN sC), (.func (.func 86) #[] #[(.pointer (some (⟨c0B, 0, none⟩ : Addr)))])] : Array Value).toList = [(.slice sA sN sC), (.func (.func 86) #[] #[(.pointer (some (⟨c0B, 0, none⟩ : Addr)))])] from rfl, slices_IndexFunc.vc_gc_eq]; exact h)
/-- function 60 -/
def gen_Check.vc (bB : Nat) (most : Int) (promptA : Option Addr) (promptN : Nat) (promptC : Nat) (w : World) (R : Value → World → Prop) : Prop :=
  ∀ w1 : World, w1 = w.alloc (.cells #[(.pointer (some (⟨bB, 0, none⟩ : Addr)))] 26 (0, 0)) →
  ∃ (x8 : Option Addr), w1.cell? (⟨w.heap.size, 0, none⟩ : Addr) = some (.pointer x8) ∧
  (x8.isNone = true →
  R (.int .i64 2) w1) ∧
  (x8.isNone = false →
  ((((promptN : Nat) : Int) == (0 : Int)) = true →
  R (.int .i64 1) w1) ∧
  ((((promptN : Nat) : Int) == (0 : Int)) = false →
  (decide (most < (1 : Int)) = true →
  R (.int .i64 1) w1) ∧
  (decide (most < (1 : Int)) = false →
  (decide (most > (32 : Int)) = true →
  R (.int .i64 1) w1) ∧
  (decide (most > (32 : Int)) = false →
  Calls Tryz.prog 85 #[(.slice promptA promptN promptC), (.func (.func 86) #[] #[(.pointer (some (⟨w.heap.size, 0, none⟩ : Addr)))])] w1 (Ret fun v w2 => ∃ (x25 : Bool), v = (.bool x25) ∧
  (x25 = true →
  R (.int .i64 3) w2) ∧
  (x25 = false →
  ∃ (x31 : Option Addr), w2.cell? (⟨w.heap.size, 0, none⟩ : Addr) = some (.pointer x31) ∧
  someV x31 fun p =>
  ∃ (x36 : Int), w2.cell? (p.add 5) = some (.int .i64 x36) ∧
  (decide ((IntKind.i64.wrap (((promptN : Nat) : Int) + most)) > x36) = true →
  R (.int .i64 12) w2) ∧
  (decide ((IntKind.i64.wrap (((promptN : Nat) : Int) + most)) > x36) = false →
  R (.int .i64 0) w2)))))))
theorem gen_Check.vc_eq (bB : Nat) (most : Int) (promptA : Option Addr) (promptN : Nat) (promptC : Nat) (w : World) (R : Value → World → Prop) : fnV Tryz.prog Tryz.f60 (.c .nil (.at_ 3 3 (.k .nil) (.at_ 3 7 (.k .nil) (.c .nil (.c .nil (.c .nil .nil)))))) [(.pointer (some (⟨bB, 0, none⟩ : Addr))), (.int .i64 most), (.slice promptA promptN promptC)] w R = gen_Check.vc bB most promptA promptN promptC w R := by kernel_rfl
theorem gen_Check.calls (bB : Nat) (most : Int) (promptA : Option Addr) (promptN : Nat) (promptC : Nat) {w : World} {R : Value → World → Prop} (h : gen_Check.vc bB most promptA promptN promptC w R) : Calls Tryz.prog 60 #[(.pointer (some (⟨bB, 0, none⟩ : Addr))), (.int .i64 most), (.slice promptA promptN promptC)] w (Ret R) :=
  calls_V fit Tryz.func60 (.c .nil (.at_ 3 3 (.k .nil) (.at_ 3 7 (.k .nil) (.c .nil (.c .nil (.c .nil .nil)))))) (by rw [show (#[(.pointer (some (⟨bB, 0, none⟩ : Addr))), (.int .i64 most), (.slice promptA promptN promptC)] : Array Value).toList = [(.pointer (some (⟨bB, 0, none⟩ : Addr))), (.int .i64 most), (.slice promptA promptN promptC)] from rfl, gen_Check.vc_eq]; exact h)
/-- function 38 -/
def gen_Greedy_c1.vc (v : Int) (scoresA : Option Addr) (scoresN : Nat) (scoresC : Nat) (w : World) (R : Value → World → Prop) : Prop :=
  Calls Tryz.prog 39 #[(.slice scoresA scoresN scoresC)] w (Ret fun v_1 w1 => ∃ (x6 : Int), v_1 = (.int .i64 x6) ∧
  R (.int .i64 x6) w1)
theorem gen_Greedy_c1.vc_eq (v : Int) (scoresA : Option Addr) (scoresN : Nat) (scoresC : Nat) (w : World) (R : Value → World → Prop) : fnV Tryz.prog Tryz.f38 .nil [(.int .i64 v), (.slice scoresA scoresN scoresC)] w R = gen_Greedy_c1.vc v scoresA scoresN scoresC w R := by kernel_rfl
theorem gen_Greedy_c1.calls (v : Int) (scoresA : Option Addr) (scoresN : Nat) (scoresC : Nat) {w : World} {R : Value → World → Prop} (h : gen_Greedy_c1.vc v scoresA scoresN scoresC w R) : Calls Tryz.prog 38 #[(.int .i64 v), (.slice scoresA scoresN scoresC)] w (Ret R) :=
  calls_V fit Tryz.func38 .nil (by rw [show (#[(.int .i64 v), (.slice scoresA scoresN scoresC)] : Array Value).toList = [(.int .i64 v), (.slice scoresA scoresN scoresC)] from rfl, gen_Greedy_c1.vc_eq]; exact h)
/-- function 37 -/
def gen_say.vc_gr (bB : Nat) (promptA : Option Addr) (promptN : Nat) (promptC : Nat) (most : Int) (w : World) (R : Value → World → Prop) : Prop :=
  Calls Tryz.prog 60 #[(.pointer (some (⟨bB, 0, none⟩ : Addr))), (.int .i64 most), (.slice promptA promptN promptC)] w (Ret fun v w1 => ∃ (x22 : Int), v = (.int .i64 x22) ∧
  ((x22 != (0 : Int)) = true →
  R (.tuple #[(.slice none 0 0), (.int .i64 x22)]) w1) ∧
  ((x22 != (0 : Int)) = false →
  Calls Tryz.prog 61 #[(.pointer (some (⟨bB, 0, none⟩ : Addr))), (.slice none 0 0), (.slice promptA promptN promptC)] w1 (Ret fun v_1 w2 => ∃ (x29_0A : Option Addr), ∃ (x29_0N : Nat), ∃ (x29_0C : Nat), ∃ (x29_1A : Option Addr), ∃ (x29_1N : Nat), ∃ (x29_1C : Nat), ∃ (x29_2 : Int), v_1 = (.tuple #[(.slice x29_0A x29_0N x29_0C), (.slice x29_1A x29_1N x29_1C), (.int .i64 x29_2)]) ∧
  ((x29_2 != (0 : Int)) = true →
  R (.tuple #[(.slice none 0 0), (.int .i64 x29_2)]) w2) ∧
  ((x29_2 != (0 : Int)) = false →
  ∃ vI : Option Addr → Nat → Nat → Option Addr → Nat → Nat → Option Addr → Nat → Nat → Nat → World → Prop, (∃ vk_2 : Nat, vI x29_0A x29_0N x29_0C x29_1A x29_1N x29_1C none 0 0 vk_2 w2) ∧
  ∀ (jk : Nat → Value) (pastA : Option Addr) (pastN : Nat) (pastC : Nat) (scoresA : Option Addr) (scoresN : Nat) (scoresC : Nat) (outA : Option Addr) (outN : Nat) (outC : Nat), ∀ (vk : Nat) (w3 : World), vI pastA pastN pastC scoresA scoresN scoresC outA outN outC vk w3 →
  Calls Tryz.prog 38 #[(.int .i64 ((outN : Nat) : Int)), (.slice scoresA scoresN scoresC)] w3 (Ret fun v_2 w4 => ∃ (x40 : Int), v_2 = (.int .i64 x40) ∧
  ((x40 == (0 : Int)) = true →
  R (.tuple #[(.slice outA outN outC), (.int .i64 0)]) w4) ∧
  ((x40 == (0 : Int)) = false →
  ∀ w5 : World, w5 = w4.alloc (.cells #[(.int .i64 x40)] 3 (0, 0)) →
  ∃ (x47A : Option Addr), ∃ (x47N : Nat), ∃ (x47C : Nat), ∃ w6 : World, (Builtin.append_ #[39, 39] 39 #[(.slice outA outN outC), (.slice (some (⟨w4.heap.size, 0, none⟩ : Addr)) 1 1)]).run Tryz.prog w5 = .ok (.slice x47A x47N x47C) w6 ∧
  ((((x47N : Nat) : Int) == most) = true →
  R (.tuple #[(.slice x47A x47N x47C), (.int .i64 0)]) w6) ∧
  ((((x47N : Nat) : Int) == most) = false →
  Calls Tryz.prog 62 #[(.pointer (some (⟨bB, 0, none⟩ : Addr))), (.slice pastA pastN pastC), (.int .i64 x40)] w6 (Ret fun v_3 w7 => ∃ (x57_00A : Option Addr), ∃ (x57_00N : Nat), ∃ (x57_00C : Nat), ∃ (x57_01A : Option Addr), ∃ (x57_01N : Nat), ∃ (x57_01C : Nat), ∃ (x57_1A : Option Addr), ∃ (x57_1N : Nat), ∃ (x57_1C : Nat), ∃ (x57_2 : Int), v_3 = (.tuple #[(.agg #[(.slice x57_00A x57_00N x57_00C), (.slice x57_01A x57_01N x57_01C)]), (.slice x57_1A x57_1N x57_1C), (.int .i64 x57_2)]) ∧
  ∀ w8 : World, w8 = w7.alloc (.cells #[(.slice none 0 0), (.slice none 0 0)] 113 (0, 0)) →
  (((∃ u, w8.cell? (⟨w7.heap.size, 0, none⟩ : Addr) = some u) ∧ w8.frozen? (⟨w7.heap.size, 0, none⟩ : Addr) = false) ∧ ((∃ u, w8.cell? (⟨w7.heap.size, 1, none⟩ : Addr) = some u) ∧ w8.frozen? (⟨w7.heap.size, 1, none⟩ : Addr) = false)) ∧ ∀ w9 : World, w9 = ((w8.setCell (⟨w7.heap.size, 0, none⟩ : Addr) (.slice x57_00A x57_00N x57_00C)).setCell (⟨w7.heap.size, 1, none⟩ : Addr) (.slice x57_01A x57_01N x57_01C)) →
  ((x57_2 != (0 : Int)) = true →
  R (.tuple #[(.slice none 0 0), (.int .i64 x57_2)]) w9) ∧
  ((x57_2 != (0 : Int)) = false →
  ∃ (x650A : Option Addr), ∃ (x650N : Nat), ∃ (x650C : Nat), ∃ (x651A : Option Addr), ∃ (x651N : Nat), ∃ (x651C : Nat), (w9.cell? (⟨w7.heap.size, 0, none⟩ : Addr) = some (.slice x650A x650N x650C) ∧ w9.cell? (⟨w7.heap.size, 1, none⟩ : Addr) = some (.slice x651A x651N x651C)) ∧
  ∀ w10 : World, w10 = w9.alloc (.cells #[(.slice x650A x650N x650C), (.slice x651A x651N x651C)] 113 (0, 0)) →
  ∃ (x67A : Option Addr), ∃ (x67N : Nat), ∃ (x67C : Nat), ∃ w11 : World, (Builtin.append_ #[109, 109] 109 #[(.slice pastA pastN pastC), (.slice (some (⟨w9.heap.size, 0, none⟩ : Addr)) 1 1)]).run Tryz.prog w10 = .ok (.slice x67A x67N x67C) w11 ∧
  ∃ vk_1 : Nat, vk_1 < vk ∧ vI x67A x67N x67C x57_1A x57_1N x57_1C x47A x47N x47C vk_1 w11)))))))))
theorem gen_say.vc_gr_eq (bB : Nat) (promptA : Option Addr) (promptN : Nat) (promptC : Nat) (most : Int) (w : World) (R : Value → World → Prop) : fnV Tryz.prog Tryz.f37 (.c .nil (.c .nil (.lp [(8, none), (9, none), (11, some (.slice)), (12, some (.slice)), (14, some (.slice)), (15, none), (16, none), (17, none), (18, none), (36, none), (37, none), (38, none), (39, none), (40, none), (41, none), (42, none), (43, none), (44, none), (45, none), (46, none), (47, none), (48, none), (49, none), (50, none), (51, none), (52, none), (53, none), (54, none), (55, none), (56, none), (57, none), (58, none), (59, none), (60, none), (61, none), (62, none), (63, none), (64, none), (65, none), (66, none), (67, none), (68, none)] (.c .nil (.c .nil (.c .nil .nil)))))) [(.pointer (some (⟨bB, 0, none⟩ : Addr))), (.slice promptA promptN promptC), (.int .i64 most), (.func (.func 38) #[] #[])] w R = gen_say.vc_gr bB promptA promptN promptC most w R := by kernel_rfl
theorem gen_say.calls_gr (bB : Nat) (promptA : Option Addr) (promptN : Nat) (promptC : Nat) (most : Int) {w : World} {R : Value → World → Prop} (h : gen_say.vc_gr bB promptA promptN promptC most w R) : Calls Tryz.prog 37 #[(.pointer (some (⟨bB, 0, none⟩ : Addr))), (.slice promptA promptN promptC), (.int .i64 most), (.func (.func 38) #[] #[])] w (Ret R) :=
  calls_V fit Tryz.func37 (.c .nil (.c .nil (.lp [(8, none), (9, none), (11, some (.slice)), (12, some (.slice)), (14, some (.slice)), (15, none), (16, none), (17, none), (18, none), (36, none), (37, none), (38, none), (39, none), (40, none), (41, none), (42, none), (43, none), (44, none), (45, none), (46, none), (47, none), (48, none), (49, none), (50, none), (51, none), (52, none), (53, none), (54, none), (55, none), (56, none), (57, none), (58, none), (59, none), (60, none), (61, none), (62, none), (63, none), (64, none), (65, none), (66, none), (67, none), (68, none)] (.c .nil (.c .nil (.c .nil .nil)))))) (by rw [show (#[(.pointer (some (⟨bB, 0, none⟩ : Addr))), (.slice promptA promptN promptC), (.int .i64 most), (.func (.func 38) #[] #[])] : Array Value).toList = [(.pointer (some (⟨bB, 0, none⟩ : Addr))), (.slice promptA promptN promptC), (.int .i64 most), (.func (.func 38) #[] #[])] from rfl, gen_say.vc_gr_eq]; exact h)
/-- function 21 -/
def gen_Greedy.vc (bB : Nat) (promptA : Option Addr) (promptN : Nat) (promptC : Nat) (most : Int) (w : World) (R : Value → World → Prop) : Prop :=
  Calls Tryz.prog 37 #[(.pointer (some (⟨bB, 0, none⟩ : Addr))), (.slice promptA promptN promptC), (.int .i64 most), (.func (.func 38) #[] #[])] w (Ret fun v w1 => ∃ (x11_0A : Option Addr), ∃ (x11_0N : Nat), ∃ (x11_0C : Nat), ∃ (x11_1 : Int), v = (.tuple #[(.slice x11_0A x11_0N x11_0C), (.int .i64 x11_1)]) ∧
  R (.tuple #[(.slice x11_0A x11_0N x11_0C), (.int .i64 x11_1)]) w1)
theorem gen_Greedy.vc_eq (bB : Nat) (promptA : Option Addr) (promptN : Nat) (promptC : Nat) (most : Int) (w : World) (R : Value → World → Prop) : fnV Tryz.prog Tryz.f21 .nil [(.pointer (some (⟨bB, 0, none⟩ : Addr))), (.slice promptA promptN promptC), (.int .i64 most)] w R = gen_Greedy.vc bB promptA promptN promptC most w R := by kernel_rfl
theorem gen_Greedy.calls (bB : Nat) (promptA : Option Addr) (promptN : Nat) (promptC : Nat) (most : Int) {w : World} {R : Value → World → Prop} (h : gen_Greedy.vc bB promptA promptN promptC most w R) : Calls Tryz.prog 21 #[(.pointer (some (⟨bB, 0, none⟩ : Addr))), (.slice promptA promptN promptC), (.int .i64 most)] w (Ret R) :=
  calls_V fit Tryz.func21 .nil (by rw [show (#[(.pointer (some (⟨bB, 0, none⟩ : Addr))), (.slice promptA promptN promptC), (.int .i64 most)] : Array Value).toList = [(.pointer (some (⟨bB, 0, none⟩ : Addr))), (.slice promptA promptN promptC), (.int .i64 most)] from rfl, gen_Greedy.vc_eq]; exact h)
end Go.Proofs.YtbadkcnemcnhfaaGreatDoor.Vc
