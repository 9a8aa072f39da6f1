import Derived.Test.YtbadkcnemcnhfaaGreatDoorVc
import Derived.Test.YtbadkcnemcnhfaaGreatDoorH
import Derived.Test.YtbadkcnemcnhfaaGreatDoorProg
import Derived.KernelRfl
set_option linter.unusedVariables false
set_option maxRecDepth 100000
namespace Go.Proofs.YtbadkcnemcnhfaaGreatDoor.Vc
open Go Go.Proofs Go.Proofs.YtbadkcnemcnhfaaGreatDoor.V
/-- function 21 -/
def gen_Greedy.vc_nil (promptA : Option Addr) (promptN : Nat) (promptC : Nat) (most : Int) (w : World) (R : Value → World → Prop) : Prop :=
  Calls Tryz.prog 37 #[(.pointer none), (.slice promptA promptN promptC), (.int .i64 most), (.func (.func 38) #[] #[])] w (Ret fun v w1 => ∃ (x11_0A : Option Addr), ∃ (x11_0N : Nat), ∃ (x11_0C : Nat), ∃ (x11_1 : Int), v = (.tuple #[(.slice x11_0A x11_0N x11_0C), (.int .i64 x11_1)]) ∧
  R (.tuple #[(.slice x11_0A x11_0N x11_0C), (.int .i64 x11_1)]) w1)
theorem gen_Greedy.vc_nil_eq (promptA : Option Addr) (promptN : Nat) (promptC : Nat) (most : Int) (w : World) (R : Value → World → Prop) : fnV Tryz.prog Tryz.f21 .nil [(.pointer none), (.slice promptA promptN promptC), (.int .i64 most)] w R = gen_Greedy.vc_nil promptA promptN promptC most w R := by kernel_rfl
theorem gen_Greedy.calls_nil (promptA : Option Addr) (promptN : Nat) (promptC : Nat) (most : Int) {w : World} {R : Value → World → Prop} (h : gen_Greedy.vc_nil promptA promptN promptC most w R) : Calls Tryz.prog 21 #[(.pointer none), (.slice promptA promptN promptC), (.int .i64 most)] w (Ret R) :=
  calls_V fit Tryz.func21 .nil (by rw [show (#[(.pointer none), (.slice promptA promptN promptC), (.int .i64 most)] : Array Value).toList = [(.pointer none), (.slice promptA promptN promptC), (.int .i64 most)] from rfl, gen_Greedy.vc_nil_eq]; exact h)
/-- function 37 -/
def gen_say.vc_grn (promptA : Option Addr) (promptN : Nat) (promptC : Nat) (most : Int) (w : World) (R : Value → World → Prop) : Prop :=
  Calls Tryz.prog 60 #[(.pointer none), (.int .i64 most), (.slice promptA promptN promptC)] w (Ret fun v w1 => ∃ (x22 : Int), v = (.int .i64 x22) ∧
  ((x22 != (0 : Int)) = true →
  R (.tuple #[(.slice none 0 0), (.int .i64 x22)]) w1) ∧
  ((x22 != (0 : Int)) = false →
  Calls Tryz.prog 61 #[(.pointer none), (.slice none 0 0), (.slice promptA promptN promptC)] w1 (Ret fun v_1 w2 => ∃ (x29_0A : Option Addr), ∃ (x29_0N : Nat), ∃ (x29_0C : Nat), ∃ (x29_1A : Option Addr), ∃ (x29_1N : Nat), ∃ (x29_1C : Nat), ∃ (x29_2 : Int), v_1 = (.tuple #[(.slice x29_0A x29_0N x29_0C), (.slice x29_1A x29_1N x29_1C), (.int .i64 x29_2)]) ∧
  ((x29_2 != (0 : Int)) = true →
  R (.tuple #[(.slice none 0 0), (.int .i64 x29_2)]) w2) ∧
  ((x29_2 != (0 : Int)) = false →
  ∃ vI : Option Addr → Nat → Nat → Option Addr → Nat → Nat → Option Addr → Nat → Nat → Nat → World → Prop, (∃ vk_2 : Nat, vI x29_0A x29_0N x29_0C x29_1A x29_1N x29_1C none 0 0 vk_2 w2) ∧
  ∀ (jk : Nat → Value) (pastA : Option Addr) (pastN : Nat) (pastC : Nat) (scoresA : Option Addr) (scoresN : Nat) (scoresC : Nat) (outA : Option Addr) (outN : Nat) (outC : Nat), ∀ (vk : Nat) (w3 : World), vI pastA pastN pastC scoresA scoresN scoresC outA outN outC vk w3 →
  Calls Tryz.prog 38 #[(.int .i64 ((outN : Nat) : Int)), (.slice scoresA scoresN scoresC)] w3 (Ret fun v_2 w4 => ∃ (x40 : Int), v_2 = (.int .i64 x40) ∧
  ((x40 == (0 : Int)) = true →
  R (.tuple #[(.slice outA outN outC), (.int .i64 0)]) w4) ∧
  ((x40 == (0 : Int)) = false →
  ∀ w5 : World, w5 = w4.alloc (.cells #[(.int .i64 x40)] 3 (0, 0)) →
  ∃ (x47A : Option Addr), ∃ (x47N : Nat), ∃ (x47C : Nat), ∃ w6 : World, (Builtin.append_ #[39, 39] 39 #[(.slice outA outN outC), (.slice (some (⟨w4.heap.size, 0, none⟩ : Addr)) 1 1)]).run Tryz.prog w5 = .ok (.slice x47A x47N x47C) w6 ∧
  ((((x47N : Nat) : Int) == most) = true →
  R (.tuple #[(.slice x47A x47N x47C), (.int .i64 0)]) w6) ∧
  ((((x47N : Nat) : Int) == most) = false →
  Calls Tryz.prog 62 #[(.pointer none), (.slice pastA pastN pastC), (.int .i64 x40)] w6 (Ret fun v_3 w7 => ∃ (x57_00A : Option Addr), ∃ (x57_00N : Nat), ∃ (x57_00C : Nat), ∃ (x57_01A : Option Addr), ∃ (x57_01N : Nat), ∃ (x57_01C : Nat), ∃ (x57_1A : Option Addr), ∃ (x57_1N : Nat), ∃ (x57_1C : Nat), ∃ (x57_2 : Int), v_3 = (.tuple #[(.agg #[(.slice x57_00A x57_00N x57_00C), (.slice x57_01A x57_01N x57_01C)]), (.slice x57_1A x57_1N x57_1C), (.int .i64 x57_2)]) ∧
  ∀ w8 : World, w8 = w7.alloc (.cells #[(.slice none 0 0), (.slice none 0 0)] 113 (0, 0)) →
  (((∃ u, w8.cell? (⟨w7.heap.size, 0, none⟩ : Addr) = some u) ∧ w8.frozen? (⟨w7.heap.size, 0, none⟩ : Addr) = false) ∧ ((∃ u, w8.cell? (⟨w7.heap.size, 1, none⟩ : Addr) = some u) ∧ w8.frozen? (⟨w7.heap.size, 1, none⟩ : Addr) = false)) ∧ ∀ w9 : World, w9 = ((w8.setCell (⟨w7.heap.size, 0, none⟩ : Addr) (.slice x57_00A x57_00N x57_00C)).setCell (⟨w7.heap.size, 1, none⟩ : Addr) (.slice x57_01A x57_01N x57_01C)) →
  ((x57_2 != (0 : Int)) = true →
  R (.tuple #[(.slice none 0 0), (.int .i64 x57_2)]) w9) ∧
  ((x57_2 != (0 : Int)) = false →
  ∃ (x650A : Option Addr), ∃ (x650N : Nat), ∃ (x650C : Nat), ∃ (x651A : Option Addr), ∃ (x651N : Nat), ∃ (x651C : Nat), (w9.cell? (⟨w7.heap.size, 0, none⟩ : Addr) = some (.slice x650A x650N x650C) ∧ w9.cell? (⟨w7.heap.size, 1, none⟩ : Addr) = some (.slice x651A x651N x651C)) ∧
  ∀ w10 : World, w10 = w9.alloc (.cells #[(.slice x650A x650N x650C), (.slice x651A x651N x651C)] 113 (0, 0)) →
  ∃ (x67A : Option Addr), ∃ (x67N : Nat), ∃ (x67C : Nat), ∃ w11 : World, (Builtin.append_ #[109, 109] 109 #[(.slice pastA pastN pastC), (.slice (some (⟨w9.heap.size, 0, none⟩ : Addr)) 1 1)]).run Tryz.prog w10 = .ok (.slice x67A x67N x67C) w11 ∧
  ∃ vk_1 : Nat, vk_1 < vk ∧ vI x67A x67N x67C x57_1A x57_1N x57_1C x47A x47N x47C vk_1 w11)))))))))
theorem gen_say.vc_grn_eq (promptA : Option Addr) (promptN : Nat) (promptC : Nat) (most : Int) (w : World) (R : Value → World → Prop) : fnV Tryz.prog Tryz.f37 (.c .nil (.c .nil (.lp [(8, none), (9, none), (11, some (.slice)), (12, some (.slice)), (14, some (.slice)), (15, none), (16, none), (17, none), (18, none), (36, none), (37, none), (38, none), (39, none), (40, none), (41, none), (42, none), (43, none), (44, none), (45, none), (46, none), (47, none), (48, none), (49, none), (50, none), (51, none), (52, none), (53, none), (54, none), (55, none), (56, none), (57, none), (58, none), (59, none), (60, none), (61, none), (62, none), (63, none), (64, none), (65, none), (66, none), (67, none), (68, none)] (.c .nil (.c .nil (.c .nil .nil)))))) [(.pointer none), (.slice promptA promptN promptC), (.int .i64 most), (.func (.func 38) #[] #[])] w R = gen_say.vc_grn promptA promptN promptC most w R := by kernel_rfl
theorem gen_say.calls_grn (promptA : Option Addr) (promptN : Nat) (promptC : Nat) (most : Int) {w : World} {R : Value → World → Prop} (h : gen_say.vc_grn promptA promptN promptC most w R) : Calls Tryz.prog 37 #[(.pointer none), (.slice promptA promptN promptC), (.int .i64 most), (.func (.func 38) #[] #[])] w (Ret R) :=
  calls_V fit Tryz.func37 (.c .nil (.c .nil (.lp [(8, none), (9, none), (11, some (.slice)), (12, some (.slice)), (14, some (.slice)), (15, none), (16, none), (17, none), (18, none), (36, none), (37, none), (38, none), (39, none), (40, none), (41, none), (42, none), (43, none), (44, none), (45, none), (46, none), (47, none), (48, none), (49, none), (50, none), (51, none), (52, none), (53, none), (54, none), (55, none), (56, none), (57, none), (58, none), (59, none), (60, none), (61, none), (62, none), (63, none), (64, none), (65, none), (66, none), (67, none), (68, none)] (.c .nil (.c .nil (.c .nil .nil)))))) (by rw [show (#[(.pointer none), (.slice promptA promptN promptC), (.int .i64 most), (.func (.func 38) #[] #[])] : Array Value).toList = [(.pointer none), (.slice promptA promptN promptC), (.int .i64 most), (.func (.func 38) #[] #[])] from rfl, gen_say.vc_grn_eq]; exact h)
/-- function 25 -/
def coadjutorref18_Next.vc (draw : Int) (scoresA : Option Addr) (scoresN : Nat) (scoresC : Nat) (w : World) (R : Value → World → Prop) : Prop :=
  Calls Tryz.prog 52 #[(.slice scoresA scoresN scoresC)] w (Ret fun v w1 => ∃ (x7A : Option Addr), ∃ (x7N : Nat), ∃ (x7C : Nat), v = (.slice x7A x7N x7C) ∧
  Calls Tryz.prog 51 #[(.int .i64 draw), (.slice x7A x7N x7C)] w1 (Ret fun v_1 w2 => ∃ (x8 : Int), v_1 = (.int .i64 x8) ∧
  R (.int .i64 (if (0 : Int) > x8 then (0 : Int) else x8)) w2))
theorem coadjutorref18_Next.vc_eq (draw : Int) (scoresA : Option Addr) (scoresN : Nat) (scoresC : Nat) (w : World) (R : Value → World → Prop) : fnV Tryz.prog Tryz.f25 .nil [(.int .i64 draw), (.slice scoresA scoresN scoresC)] w R = coadjutorref18_Next.vc draw scoresA scoresN scoresC w R := by kernel_rfl
theorem coadjutorref18_Next.calls (draw : Int) (scoresA : Option Addr) (scoresN : Nat) (scoresC : Nat) {w : World} {R : Value → World → Prop} (h : coadjutorref18_Next.vc draw scoresA scoresN scoresC w R) : Calls Tryz.prog 25 #[(.int .i64 draw), (.slice scoresA scoresN scoresC)] w (Ret R) :=
  calls_V fit Tryz.func25 .nil (by rw [show (#[(.int .i64 draw), (.slice scoresA scoresN scoresC)] : Array Value).toList = [(.int .i64 draw), (.slice scoresA scoresN scoresC)] from rfl, coadjutorref18_Next.vc_eq]; exact h)
end Go.Proofs.YtbadkcnemcnhfaaGreatDoor.Vc
