import Derived.Test.YtfhnegfoglngoaaGreatVc
import Derived.Test.YtfhnegfoglngoaaGreatH
import Derived.Test.YtfhnegfoglngoaaGreatProg
import Derived.KernelRfl
set_option linter.unusedVariables false
set_option maxRecDepth 100000
namespace Go.Proofs.YtfhnegfoglngoaaGreat.Vc
open Go Go.Proofs Go.Proofs.YtfhnegfoglngoaaGreat.V
/-- function 18 -/
def coadjutorlaw18_small.vc (c0 : Int) (c1 : Int) (c2 : Int) (c3 : Int) (c4 : Int) (c5 : Int) (w : World) (R : Value → World → Prop) : Prop :=
  ∀ w1 : World, w1 = w.alloc (.cells #[(.int .i64 c0), (.int .i64 c1), (.int .i64 c2), (.int .i64 c3), (.int .i64 c4), (.int .i64 c5)] 23 (0, 0)) →
  ∃ (x4 : Int), w1.cell? (⟨w.heap.size, 1, none⟩ : Addr) = some (.int .i64 x4) ∧
  (decide (x4 ≤ (6 : Int)) = true →
  ∃ (x8 : Int), w1.cell? (⟨w.heap.size, 4, none⟩ : Addr) = some (.int .i64 x8) ∧
  (decide (x8 ≤ (6 : Int)) = true →
  ∃ (x13 : Int), w1.cell? (⟨w.heap.size, 3, none⟩ : Addr) = some (.int .i64 x13) ∧
  (decide (x13 ≤ (2 : Int)) = true →
  ∃ (x18 : Int), w1.cell? (⟨w.heap.size, 0, none⟩ : Addr) = some (.int .i64 x18) ∧
  (decide (x18 ≤ (8 : Int)) = true →
  ∃ (x23 : Int), w1.cell? (⟨w.heap.size, 5, none⟩ : Addr) = some (.int .i64 x23) ∧
  R (.bool (decide (x23 ≤ (12 : Int)))) w1) ∧
  (decide (x18 ≤ (8 : Int)) = false →
  R (.bool false) w1)) ∧
  (decide (x13 ≤ (2 : Int)) = false →
  R (.bool false) w1)) ∧
  (decide (x8 ≤ (6 : Int)) = false →
  R (.bool false) w1)) ∧
  (decide (x4 ≤ (6 : Int)) = false →
  R (.bool false) w1)
theorem coadjutorlaw18_small.vc_eq (c0 : Int) (c1 : Int) (c2 : Int) (c3 : Int) (c4 : Int) (c5 : Int) (w : World) (R : Value → World → Prop) : fnV Tryz.prog Tryz.f18 (.at_ 1 3 (.at_ 1 8 (.at_ 1 13 (.at_ 1 18 .nil .nil) .nil) .nil) .nil) [(.agg #[(.int .i64 c0), (.int .i64 c1), (.int .i64 c2), (.int .i64 c3), (.int .i64 c4), (.int .i64 c5)])] w R = coadjutorlaw18_small.vc c0 c1 c2 c3 c4 c5 w R := by kernel_rfl
theorem coadjutorlaw18_small.calls (c0 : Int) (c1 : Int) (c2 : Int) (c3 : Int) (c4 : Int) (c5 : Int) {w : World} {R : Value → World → Prop} (h : coadjutorlaw18_small.vc c0 c1 c2 c3 c4 c5 w R) : Calls Tryz.prog 18 #[(.agg #[(.int .i64 c0), (.int .i64 c1), (.int .i64 c2), (.int .i64 c3), (.int .i64 c4), (.int .i64 c5)])] w (Ret R) :=
  calls_V fit Tryz.func18 (.at_ 1 3 (.at_ 1 8 (.at_ 1 13 (.at_ 1 18 .nil .nil) .nil) .nil) .nil) (by rw [show (#[(.agg #[(.int .i64 c0), (.int .i64 c1), (.int .i64 c2), (.int .i64 c3), (.int .i64 c4), (.int .i64 c5)])] : Array Value).toList = [(.agg #[(.int .i64 c0), (.int .i64 c1), (.int .i64 c2), (.int .i64 c3), (.int .i64 c4), (.int .i64 c5)])] from rfl, coadjutorlaw18_small.vc_eq]; exact h)
/-- function 17 -/
def coadjutorlaw18_awake.vc (w : World) (R : Value → World → Prop) : Prop :=
  ∀ w1 : World, w1 = w.alloc (.cells #[(.int .i64 0), (.int .i64 0), (.int .i64 0), (.int .i64 0), (.int .i64 0), (.int .i64 0)] 23 (0, 0)) →
  (((∃ u, w1.cell? (⟨w.heap.size, 0, none⟩ : Addr) = some u) ∧ w1.frozen? (⟨w.heap.size, 0, none⟩ : Addr) = false) ∧ ((∃ u, w1.cell? (⟨w.heap.size, 1, none⟩ : Addr) = some u) ∧ w1.frozen? (⟨w.heap.size, 1, none⟩ : Addr) = false) ∧ ((∃ u, w1.cell? (⟨w.heap.size, 2, none⟩ : Addr) = some u) ∧ w1.frozen? (⟨w.heap.size, 2, none⟩ : Addr) = false) ∧ ((∃ u, w1.cell? (⟨w.heap.size, 3, none⟩ : Addr) = some u) ∧ w1.frozen? (⟨w.heap.size, 3, none⟩ : Addr) = false) ∧ ((∃ u, w1.cell? (⟨w.heap.size, 4, none⟩ : Addr) = some u) ∧ w1.frozen? (⟨w.heap.size, 4, none⟩ : Addr) = false) ∧ ((∃ u, w1.cell? (⟨w.heap.size, 5, none⟩ : Addr) = some u) ∧ w1.frozen? (⟨w.heap.size, 5, none⟩ : Addr) = false)) ∧ ∀ w2 : World, w2 = ((((((w1.setCell (⟨w.heap.size, 0, none⟩ : Addr) (.int .i64 3)).setCell (⟨w.heap.size, 1, none⟩ : Addr) (.int .i64 2)).setCell (⟨w.heap.size, 2, none⟩ : Addr) (.int .i64 1)).setCell (⟨w.heap.size, 3, none⟩ : Addr) (.int .i64 1)).setCell (⟨w.heap.size, 4, none⟩ : Addr) (.int .i64 1)).setCell (⟨w.heap.size, 5, none⟩ : Addr) (.int .i64 4)) →
  ∃ vS : World → Prop, ∀ w3 : World, w3 = w2.drew → vS w3 ∧
  ∃ (x120 : Int), ∃ (x121 : Int), ∃ (x122 : Int), ∃ (x123 : Int), ∃ (x124 : Int), ∃ (x125 : Int), ((∀ w4, vS w4 → w4.cell? (⟨w.heap.size, 0, none⟩ : Addr) = some (.int .i64 x120)) ∧ (∀ w4, vS w4 → w4.cell? (⟨w.heap.size, 1, none⟩ : Addr) = some (.int .i64 x121)) ∧ (∀ w4, vS w4 → w4.cell? (⟨w.heap.size, 2, none⟩ : Addr) = some (.int .i64 x122)) ∧ (∀ w4, vS w4 → w4.cell? (⟨w.heap.size, 3, none⟩ : Addr) = some (.int .i64 x123)) ∧ (∀ w4, vS w4 → w4.cell? (⟨w.heap.size, 4, none⟩ : Addr) = some (.int .i64 x124)) ∧ (∀ w4, vS w4 → w4.cell? (⟨w.heap.size, 5, none⟩ : Addr) = some (.int .i64 x125))) ∧
  ((42 : Int) = (42 : Int) ∧ 0 ≤ (42 : Int) ∧ (42 : Int) * (1 : Int) ≤ 140737488355328) ∧ ∀ w5 : World, w5 = w3.alloc (.cells (zeroRow [(.int .u8 0)] (42 : Int).toNat).toArray 5 (0, 0)) →
  vS w5 ∧
  ∃ (x14 : ByteArray), ∃ w6 : World, (convert 59 9 (.slice (some (⟨w3.heap.size, 0, none⟩ : Addr)) ((42 : Int).toNat) ((42 : Int).toNat))).run Tryz.prog w5 = .ok (.string x14) w6 ∧
  vS w6 ∧
  Calls Tryz.prog 7 #[(.agg #[(.int .i64 x120), (.int .i64 x121), (.int .i64 x122), (.int .i64 x123), (.int .i64 x124), (.int .i64 x125)]), (.string x14)] w6 (Ret fun v w7 => ∃ (x15_0 : Option Addr), ∃ (x15_1 : Int), v = (.tuple #[(.pointer x15_0), (.int .i64 x15_1)]) ∧
  vS w7 ∧
  ((x15_1 != (0 : Int)) = true →
  R (.bool false) w7) ∧
  ((x15_1 != (0 : Int)) = false →
  (x15_0.isNone = true →
  R (.bool false) w7) ∧
  (x15_0.isNone = false →
  ∀ w8 : World, w8 = w7.alloc (.cells #[(.int .i64 1)] 3 (0, 0)) →
  ∀ w9 : World, w9 = w8.alloc (.cells #[(.int .i64 65536), (.int .i64 131072), (.int .i64 0)] 3 (0, 0)) →
  Calls Tryz.prog 19 #[(.pointer x15_0), (.slice (some (⟨w7.heap.size, 0, none⟩ : Addr)) 1 1), (.int .i64 3), (.slice (some (⟨w8.heap.size, 0, none⟩ : Addr)) 3 3)] w9 (Ret fun v_1 w10 => ∃ (x28_0A : Option Addr), ∃ (x28_0N : Nat), ∃ (x28_0C : Nat), ∃ (x28_1 : Int), v_1 = (.tuple #[(.slice x28_0A x28_0N x28_0C), (.int .i64 x28_1)]) ∧
  ∀ w11 : World, w11 = w10.alloc (.cells #[(.int .i64 1)] 3 (0, 0)) →
  Calls Tryz.prog 19 #[(.pointer x15_0), (.slice (some (⟨w10.heap.size, 0, none⟩ : Addr)) 1 1), (.int .i64 3), (.slice none 0 0)] w11 (Ret fun v_2 w12 => ∃ (x34_0A : Option Addr), ∃ (x34_0N : Nat), ∃ (x34_0C : Nat), ∃ (x34_1 : Int), v_2 = (.tuple #[(.slice x34_0A x34_0N x34_0C), (.int .i64 x34_1)]) ∧
  ∀ w13 : World, w13 = w12.alloc (.cells #[(.int .i64 1), (.int .i64 1)] 3 (0, 0)) →
  Calls Tryz.prog 19 #[(.pointer x15_0), (.slice (some (⟨w12.heap.size, 0, none⟩ : Addr)) 2 2), (.int .i64 3), (.slice none 0 0)] w13 (Ret fun v_3 w14 => ∃ (x40_0A : Option Addr), ∃ (x40_0N : Nat), ∃ (x40_0C : Nat), ∃ (x40_1 : Int), v_3 = (.tuple #[(.slice x40_0A x40_0N x40_0C), (.int .i64 x40_1)]) ∧
  ((x28_1 == (0 : Int)) = true →
  ∀ w15 : World, w15 = w14.alloc (.cells #[(.int .i64 1), (.int .i64 2)] 3 (0, 0)) →
  Calls Tryz.prog 22 #[(.slice x28_0A x28_0N x28_0C), (.slice (some (⟨w14.heap.size, 0, none⟩ : Addr)) 2 2)] w15 (Ret fun v_4 w16 => ∃ (x48 : Bool), v_4 = (.bool x48) ∧
  (x48 = true →
  ((x34_1 == (0 : Int)) = true →
  ((((x34_0N : Nat) : Int) == (0 : Int)) = true →
  ((x40_1 == (12 : Int)) = true →
  ∀ w17 : World, w17 = w16.alloc (.cells #[(.int .i64 8), (.int .i64 0), (.int .i64 0)] 3 (0, 0)) →
  Calls Tryz.prog 48 #[(.int .i64 1), (.slice (some (⟨w16.heap.size, 0, none⟩ : Addr)) 3 3)] w17 (Ret fun v_5 w18 => ∃ (x65 : Int), v_5 = (.int .i64 x65) ∧
  ((x65 == (0 : Int)) = true →
  ∀ w19 : World, w19 = w18.alloc (.cells #[(.int .i64 8), (.int .i64 0), (.int .i64 0)] 3 (0, 0)) →
  Calls Tryz.prog 48 #[(.int .i64 65536), (.slice (some (⟨w18.heap.size, 0, none⟩ : Addr)) 3 3)] w19 (Ret fun v_6 w20 => ∃ (x70 : Int), v_6 = (.int .i64 x70) ∧
  R (.bool (x70 == (1 : Int))) w20)) ∧
  ((x65 == (0 : Int)) = false →
  R (.bool false) w18))) ∧
  ((x40_1 == (12 : Int)) = false →
  R (.bool false) w16)) ∧
  ((((x34_0N : Nat) : Int) == (0 : Int)) = false →
  R (.bool false) w16)) ∧
  ((x34_1 == (0 : Int)) = false →
  R (.bool false) w16)) ∧
  (x48 = false →
  R (.bool false) w16))) ∧
  ((x28_1 == (0 : Int)) = false →
  R (.bool false) w14)))))))
theorem coadjutorlaw18_awake.vc_eq (w : World) (R : Value → World → Prop) : fnV Tryz.prog Tryz.f17 (.tk 0 (.alt 1 (.alt 2 (.alt 3 (.tk 4 (.tk 5 (.tk 6 (.tk 7 (.tk 8 (.fin (.at_ 3 2 (.k .nil) (.c .nil (.at_ 8 2 (.at_ 8 7 (.at_ 8 11 (.at_ 8 16 (.at_ 8 20 (.at_ 8 25 .nil .nil) .nil) .nil) .nil) .nil) .nil))))))))) .nil) .nil) .nil)) [] w R = coadjutorlaw18_awake.vc  w R := by kernel_rfl
theorem coadjutorlaw18_awake.calls {w : World} {R : Value → World → Prop} (h : coadjutorlaw18_awake.vc  w R) : Calls Tryz.prog 17 #[] w (Ret R) :=
  calls_V fit Tryz.func17 (.tk 0 (.alt 1 (.alt 2 (.alt 3 (.tk 4 (.tk 5 (.tk 6 (.tk 7 (.tk 8 (.fin (.at_ 3 2 (.k .nil) (.c .nil (.at_ 8 2 (.at_ 8 7 (.at_ 8 11 (.at_ 8 16 (.at_ 8 20 (.at_ 8 25 .nil .nil) .nil) .nil) .nil) .nil) .nil))))))))) .nil) .nil) .nil)) (by rw [show (#[] : Array Value).toList = [] from rfl, coadjutorlaw18_awake.vc_eq]; exact h)
/-- function 19 -/
def gen_Gen.vc_nil (promptA : Option Addr) (promptN : Nat) (promptC : Nat) (most : Int) (drawsA : Option Addr) (drawsN : Nat) (drawsC : Nat) (w : World) (R : Value → World → Prop) : Prop :=
  ∀ w1 : World, w1 = w.alloc (.cells #[(.slice drawsA drawsN drawsC)] 45 (0, 0)) →
  Calls Tryz.prog 49 #[(.pointer none), (.slice promptA promptN promptC), (.int .i64 most), (.func (.func 50) #[] #[(.pointer (some (⟨w.heap.size, 0, none⟩ : Addr)))])] w1 (Ret fun v w2 => ∃ (x14_0A : Option Addr), ∃ (x14_0N : Nat), ∃ (x14_0C : Nat), ∃ (x14_1 : Int), v = (.tuple #[(.slice x14_0A x14_0N x14_0C), (.int .i64 x14_1)]) ∧
  R (.tuple #[(.slice x14_0A x14_0N x14_0C), (.int .i64 x14_1)]) w2)
theorem gen_Gen.vc_nil_eq (promptA : Option Addr) (promptN : Nat) (promptC : Nat) (most : Int) (drawsA : Option Addr) (drawsN : Nat) (drawsC : Nat) (w : World) (R : Value → World → Prop) : fnV Tryz.prog Tryz.f19 .nil [(.pointer none), (.slice promptA promptN promptC), (.int .i64 most), (.slice drawsA drawsN drawsC)] w R = gen_Gen.vc_nil promptA promptN promptC most drawsA drawsN drawsC w R := by kernel_rfl
theorem gen_Gen.calls_nil (promptA : Option Addr) (promptN : Nat) (promptC : Nat) (most : Int) (drawsA : Option Addr) (drawsN : Nat) (drawsC : Nat) {w : World} {R : Value → World → Prop} (h : gen_Gen.vc_nil promptA promptN promptC most drawsA drawsN drawsC w R) : Calls Tryz.prog 19 #[(.pointer none), (.slice promptA promptN promptC), (.int .i64 most), (.slice drawsA drawsN drawsC)] w (Ret R) :=
  calls_V fit Tryz.func19 .nil (by rw [show (#[(.pointer none), (.slice promptA promptN promptC), (.int .i64 most), (.slice drawsA drawsN drawsC)] : Array Value).toList = [(.pointer none), (.slice promptA promptN promptC), (.int .i64 most), (.slice drawsA drawsN drawsC)] from rfl, gen_Gen.vc_nil_eq]; exact h)
/-- function 49 -/
def gen_say.vc_gnn (promptA : Option Addr) (promptN : Nat) (promptC : Nat) (most : Int) (c0B : Nat) (w : World) (R : Value → World → Prop) : Prop :=
  Calls Tryz.prog 23 #[(.pointer none), (.int .i64 most), (.slice promptA promptN promptC)] w (Ret fun v w1 => ∃ (x22 : Int), v = (.int .i64 x22) ∧
  ((x22 != (0 : Int)) = true →
  R (.tuple #[(.slice none 0 0), (.int .i64 x22)]) w1) ∧
  ((x22 != (0 : Int)) = false →
  Calls Tryz.prog 87 #[(.pointer none), (.slice none 0 0), (.slice promptA promptN promptC)] w1 (Ret fun v_1 w2 => ∃ (x29_0A : Option Addr), ∃ (x29_0N : Nat), ∃ (x29_0C : Nat), ∃ (x29_1A : Option Addr), ∃ (x29_1N : Nat), ∃ (x29_1C : Nat), ∃ (x29_2 : Int), v_1 = (.tuple #[(.slice x29_0A x29_0N x29_0C), (.slice x29_1A x29_1N x29_1C), (.int .i64 x29_2)]) ∧
  ((x29_2 != (0 : Int)) = true →
  R (.tuple #[(.slice none 0 0), (.int .i64 x29_2)]) w2) ∧
  ((x29_2 != (0 : Int)) = false →
  ∃ vI : Option Addr → Nat → Nat → Option Addr → Nat → Nat → Option Addr → Nat → Nat → Nat → World → Prop, (∃ vk_2 : Nat, vI x29_0A x29_0N x29_0C x29_1A x29_1N x29_1C none 0 0 vk_2 w2) ∧
  ∀ (jk : Nat → Value) (pastA : Option Addr) (pastN : Nat) (pastC : Nat) (scoresA : Option Addr) (scoresN : Nat) (scoresC : Nat) (outA : Option Addr) (outN : Nat) (outC : Nat), ∀ (vk : Nat) (w3 : World), vI pastA pastN pastC scoresA scoresN scoresC outA outN outC vk w3 →
  Calls Tryz.prog 50 #[(.int .i64 ((outN : Nat) : Int)), (.slice scoresA scoresN scoresC), (.pointer (some (⟨c0B, 0, none⟩ : Addr)))] w3 (Ret fun v_2 w4 => ∃ (x40 : Int), v_2 = (.int .i64 x40) ∧
  ((x40 == (0 : Int)) = true →
  R (.tuple #[(.slice outA outN outC), (.int .i64 0)]) w4) ∧
  ((x40 == (0 : Int)) = false →
  ∀ w5 : World, w5 = w4.alloc (.cells #[(.int .i64 x40)] 3 (0, 0)) →
  ∃ (x47A : Option Addr), ∃ (x47N : Nat), ∃ (x47C : Nat), ∃ w6 : World, (Builtin.append_ #[45, 45] 45 #[(.slice outA outN outC), (.slice (some (⟨w4.heap.size, 0, none⟩ : Addr)) 1 1)]).run Tryz.prog w5 = .ok (.slice x47A x47N x47C) w6 ∧
  ((((x47N : Nat) : Int) == most) = true →
  R (.tuple #[(.slice x47A x47N x47C), (.int .i64 0)]) w6) ∧
  ((((x47N : Nat) : Int) == most) = false →
  Calls Tryz.prog 14 #[(.pointer none), (.slice pastA pastN pastC), (.int .i64 x40)] w6 (Ret fun v_3 w7 => ∃ (x57_00A : Option Addr), ∃ (x57_00N : Nat), ∃ (x57_00C : Nat), ∃ (x57_01A : Option Addr), ∃ (x57_01N : Nat), ∃ (x57_01C : Nat), ∃ (x57_1A : Option Addr), ∃ (x57_1N : Nat), ∃ (x57_1C : Nat), ∃ (x57_2 : Int), v_3 = (.tuple #[(.agg #[(.slice x57_00A x57_00N x57_00C), (.slice x57_01A x57_01N x57_01C)]), (.slice x57_1A x57_1N x57_1C), (.int .i64 x57_2)]) ∧
  ∀ w8 : World, w8 = w7.alloc (.cells #[(.slice none 0 0), (.slice none 0 0)] 29 (0, 0)) →
  (((∃ u, w8.cell? (⟨w7.heap.size, 0, none⟩ : Addr) = some u) ∧ w8.frozen? (⟨w7.heap.size, 0, none⟩ : Addr) = false) ∧ ((∃ u, w8.cell? (⟨w7.heap.size, 1, none⟩ : Addr) = some u) ∧ w8.frozen? (⟨w7.heap.size, 1, none⟩ : Addr) = false)) ∧ ∀ w9 : World, w9 = ((w8.setCell (⟨w7.heap.size, 0, none⟩ : Addr) (.slice x57_00A x57_00N x57_00C)).setCell (⟨w7.heap.size, 1, none⟩ : Addr) (.slice x57_01A x57_01N x57_01C)) →
  ((x57_2 != (0 : Int)) = true →
  R (.tuple #[(.slice none 0 0), (.int .i64 x57_2)]) w9) ∧
  ((x57_2 != (0 : Int)) = false →
  ∃ (x650A : Option Addr), ∃ (x650N : Nat), ∃ (x650C : Nat), ∃ (x651A : Option Addr), ∃ (x651N : Nat), ∃ (x651C : Nat), (w9.cell? (⟨w7.heap.size, 0, none⟩ : Addr) = some (.slice x650A x650N x650C) ∧ w9.cell? (⟨w7.heap.size, 1, none⟩ : Addr) = some (.slice x651A x651N x651C)) ∧
  ∀ w10 : World, w10 = w9.alloc (.cells #[(.slice x650A x650N x650C), (.slice x651A x651N x651C)] 29 (0, 0)) →
  ∃ (x67A : Option Addr), ∃ (x67N : Nat), ∃ (x67C : Nat), ∃ w11 : World, (Builtin.append_ #[24, 24] 24 #[(.slice pastA pastN pastC), (.slice (some (⟨w9.heap.size, 0, none⟩ : Addr)) 1 1)]).run Tryz.prog w10 = .ok (.slice x67A x67N x67C) w11 ∧
  ∃ vk_1 : Nat, vk_1 < vk ∧ vI x67A x67N x67C x57_1A x57_1N x57_1C x47A x47N x47C vk_1 w11)))))))))
theorem gen_say.vc_gnn_eq (promptA : Option Addr) (promptN : Nat) (promptC : Nat) (most : Int) (c0B : Nat) (w : World) (R : Value → World → Prop) : fnV Tryz.prog Tryz.f49 (.c .nil (.c .nil (.lp [(8, none), (9, none), (11, some (.slice)), (12, some (.slice)), (14, some (.slice)), (15, none), (16, none), (17, none), (18, none), (36, none), (37, none), (38, none), (39, none), (40, none), (41, none), (42, none), (43, none), (44, none), (45, none), (46, none), (47, none), (48, none), (49, none), (50, none), (51, none), (52, none), (53, none), (54, none), (55, none), (56, none), (57, none), (58, none), (59, none), (60, none), (61, none), (62, none), (63, none), (64, none), (65, none), (66, none), (67, none), (68, none)] (.c .nil (.c .nil (.c .nil .nil)))))) [(.pointer none), (.slice promptA promptN promptC), (.int .i64 most), (.func (.func 50) #[] #[(.pointer (some (⟨c0B, 0, none⟩ : Addr)))])] w R = gen_say.vc_gnn promptA promptN promptC most c0B w R := by kernel_rfl
theorem gen_say.calls_gnn (promptA : Option Addr) (promptN : Nat) (promptC : Nat) (most : Int) (c0B : Nat) {w : World} {R : Value → World → Prop} (h : gen_say.vc_gnn promptA promptN promptC most c0B w R) : Calls Tryz.prog 49 #[(.pointer none), (.slice promptA promptN promptC), (.int .i64 most), (.func (.func 50) #[] #[(.pointer (some (⟨c0B, 0, none⟩ : Addr)))])] w (Ret R) :=
  calls_V fit Tryz.func49 (.c .nil (.c .nil (.lp [(8, none), (9, none), (11, some (.slice)), (12, some (.slice)), (14, some (.slice)), (15, none), (16, none), (17, none), (18, none), (36, none), (37, none), (38, none), (39, none), (40, none), (41, none), (42, none), (43, none), (44, none), (45, none), (46, none), (47, none), (48, none), (49, none), (50, none), (51, none), (52, none), (53, none), (54, none), (55, none), (56, none), (57, none), (58, none), (59, none), (60, none), (61, none), (62, none), (63, none), (64, none), (65, none), (66, none), (67, none), (68, none)] (.c .nil (.c .nil (.c .nil .nil)))))) (by rw [show (#[(.pointer none), (.slice promptA promptN promptC), (.int .i64 most), (.func (.func 50) #[] #[(.pointer (some (⟨c0B, 0, none⟩ : Addr)))])] : Array Value).toList = [(.pointer none), (.slice promptA promptN promptC), (.int .i64 most), (.func (.func 50) #[] #[(.pointer (some (⟨c0B, 0, none⟩ : Addr)))])] from rfl, gen_say.vc_gnn_eq]; exact h)
/-- function 21 -/
def gen_Greedy.vc_nil (promptA : Option Addr) (promptN : Nat) (promptC : Nat) (most : Int) (w : World) (R : Value → World → Prop) : Prop :=
  Calls Tryz.prog 49 #[(.pointer none), (.slice promptA promptN promptC), (.int .i64 most), (.func (.func 54) #[] #[])] w (Ret fun v w1 => ∃ (x11_0A : Option Addr), ∃ (x11_0N : Nat), ∃ (x11_0C : Nat), ∃ (x11_1 : Int), v = (.tuple #[(.slice x11_0A x11_0N x11_0C), (.int .i64 x11_1)]) ∧
  R (.tuple #[(.slice x11_0A x11_0N x11_0C), (.int .i64 x11_1)]) w1)
theorem gen_Greedy.vc_nil_eq (promptA : Option Addr) (promptN : Nat) (promptC : Nat) (most : Int) (w : World) (R : Value → World → Prop) : fnV Tryz.prog Tryz.f21 .nil [(.pointer none), (.slice promptA promptN promptC), (.int .i64 most)] w R = gen_Greedy.vc_nil promptA promptN promptC most w R := by kernel_rfl
theorem gen_Greedy.calls_nil (promptA : Option Addr) (promptN : Nat) (promptC : Nat) (most : Int) {w : World} {R : Value → World → Prop} (h : gen_Greedy.vc_nil promptA promptN promptC most w R) : Calls Tryz.prog 21 #[(.pointer none), (.slice promptA promptN promptC), (.int .i64 most)] w (Ret R) :=
  calls_V fit Tryz.func21 .nil (by rw [show (#[(.pointer none), (.slice promptA promptN promptC), (.int .i64 most)] : Array Value).toList = [(.pointer none), (.slice promptA promptN promptC), (.int .i64 most)] from rfl, gen_Greedy.vc_nil_eq]; exact h)
/-- function 49 -/
def gen_say.vc_grn (promptA : Option Addr) (promptN : Nat) (promptC : Nat) (most : Int) (w : World) (R : Value → World → Prop) : Prop :=
  Calls Tryz.prog 23 #[(.pointer none), (.int .i64 most), (.slice promptA promptN promptC)] w (Ret fun v w1 => ∃ (x22 : Int), v = (.int .i64 x22) ∧
  ((x22 != (0 : Int)) = true →
  R (.tuple #[(.slice none 0 0), (.int .i64 x22)]) w1) ∧
  ((x22 != (0 : Int)) = false →
  Calls Tryz.prog 87 #[(.pointer none), (.slice none 0 0), (.slice promptA promptN promptC)] w1 (Ret fun v_1 w2 => ∃ (x29_0A : Option Addr), ∃ (x29_0N : Nat), ∃ (x29_0C : Nat), ∃ (x29_1A : Option Addr), ∃ (x29_1N : Nat), ∃ (x29_1C : Nat), ∃ (x29_2 : Int), v_1 = (.tuple #[(.slice x29_0A x29_0N x29_0C), (.slice x29_1A x29_1N x29_1C), (.int .i64 x29_2)]) ∧
  ((x29_2 != (0 : Int)) = true →
  R (.tuple #[(.slice none 0 0), (.int .i64 x29_2)]) w2) ∧
  ((x29_2 != (0 : Int)) = false →
  ∃ vI : Option Addr → Nat → Nat → Option Addr → Nat → Nat → Option Addr → Nat → Nat → Nat → World → Prop, (∃ vk_2 : Nat, vI x29_0A x29_0N x29_0C x29_1A x29_1N x29_1C none 0 0 vk_2 w2) ∧
  ∀ (jk : Nat → Value) (pastA : Option Addr) (pastN : Nat) (pastC : Nat) (scoresA : Option Addr) (scoresN : Nat) (scoresC : Nat) (outA : Option Addr) (outN : Nat) (outC : Nat), ∀ (vk : Nat) (w3 : World), vI pastA pastN pastC scoresA scoresN scoresC outA outN outC vk w3 →
  Calls Tryz.prog 54 #[(.int .i64 ((outN : Nat) : Int)), (.slice scoresA scoresN scoresC)] w3 (Ret fun v_2 w4 => ∃ (x40 : Int), v_2 = (.int .i64 x40) ∧
  ((x40 == (0 : Int)) = true →
  R (.tuple #[(.slice outA outN outC), (.int .i64 0)]) w4) ∧
  ((x40 == (0 : Int)) = false →
  ∀ w5 : World, w5 = w4.alloc (.cells #[(.int .i64 x40)] 3 (0, 0)) →
  ∃ (x47A : Option Addr), ∃ (x47N : Nat), ∃ (x47C : Nat), ∃ w6 : World, (Builtin.append_ #[45, 45] 45 #[(.slice outA outN outC), (.slice (some (⟨w4.heap.size, 0, none⟩ : Addr)) 1 1)]).run Tryz.prog w5 = .ok (.slice x47A x47N x47C) w6 ∧
  ((((x47N : Nat) : Int) == most) = true →
  R (.tuple #[(.slice x47A x47N x47C), (.int .i64 0)]) w6) ∧
  ((((x47N : Nat) : Int) == most) = false →
  Calls Tryz.prog 14 #[(.pointer none), (.slice pastA pastN pastC), (.int .i64 x40)] w6 (Ret fun v_3 w7 => ∃ (x57_00A : Option Addr), ∃ (x57_00N : Nat), ∃ (x57_00C : Nat), ∃ (x57_01A : Option Addr), ∃ (x57_01N : Nat), ∃ (x57_01C : Nat), ∃ (x57_1A : Option Addr), ∃ (x57_1N : Nat), ∃ (x57_1C : Nat), ∃ (x57_2 : Int), v_3 = (.tuple #[(.agg #[(.slice x57_00A x57_00N x57_00C), (.slice x57_01A x57_01N x57_01C)]), (.slice x57_1A x57_1N x57_1C), (.int .i64 x57_2)]) ∧
  ∀ w8 : World, w8 = w7.alloc (.cells #[(.slice none 0 0), (.slice none 0 0)] 29 (0, 0)) →
  (((∃ u, w8.cell? (⟨w7.heap.size, 0, none⟩ : Addr) = some u) ∧ w8.frozen? (⟨w7.heap.size, 0, none⟩ : Addr) = false) ∧ ((∃ u, w8.cell? (⟨w7.heap.size, 1, none⟩ : Addr) = some u) ∧ w8.frozen? (⟨w7.heap.size, 1, none⟩ : Addr) = false)) ∧ ∀ w9 : World, w9 = ((w8.setCell (⟨w7.heap.size, 0, none⟩ : Addr) (.slice x57_00A x57_00N x57_00C)).setCell (⟨w7.heap.size, 1, none⟩ : Addr) (.slice x57_01A x57_01N x57_01C)) →
  ((x57_2 != (0 : Int)) = true →
  R (.tuple #[(.slice none 0 0), (.int .i64 x57_2)]) w9) ∧
  ((x57_2 != (0 : Int)) = false →
  ∃ (x650A : Option Addr), ∃ (x650N : Nat), ∃ (x650C : Nat), ∃ (x651A : Option Addr), ∃ (x651N : Nat), ∃ (x651C : Nat), (w9.cell? (⟨w7.heap.size, 0, none⟩ : Addr) = some (.slice x650A x650N x650C) ∧ w9.cell? (⟨w7.heap.size, 1, none⟩ : Addr) = some (.slice x651A x651N x651C)) ∧
  ∀ w10 : World, w10 = w9.alloc (.cells #[(.slice x650A x650N x650C), (.slice x651A x651N x651C)] 29 (0, 0)) →
  ∃ (x67A : Option Addr), ∃ (x67N : Nat), ∃ (x67C : Nat), ∃ w11 : World, (Builtin.append_ #[24, 24] 24 #[(.slice pastA pastN pastC), (.slice (some (⟨w9.heap.size, 0, none⟩ : Addr)) 1 1)]).run Tryz.prog w10 = .ok (.slice x67A x67N x67C) w11 ∧
  ∃ vk_1 : Nat, vk_1 < vk ∧ vI x67A x67N x67C x57_1A x57_1N x57_1C x47A x47N x47C vk_1 w11)))))))))
theorem gen_say.vc_grn_eq (promptA : Option Addr) (promptN : Nat) (promptC : Nat) (most : Int) (w : World) (R : Value → World → Prop) : fnV Tryz.prog Tryz.f49 (.c .nil (.c .nil (.lp [(8, none), (9, none), (11, some (.slice)), (12, some (.slice)), (14, some (.slice)), (15, none), (16, none), (17, none), (18, none), (36, none), (37, none), (38, none), (39, none), (40, none), (41, none), (42, none), (43, none), (44, none), (45, none), (46, none), (47, none), (48, none), (49, none), (50, none), (51, none), (52, none), (53, none), (54, none), (55, none), (56, none), (57, none), (58, none), (59, none), (60, none), (61, none), (62, none), (63, none), (64, none), (65, none), (66, none), (67, none), (68, none)] (.c .nil (.c .nil (.c .nil .nil)))))) [(.pointer none), (.slice promptA promptN promptC), (.int .i64 most), (.func (.func 54) #[] #[])] w R = gen_say.vc_grn promptA promptN promptC most w R := by kernel_rfl
theorem gen_say.calls_grn (promptA : Option Addr) (promptN : Nat) (promptC : Nat) (most : Int) {w : World} {R : Value → World → Prop} (h : gen_say.vc_grn promptA promptN promptC most w R) : Calls Tryz.prog 49 #[(.pointer none), (.slice promptA promptN promptC), (.int .i64 most), (.func (.func 54) #[] #[])] w (Ret R) :=
  calls_V fit Tryz.func49 (.c .nil (.c .nil (.lp [(8, none), (9, none), (11, some (.slice)), (12, some (.slice)), (14, some (.slice)), (15, none), (16, none), (17, none), (18, none), (36, none), (37, none), (38, none), (39, none), (40, none), (41, none), (42, none), (43, none), (44, none), (45, none), (46, none), (47, none), (48, none), (49, none), (50, none), (51, none), (52, none), (53, none), (54, none), (55, none), (56, none), (57, none), (58, none), (59, none), (60, none), (61, none), (62, none), (63, none), (64, none), (65, none), (66, none), (67, none), (68, none)] (.c .nil (.c .nil (.c .nil .nil)))))) (by rw [show (#[(.pointer none), (.slice promptA promptN promptC), (.int .i64 most), (.func (.func 54) #[] #[])] : Array Value).toList = [(.pointer none), (.slice promptA promptN promptC), (.int .i64 most), (.func (.func 54) #[] #[])] from rfl, gen_say.vc_grn_eq]; exact h)
/-- function 52 -/
def coadjutorref18_Next.vc (draw : Int) (scoresA : Option Addr) (scoresN : Nat) (scoresC : Nat) (w : World) (R : Value → World → Prop) : Prop :=
  Calls Tryz.prog 80 #[(.slice scoresA scoresN scoresC)] w (Ret fun v w1 => ∃ (x7A : Option Addr), ∃ (x7N : Nat), ∃ (x7C : Nat), v = (.slice x7A x7N x7C) ∧
  Calls Tryz.prog 88 #[(.int .i64 draw), (.slice x7A x7N x7C)] w1 (Ret fun v_1 w2 => ∃ (x8 : Int), v_1 = (.int .i64 x8) ∧
  R (.int .i64 (if (0 : Int) > x8 then (0 : Int) else x8)) w2))
theorem coadjutorref18_Next.vc_eq (draw : Int) (scoresA : Option Addr) (scoresN : Nat) (scoresC : Nat) (w : World) (R : Value → World → Prop) : fnV Tryz.prog Tryz.f52 .nil [(.int .i64 draw), (.slice scoresA scoresN scoresC)] w R = coadjutorref18_Next.vc draw scoresA scoresN scoresC w R := by kernel_rfl
theorem coadjutorref18_Next.calls (draw : Int) (scoresA : Option Addr) (scoresN : Nat) (scoresC : Nat) {w : World} {R : Value → World → Prop} (h : coadjutorref18_Next.vc draw scoresA scoresN scoresC w R) : Calls Tryz.prog 52 #[(.int .i64 draw), (.slice scoresA scoresN scoresC)] w (Ret R) :=
  calls_V fit Tryz.func52 .nil (by rw [show (#[(.int .i64 draw), (.slice scoresA scoresN scoresC)] : Array Value).toList = [(.int .i64 draw), (.slice scoresA scoresN scoresC)] from rfl, coadjutorref18_Next.vc_eq]; exact h)
end Go.Proofs.YtfhnegfoglngoaaGreat.Vc
