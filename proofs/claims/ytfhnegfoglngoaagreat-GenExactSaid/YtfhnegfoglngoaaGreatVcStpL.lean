import Derived.Test.YtfhnegfoglngoaaGreatVc
import Derived.Test.YtfhnegfoglngoaaGreatH
import Derived.Test.YtfhnegfoglngoaaGreatProg
import Derived.KernelRfl
set_option linter.unusedVariables false
set_option maxRecDepth 100000
namespace Go.Proofs.YtfhnegfoglngoaaGreat.Vc
open Go Go.Proofs Go.Proofs.YtfhnegfoglngoaaGreat.V
/-- function 6 -/
def coadjutorlaw17_small.vc (c0 : Int) (c1 : Int) (c2 : Int) (c3 : Int) (c4 : Int) (c5 : Int) (w : World) (R : Value → World → Prop) : Prop :=
  ∀ w1 : World, w1 = w.alloc (.cells #[(.int .i64 c0), (.int .i64 c1), (.int .i64 c2), (.int .i64 c3), (.int .i64 c4), (.int .i64 c5)] 23 (0, 0)) →
  ∃ (x4 : Int), w1.cell? (⟨w.heap.size, 1, none⟩ : Addr) = some (.int .i64 x4) ∧
  (decide (x4 ≤ (6 : Int)) = true →
  ∃ (x8 : Int), w1.cell? (⟨w.heap.size, 4, none⟩ : Addr) = some (.int .i64 x8) ∧
  (decide (x8 ≤ (6 : Int)) = true →
  ∃ (x13 : Int), w1.cell? (⟨w.heap.size, 3, none⟩ : Addr) = some (.int .i64 x13) ∧
  (decide (x13 ≤ (2 : Int)) = true →
  ∃ (x18 : Int), w1.cell? (⟨w.heap.size, 0, none⟩ : Addr) = some (.int .i64 x18) ∧
  R (.bool (decide (x18 ≤ (8 : Int)))) w1) ∧
  (decide (x13 ≤ (2 : Int)) = false →
  R (.bool false) w1)) ∧
  (decide (x8 ≤ (6 : Int)) = false →
  R (.bool false) w1)) ∧
  (decide (x4 ≤ (6 : Int)) = false →
  R (.bool false) w1)
theorem coadjutorlaw17_small.vc_eq (c0 : Int) (c1 : Int) (c2 : Int) (c3 : Int) (c4 : Int) (c5 : Int) (w : World) (R : Value → World → Prop) : fnV Tryz.prog Tryz.f6 (.at_ 1 3 (.at_ 1 8 (.at_ 1 13 .nil .nil) .nil) .nil) [(.agg #[(.int .i64 c0), (.int .i64 c1), (.int .i64 c2), (.int .i64 c3), (.int .i64 c4), (.int .i64 c5)])] w R = coadjutorlaw17_small.vc c0 c1 c2 c3 c4 c5 w R := by kernel_rfl
theorem coadjutorlaw17_small.calls (c0 : Int) (c1 : Int) (c2 : Int) (c3 : Int) (c4 : Int) (c5 : Int) {w : World} {R : Value → World → Prop} (h : coadjutorlaw17_small.vc c0 c1 c2 c3 c4 c5 w R) : Calls Tryz.prog 6 #[(.agg #[(.int .i64 c0), (.int .i64 c1), (.int .i64 c2), (.int .i64 c3), (.int .i64 c4), (.int .i64 c5)])] w (Ret R) :=
  calls_V fit Tryz.func6 (.at_ 1 3 (.at_ 1 8 (.at_ 1 13 .nil .nil) .nil) .nil) (by rw [show (#[(.agg #[(.int .i64 c0), (.int .i64 c1), (.int .i64 c2), (.int .i64 c3), (.int .i64 c4), (.int .i64 c5)])] : Array Value).toList = [(.agg #[(.int .i64 c0), (.int .i64 c1), (.int .i64 c2), (.int .i64 c3), (.int .i64 c4), (.int .i64 c5)])] from rfl, coadjutorlaw17_small.vc_eq]; exact h)
/-- function 5 -/
def coadjutorlaw17_awake.vc (w : World) (R : Value → World → Prop) : Prop :=
  ∀ w1 : World, w1 = w.alloc (.cells #[(.int .i64 0), (.int .i64 0), (.int .i64 0), (.int .i64 0), (.int .i64 0), (.int .i64 0)] 23 (0, 0)) →
  (((∃ u, w1.cell? (⟨w.heap.size, 0, none⟩ : Addr) = some u) ∧ w1.frozen? (⟨w.heap.size, 0, none⟩ : Addr) = false) ∧ ((∃ u, w1.cell? (⟨w.heap.size, 1, none⟩ : Addr) = some u) ∧ w1.frozen? (⟨w.heap.size, 1, none⟩ : Addr) = false) ∧ ((∃ u, w1.cell? (⟨w.heap.size, 2, none⟩ : Addr) = some u) ∧ w1.frozen? (⟨w.heap.size, 2, none⟩ : Addr) = false) ∧ ((∃ u, w1.cell? (⟨w.heap.size, 3, none⟩ : Addr) = some u) ∧ w1.frozen? (⟨w.heap.size, 3, none⟩ : Addr) = false) ∧ ((∃ u, w1.cell? (⟨w.heap.size, 4, none⟩ : Addr) = some u) ∧ w1.frozen? (⟨w.heap.size, 4, none⟩ : Addr) = false) ∧ ((∃ u, w1.cell? (⟨w.heap.size, 5, none⟩ : Addr) = some u) ∧ w1.frozen? (⟨w.heap.size, 5, none⟩ : Addr) = false)) ∧ ∀ w2 : World, w2 = ((((((w1.setCell (⟨w.heap.size, 0, none⟩ : Addr) (.int .i64 3)).setCell (⟨w.heap.size, 1, none⟩ : Addr) (.int .i64 2)).setCell (⟨w.heap.size, 2, none⟩ : Addr) (.int .i64 1)).setCell (⟨w.heap.size, 3, none⟩ : Addr) (.int .i64 1)).setCell (⟨w.heap.size, 4, none⟩ : Addr) (.int .i64 1)).setCell (⟨w.heap.size, 5, none⟩ : Addr) (.int .i64 2)) →
  ∃ vS : World → Prop, ∀ w3 : World, w3 = w2.drew → vS w3 ∧
  ∃ (x180 : Int), ∃ (x181 : Int), ∃ (x182 : Int), ∃ (x183 : Int), ∃ (x184 : Int), ∃ (x185 : Int), ((∀ w4, vS w4 → w4.cell? (⟨w.heap.size, 0, none⟩ : Addr) = some (.int .i64 x180)) ∧ (∀ w4, vS w4 → w4.cell? (⟨w.heap.size, 1, none⟩ : Addr) = some (.int .i64 x181)) ∧ (∀ w4, vS w4 → w4.cell? (⟨w.heap.size, 2, none⟩ : Addr) = some (.int .i64 x182)) ∧ (∀ w4, vS w4 → w4.cell? (⟨w.heap.size, 3, none⟩ : Addr) = some (.int .i64 x183)) ∧ (∀ w4, vS w4 → w4.cell? (⟨w.heap.size, 4, none⟩ : Addr) = some (.int .i64 x184)) ∧ (∀ w4, vS w4 → w4.cell? (⟨w.heap.size, 5, none⟩ : Addr) = some (.int .i64 x185))) ∧
  ((38 : Int) = (38 : Int) ∧ 0 ≤ (38 : Int) ∧ (38 : Int) * (1 : Int) ≤ 140737488355328) ∧ ∀ w5 : World, w5 = w3.alloc (.cells (zeroRow [(.int .u8 0)] (38 : Int).toNat).toArray 5 (0, 0)) →
  vS w5 ∧
  ∃ (x20 : ByteArray), ∃ w6 : World, (convert 59 9 (.slice (some (⟨w3.heap.size, 0, none⟩ : Addr)) ((38 : Int).toNat) ((38 : Int).toNat))).run Tryz.prog w5 = .ok (.string x20) w6 ∧
  vS w6 ∧
  Calls Tryz.prog 7 #[(.agg #[(.int .i64 x180), (.int .i64 x181), (.int .i64 x182), (.int .i64 x183), (.int .i64 x184), (.int .i64 x185)]), (.string x20)] w6 (Ret fun v w7 => ∃ (x21_0 : Option Addr), ∃ (x21_1 : Int), v = (.tuple #[(.pointer x21_0), (.int .i64 x21_1)]) ∧
  vS w7 ∧
  ((x21_1 != (0 : Int)) = true →
  R (.bool false) w7) ∧
  ((x21_1 != (0 : Int)) = false →
  (x21_0.isNone = true →
  R (.bool false) w7) ∧
  (x21_0.isNone = false →
  Calls Tryz.prog 14 #[(.pointer x21_0), (.slice none 0 0), (.int .i64 1)] w7 (Ret fun v_1 w8 => ∃ (x32_00A : Option Addr), ∃ (x32_00N : Nat), ∃ (x32_00C : Nat), ∃ (x32_01A : Option Addr), ∃ (x32_01N : Nat), ∃ (x32_01C : Nat), ∃ (x32_1A : Option Addr), ∃ (x32_1N : Nat), ∃ (x32_1C : Nat), ∃ (x32_2 : Int), v_1 = (.tuple #[(.agg #[(.slice x32_00A x32_00N x32_00C), (.slice x32_01A x32_01N x32_01C)]), (.slice x32_1A x32_1N x32_1C), (.int .i64 x32_2)]) ∧
  ∀ w9 : World, w9 = w8.alloc (.cells #[(.slice none 0 0), (.slice none 0 0)] 29 (0, 0)) →
  (((∃ u, w9.cell? (⟨w8.heap.size, 0, none⟩ : Addr) = some u) ∧ w9.frozen? (⟨w8.heap.size, 0, none⟩ : Addr) = false) ∧ ((∃ u, w9.cell? (⟨w8.heap.size, 1, none⟩ : Addr) = some u) ∧ w9.frozen? (⟨w8.heap.size, 1, none⟩ : Addr) = false)) ∧ ∀ w10 : World, w10 = ((w9.setCell (⟨w8.heap.size, 0, none⟩ : Addr) (.slice x32_00A x32_00N x32_00C)).setCell (⟨w8.heap.size, 1, none⟩ : Addr) (.slice x32_01A x32_01N x32_01C)) →
  ∃ (x380A : Option Addr), ∃ (x380N : Nat), ∃ (x380C : Nat), ∃ (x381A : Option Addr), ∃ (x381N : Nat), ∃ (x381C : Nat), (w10.cell? (⟨w8.heap.size, 0, none⟩ : Addr) = some (.slice x380A x380N x380C) ∧ w10.cell? (⟨w8.heap.size, 1, none⟩ : Addr) = some (.slice x381A x381N x381C)) ∧
  ∃ (x390A : Option Addr), ∃ (x390N : Nat), ∃ (x390C : Nat), ∃ (x391A : Option Addr), ∃ (x391N : Nat), ∃ (x391C : Nat), (w10.cell? (⟨w8.heap.size, 0, none⟩ : Addr) = some (.slice x390A x390N x390C) ∧ w10.cell? (⟨w8.heap.size, 1, none⟩ : Addr) = some (.slice x391A x391N x391C)) ∧
  ∀ w11 : World, w11 = w10.alloc (.cells #[(.slice x380A x380N x380C), (.slice x381A x381N x381C), (.slice x390A x390N x390C), (.slice x391A x391N x391C)] 29 (0, 0)) →
  Calls Tryz.prog 14 #[(.pointer x21_0), (.slice (some (⟨w10.heap.size, 0, none⟩ : Addr)) 2 2), (.int .i64 1)] w11 (Ret fun v_2 w12 => ∃ (x41_00A : Option Addr), ∃ (x41_00N : Nat), ∃ (x41_00C : Nat), ∃ (x41_01A : Option Addr), ∃ (x41_01N : Nat), ∃ (x41_01C : Nat), ∃ (x41_1A : Option Addr), ∃ (x41_1N : Nat), ∃ (x41_1C : Nat), ∃ (x41_2 : Int), v_2 = (.tuple #[(.agg #[(.slice x41_00A x41_00N x41_00C), (.slice x41_01A x41_01N x41_01C)]), (.slice x41_1A x41_1N x41_1C), (.int .i64 x41_2)]) ∧
  ∀ w13 : World, w13 = w12.alloc (.cells #[(.slice none 0 0), (.slice none 0 0)] 29 (0, 0)) →
  (((∃ u, w13.cell? (⟨w12.heap.size, 0, none⟩ : Addr) = some u) ∧ w13.frozen? (⟨w12.heap.size, 0, none⟩ : Addr) = false) ∧ ((∃ u, w13.cell? (⟨w12.heap.size, 1, none⟩ : Addr) = some u) ∧ w13.frozen? (⟨w12.heap.size, 1, none⟩ : Addr) = false)) ∧ ∀ w14 : World, w14 = ((w13.setCell (⟨w12.heap.size, 0, none⟩ : Addr) (.slice x41_00A x41_00N x41_00C)).setCell (⟨w12.heap.size, 1, none⟩ : Addr) (.slice x41_01A x41_01N x41_01C)) →
  Calls Tryz.prog 14 #[(.pointer x21_0), (.slice none 0 0), (.int .i64 3)] w14 (Ret fun v_3 w15 => ∃ (x47_00A : Option Addr), ∃ (x47_00N : Nat), ∃ (x47_00C : Nat), ∃ (x47_01A : Option Addr), ∃ (x47_01N : Nat), ∃ (x47_01C : Nat), ∃ (x47_1A : Option Addr), ∃ (x47_1N : Nat), ∃ (x47_1C : Nat), ∃ (x47_2 : Int), v_3 = (.tuple #[(.agg #[(.slice x47_00A x47_00N x47_00C), (.slice x47_01A x47_01N x47_01C)]), (.slice x47_1A x47_1N x47_1C), (.int .i64 x47_2)]) ∧
  ∀ w16 : World, w16 = w15.alloc (.cells #[(.slice none 0 0), (.slice none 0 0)] 29 (0, 0)) →
  (((∃ u, w16.cell? (⟨w15.heap.size, 0, none⟩ : Addr) = some u) ∧ w16.frozen? (⟨w15.heap.size, 0, none⟩ : Addr) = false) ∧ ((∃ u, w16.cell? (⟨w15.heap.size, 1, none⟩ : Addr) = some u) ∧ w16.frozen? (⟨w15.heap.size, 1, none⟩ : Addr) = false)) ∧ ∀ w17 : World, w17 = ((w16.setCell (⟨w15.heap.size, 0, none⟩ : Addr) (.slice x47_00A x47_00N x47_00C)).setCell (⟨w15.heap.size, 1, none⟩ : Addr) (.slice x47_01A x47_01N x47_01C)) →
  Calls Tryz.prog 14 #[(.pointer none), (.slice none 0 0), (.int .i64 0)] w17 (Ret fun v_4 w18 => ∃ (x52_00A : Option Addr), ∃ (x52_00N : Nat), ∃ (x52_00C : Nat), ∃ (x52_01A : Option Addr), ∃ (x52_01N : Nat), ∃ (x52_01C : Nat), ∃ (x52_1A : Option Addr), ∃ (x52_1N : Nat), ∃ (x52_1C : Nat), ∃ (x52_2 : Int), v_4 = (.tuple #[(.agg #[(.slice x52_00A x52_00N x52_00C), (.slice x52_01A x52_01N x52_01C)]), (.slice x52_1A x52_1N x52_1C), (.int .i64 x52_2)]) ∧
  ∀ w19 : World, w19 = w18.alloc (.cells #[(.slice none 0 0), (.slice none 0 0)] 29 (0, 0)) →
  (((∃ u, w19.cell? (⟨w18.heap.size, 0, none⟩ : Addr) = some u) ∧ w19.frozen? (⟨w18.heap.size, 0, none⟩ : Addr) = false) ∧ ((∃ u, w19.cell? (⟨w18.heap.size, 1, none⟩ : Addr) = some u) ∧ w19.frozen? (⟨w18.heap.size, 1, none⟩ : Addr) = false)) ∧ ∀ w20 : World, w20 = ((w19.setCell (⟨w18.heap.size, 0, none⟩ : Addr) (.slice x52_00A x52_00N x52_00C)).setCell (⟨w18.heap.size, 1, none⟩ : Addr) (.slice x52_01A x52_01N x52_01C)) →
  ((x32_2 == (0 : Int)) = true →
  ∀ w21 : World, w21 = w20.alloc (.cells #[(.int .i64 0), (.int .i64 0), (.int .i64 0)] 3 (0, 0)) →
  Calls Tryz.prog 16 #[(.slice x32_1A x32_1N x32_1C), (.slice (some (⟨w20.heap.size, 0, none⟩ : Addr)) 3 3)] w21 (Ret fun v_5 w22 => ∃ (x61 : Bool), v_5 = (.bool x61) ∧
  (x61 = true →
  ∃ (x650A : Option Addr), ∃ (x650N : Nat), ∃ (x650C : Nat), ∃ (x651A : Option Addr), ∃ (x651N : Nat), ∃ (x651C : Nat), (w22.cell? (⟨w8.heap.size, 0, none⟩ : Addr) = some (.slice x650A x650N x650C) ∧ w22.cell? (⟨w8.heap.size, 1, none⟩ : Addr) = some (.slice x651A x651N x651C)) ∧
  Calls Tryz.prog 10 #[(.pointer x21_0), (.agg #[(.slice x650A x650N x650C), (.slice x651A x651N x651C)])] w22 (Ret fun v_6 w23 => ∃ (x66 : Bool), v_6 = (.bool x66) ∧
  (x66 = true →
  ((x41_2 == (12 : Int)) = true →
  ((x47_2 == (3 : Int)) = true →
  R (.bool (x52_2 == (2 : Int))) w23) ∧
  ((x47_2 == (3 : Int)) = false →
  R (.bool false) w23)) ∧
  ((x41_2 == (12 : Int)) = false →
  R (.bool false) w23)) ∧
  (x66 = false →
  R (.bool false) w23))) ∧
  (x61 = false →
  R (.bool false) w22))) ∧
  ((x32_2 == (0 : Int)) = false →
  R (.bool false) w20))))))))
theorem coadjutorlaw17_awake.vc_eq (w : World) (R : Value → World → Prop) : fnV Tryz.prog Tryz.f5 (.tk 0 (.alt 1 (.alt 2 (.alt 3 (.tk 4 (.tk 5 (.tk 6 (.tk 7 (.tk 8 (.fin (.at_ 3 2 (.k .nil) (.c .nil (.at_ 9 2 (.at_ 9 7 (.at_ 9 12 (.at_ 9 16 (.at_ 9 20 .nil .nil) .nil) .nil) .nil) .nil))))))))) .nil) .nil) .nil)) [] w R = coadjutorlaw17_awake.vc  w R := by kernel_rfl
theorem coadjutorlaw17_awake.calls {w : World} {R : Value → World → Prop} (h : coadjutorlaw17_awake.vc  w R) : Calls Tryz.prog 5 #[] w (Ret R) :=
  calls_V fit Tryz.func5 (.tk 0 (.alt 1 (.alt 2 (.alt 3 (.tk 4 (.tk 5 (.tk 6 (.tk 7 (.tk 8 (.fin (.at_ 3 2 (.k .nil) (.c .nil (.at_ 9 2 (.at_ 9 7 (.at_ 9 12 (.at_ 9 16 (.at_ 9 20 .nil .nil) .nil) .nil) .nil) .nil))))))))) .nil) .nil) .nil)) (by rw [show (#[] : Array Value).toList = [] from rfl, coadjutorlaw17_awake.vc_eq]; exact h)
end Go.Proofs.YtfhnegfoglngoaaGreat.Vc
