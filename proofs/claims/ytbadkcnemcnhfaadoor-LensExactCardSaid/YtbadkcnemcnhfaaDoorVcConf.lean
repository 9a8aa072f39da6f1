import Derived.Test.YtbadkcnemcnhfaaDoorVc
import Derived.Test.YtbadkcnemcnhfaaDoorH
import Derived.Test.YtbadkcnemcnhfaaDoorProg
import Derived.KernelRfl
set_option linter.unusedVariables false
set_option maxRecDepth 100000
namespace Go.Proofs.YtbadkcnemcnhfaaDoor.Vc
open Go Go.Proofs Go.Proofs.YtbadkcnemcnhfaaDoor.V
/-- function 34 -/
def conf_within.vc (n : Int) (vfrom : Int) (to : Int) (w : World) (R : Value → World → Prop) : Prop :=
  (decide (n ≥ vfrom) = true →
  R (.bool (decide (n ≤ to))) w) ∧
  (decide (n ≥ vfrom) = false →
  R (.bool false) w)
theorem conf_within.vc_eq (n : Int) (vfrom : Int) (to : Int) (w : World) (R : Value → World → Prop) : fnV Tryd.prog Tryd.f34 (.at_ 1 3 .nil .nil) [(.int .i64 n), (.int .i64 vfrom), (.int .i64 to)] w R = conf_within.vc n vfrom to w R := by kernel_rfl
theorem conf_within.calls (n : Int) (vfrom : Int) (to : Int) {w : World} {R : Value → World → Prop} (h : conf_within.vc n vfrom to w R) : Calls Tryd.prog 34 #[(.int .i64 n), (.int .i64 vfrom), (.int .i64 to)] w (Ret R) :=
  calls_V fit Tryd.func34 (.at_ 1 3 .nil .nil) (by rw [show (#[(.int .i64 n), (.int .i64 vfrom), (.int .i64 to)] : Array Value).toList = [(.int .i64 n), (.int .i64 vfrom), (.int .i64 to)] from rfl, conf_within.vc_eq]; exact h)
/-- function 45 -/
def conf_Shape_side.vc (s0 : Int) (s1 : Int) (s2 : Int) (s3 : Int) (s4 : Int) (s5 : Int) (part : Int) (w : World) (R : Value → World → Prop) : Prop :=
  ∀ w1 : World, w1 = w.alloc (.cells #[(.int .i64 s0), (.int .i64 s1), (.int .i64 s2), (.int .i64 s3), (.int .i64 s4), (.int .i64 s5)] 57 (0, 0)) →
  ((part == (0 : Int)) = true →
  ∃ vS : World → Prop, ∀ w2 : World, w2 = w1.drew → vS w2 ∧
  ∃ (x11 : Int), (∀ w3, vS w3 → w3.cell? (⟨w.heap.size, 0, none⟩ : Addr) = some (.int .i64 x11)) ∧
  ∃ (x14 : Int), (∀ w4, vS w4 → w4.cell? (⟨w.heap.size, 1, none⟩ : Addr) = some (.int .i64 x14)) ∧
  R (.tuple #[(.int .i64 x11), (.int .i64 x14)]) w2) ∧
  ((part == (0 : Int)) = false →
  ((part == (1 : Int)) = true →
  ∃ vS_1 : World → Prop, ∀ w5 : World, w5 = w1.drew → vS_1 w5 ∧
  ∃ (x19 : Int), (∀ w6, vS_1 w6 → w6.cell? (⟨w.heap.size, 5, none⟩ : Addr) = some (.int .i64 x19)) ∧
  ∃ (x22 : Int), (∀ w7, vS_1 w7 → w7.cell? (⟨w.heap.size, 1, none⟩ : Addr) = some (.int .i64 x22)) ∧
  R (.tuple #[(.int .i64 x19), (.int .i64 x22)]) w5) ∧
  ((part == (1 : Int)) = false →
  ((part == (2 : Int)) = true →
  (part == (2 : Int)) = true ∧
  ∃ vS_2 : World → Prop, ∀ w8 : World, w8 = w1.drew → vS_2 w8 ∧
  ∃ (x29 : Int), (∀ w9, vS_2 w9 → w9.cell? (⟨w.heap.size, 1, none⟩ : Addr) = some (.int .i64 x29)) ∧
  R (.tuple #[(.int .i64 1), (.int .i64 x29)]) w8) ∧
  ((part == (2 : Int)) = false →
  ((part == (7 : Int)) = true →
  (part == (7 : Int)) = true ∧
  ∃ vS_3 : World → Prop, ∀ w10 : World, w10 = w1.drew → vS_3 w10 ∧
  ∃ (x29_1 : Int), (∀ w11, vS_3 w11 → w11.cell? (⟨w.heap.size, 1, none⟩ : Addr) = some (.int .i64 x29_1)) ∧
  R (.tuple #[(.int .i64 1), (.int .i64 x29_1)]) w10) ∧
  ((part == (7 : Int)) = false →
  ((part == (11 : Int)) = true →
  ∃ vS_4 : World → Prop, ∀ w12 : World, w12 = w1.drew → vS_4 w12 ∧
  ∃ (x29_2 : Int), (∀ w13, vS_4 w13 → w13.cell? (⟨w.heap.size, 1, none⟩ : Addr) = some (.int .i64 x29_2)) ∧
  R (.tuple #[(.int .i64 1), (.int .i64 x29_2)]) w12) ∧
  ((part == (11 : Int)) = false →
  ((part == (3 : Int)) = true →
  (part == (3 : Int)) = true ∧
  ∃ vS_5 : World → Prop, ∀ w14 : World, w14 = w1.drew → vS_5 w14 ∧
  ∃ (x37 : Int), (∀ w15, vS_5 w15 → w15.cell? (⟨w.heap.size, 1, none⟩ : Addr) = some (.int .i64 x37)) ∧
  ∃ (x40 : Int), (∀ w16, vS_5 w16 → w16.cell? (⟨w.heap.size, 1, none⟩ : Addr) = some (.int .i64 x40)) ∧
  R (.tuple #[(.int .i64 x37), (.int .i64 x40)]) w14) ∧
  ((part == (3 : Int)) = false →
  ((part == (4 : Int)) = true →
  (part == (4 : Int)) = true ∧
  ∃ vS_6 : World → Prop, ∀ w17 : World, w17 = w1.drew → vS_6 w17 ∧
  ∃ (x37_1 : Int), (∀ w18, vS_6 w18 → w18.cell? (⟨w.heap.size, 1, none⟩ : Addr) = some (.int .i64 x37_1)) ∧
  ∃ (x40_1 : Int), (∀ w19, vS_6 w19 → w19.cell? (⟨w.heap.size, 1, none⟩ : Addr) = some (.int .i64 x40_1)) ∧
  R (.tuple #[(.int .i64 x37_1), (.int .i64 x40_1)]) w17) ∧
  ((part == (4 : Int)) = false →
  ((part == (5 : Int)) = true →
  (part == (5 : Int)) = true ∧
  ∃ vS_7 : World → Prop, ∀ w20 : World, w20 = w1.drew → vS_7 w20 ∧
  ∃ (x37_2 : Int), (∀ w21, vS_7 w21 → w21.cell? (⟨w.heap.size, 1, none⟩ : Addr) = some (.int .i64 x37_2)) ∧
  ∃ (x40_2 : Int), (∀ w22, vS_7 w22 → w22.cell? (⟨w.heap.size, 1, none⟩ : Addr) = some (.int .i64 x40_2)) ∧
  R (.tuple #[(.int .i64 x37_2), (.int .i64 x40_2)]) w20) ∧
  ((part == (5 : Int)) = false →
  ((part == (6 : Int)) = true →
  ∃ vS_8 : World → Prop, ∀ w23 : World, w23 = w1.drew → vS_8 w23 ∧
  ∃ (x37_3 : Int), (∀ w24, vS_8 w24 → w24.cell? (⟨w.heap.size, 1, none⟩ : Addr) = some (.int .i64 x37_3)) ∧
  ∃ (x40_3 : Int), (∀ w25, vS_8 w25 → w25.cell? (⟨w.heap.size, 1, none⟩ : Addr) = some (.int .i64 x40_3)) ∧
  R (.tuple #[(.int .i64 x37_3), (.int .i64 x40_3)]) w23) ∧
  ((part == (6 : Int)) = false →
  ((part == (8 : Int)) = true →
  (part == (8 : Int)) = true ∧
  ∃ vS_9 : World → Prop, ∀ w26 : World, w26 = w1.drew → vS_9 w26 ∧
  ∃ (x46 : Int), (∀ w27, vS_9 w27 → w27.cell? (⟨w.heap.size, 4, none⟩ : Addr) = some (.int .i64 x46)) ∧
  ∃ (x49 : Int), (∀ w28, vS_9 w28 → w28.cell? (⟨w.heap.size, 1, none⟩ : Addr) = some (.int .i64 x49)) ∧
  R (.tuple #[(.int .i64 x46), (.int .i64 x49)]) w26) ∧
  ((part == (8 : Int)) = false →
  ((part == (9 : Int)) = true →
  ∃ vS_10 : World → Prop, ∀ w29 : World, w29 = w1.drew → vS_10 w29 ∧
  ∃ (x46_1 : Int), (∀ w30, vS_10 w30 → w30.cell? (⟨w.heap.size, 4, none⟩ : Addr) = some (.int .i64 x46_1)) ∧
  ∃ (x49_1 : Int), (∀ w31, vS_10 w31 → w31.cell? (⟨w.heap.size, 1, none⟩ : Addr) = some (.int .i64 x49_1)) ∧
  R (.tuple #[(.int .i64 x46_1), (.int .i64 x49_1)]) w29) ∧
  ((part == (9 : Int)) = false →
  ((part == (10 : Int)) = true →
  ∃ vS_11 : World → Prop, ∀ w32 : World, w32 = w1.drew → vS_11 w32 ∧
  ∃ (x54 : Int), (∀ w33, vS_11 w33 → w33.cell? (⟨w.heap.size, 1, none⟩ : Addr) = some (.int .i64 x54)) ∧
  ∃ (x57 : Int), (∀ w34, vS_11 w34 → w34.cell? (⟨w.heap.size, 4, none⟩ : Addr) = some (.int .i64 x57)) ∧
  R (.tuple #[(.int .i64 x54), (.int .i64 x57)]) w32) ∧
  ((part == (10 : Int)) = false →
  R (.tuple #[(.int .i64 0), (.int .i64 0)]) w1))))))))))))
theorem conf_Shape_side.vc_eq (s0 : Int) (s1 : Int) (s2 : Int) (s3 : Int) (s4 : Int) (s5 : Int) (part : Int) (w : World) (R : Value → World → Prop) : fnV Tryd.prog Tryd.f45 (.c (.tk 0 (.tk 1 (.tk 2 (.tk 3 (.tk 4 (.tk 5 (.tk 6 (.tk 7 (.fin .nil))))))))) (.c (.tk 0 (.tk 1 (.tk 2 (.tk 3 (.tk 4 (.tk 5 (.tk 6 (.tk 7 (.fin .nil))))))))) (.c (.y (.tk 0 (.tk 1 (.tk 2 (.tk 3 (.tk 4 (.fin .nil))))))) (.c (.y (.tk 0 (.tk 1 (.tk 2 (.tk 3 (.tk 4 (.fin .nil))))))) (.c (.tk 0 (.tk 1 (.tk 2 (.tk 3 (.tk 4 (.fin .nil)))))) (.c (.y (.tk 0 (.tk 1 (.tk 2 (.tk 3 (.tk 4 (.tk 5 (.tk 6 (.tk 7 (.fin .nil)))))))))) (.c (.y (.tk 0 (.tk 1 (.tk 2 (.tk 3 (.tk 4 (.tk 5 (.tk 6 (.tk 7 (.fin .nil)))))))))) (.c (.y (.tk 0 (.tk 1 (.tk 2 (.tk 3 (.tk 4 (.tk 5 (.tk 6 (.tk 7 (.fin .nil)))))))))) (.c (.tk 0 (.tk 1 (.tk 2 (.tk 3 (.tk 4 (.tk 5 (.tk 6 (.tk 7 (.fin .nil))))))))) (.c (.y (.tk 0 (.tk 1 (.tk 2 (.tk 3 (.tk 4 (.tk 5 (.tk 6 (.tk 7 (.fin .nil)))))))))) (.c (.tk 0 (.tk 1 (.tk 2 (.tk 3 (.tk 4 (.tk 5 (.tk 6 (.tk 7 (.fin .nil))))))))) (.c (.tk 0 (.tk 1 (.tk 2 (.tk 3 (.tk 4 (.tk 5 (.tk 6 (.tk 7 (.fin .nil))))))))) .nil)))))))))))) [(.agg #[(.int .i64 s0), (.int .i64 s1), (.int .i64 s2), (.int .i64 s3), (.int .i64 s4), (.int .i64 s5)]), (.int .i64 part)] w R = conf_Shape_side.vc s0 s1 s2 s3 s4 s5 part w R := by kernel_rfl
theorem conf_Shape_side.calls (s0 : Int) (s1 : Int) (s2 : Int) (s3 : Int) (s4 : Int) (s5 : Int) (part : Int) {w : World} {R : Value → World → Prop} (h : conf_Shape_side.vc s0 s1 s2 s3 s4 s5 part w R) : Calls Tryd.prog 45 #[(.agg #[(.int .i64 s0), (.int .i64 s1), (.int .i64 s2), (.int .i64 s3), (.int .i64 s4), (.int .i64 s5)]), (.int .i64 part)] w (Ret R) :=
  calls_V fit Tryd.func45 (.c (.tk 0 (.tk 1 (.tk 2 (.tk 3 (.tk 4 (.tk 5 (.tk 6 (.tk 7 (.fin .nil))))))))) (.c (.tk 0 (.tk 1 (.tk 2 (.tk 3 (.tk 4 (.tk 5 (.tk 6 (.tk 7 (.fin .nil))))))))) (.c (.y (.tk 0 (.tk 1 (.tk 2 (.tk 3 (.tk 4 (.fin .nil))))))) (.c (.y (.tk 0 (.tk 1 (.tk 2 (.tk 3 (.tk 4 (.fin .nil))))))) (.c (.tk 0 (.tk 1 (.tk 2 (.tk 3 (.tk 4 (.fin .nil)))))) (.c (.y (.tk 0 (.tk 1 (.tk 2 (.tk 3 (.tk 4 (.tk 5 (.tk 6 (.tk 7 (.fin .nil)))))))))) (.c (.y (.tk 0 (.tk 1 (.tk 2 (.tk 3 (.tk 4 (.tk 5 (.tk 6 (.tk 7 (.fin .nil)))))))))) (.c (.y (.tk 0 (.tk 1 (.tk 2 (.tk 3 (.tk 4 (.tk 5 (.tk 6 (.tk 7 (.fin .nil)))))))))) (.c (.tk 0 (.tk 1 (.tk 2 (.tk 3 (.tk 4 (.tk 5 (.tk 6 (.tk 7 (.fin .nil))))))))) (.c (.y (.tk 0 (.tk 1 (.tk 2 (.tk 3 (.tk 4 (.tk 5 (.tk 6 (.tk 7 (.fin .nil)))))))))) (.c (.tk 0 (.tk 1 (.tk 2 (.tk 3 (.tk 4 (.tk 5 (.tk 6 (.tk 7 (.fin .nil))))))))) (.c (.tk 0 (.tk 1 (.tk 2 (.tk 3 (.tk 4 (.tk 5 (.tk 6 (.tk 7 (.fin .nil))))))))) .nil)))))))))))) (by rw [show (#[(.agg #[(.int .i64 s0), (.int .i64 s1), (.int .i64 s2), (.int .i64 s3), (.int .i64 s4), (.int .i64 s5)]), (.int .i64 part)] : Array Value).toList = [(.agg #[(.int .i64 s0), (.int .i64 s1), (.int .i64 s2), (.int .i64 s3), (.int .i64 s4), (.int .i64 s5)]), (.int .i64 part)] from rfl, conf_Shape_side.vc_eq]; exact h)
/-- function 44 -/
def conf_Shape_span.vc (s0 : Int) (s1 : Int) (s2 : Int) (s3 : Int) (s4 : Int) (s5 : Int) (vfrom : Int) (to : Int) (w : World) (R : Value → World → Prop) : Prop :=
  ∀ w1 : World, w1 = w.alloc (.cells #[(.int .i64 s0), (.int .i64 s1), (.int .i64 s2), (.int .i64 s3), (.int .i64 s4), (.int .i64 s5)] 57 (0, 0)) →
  ∃ vI : Int → Int → Nat → World → Prop, (∃ vk_2 : Nat, vI 0 vfrom vk_2 w1) ∧
  ∀ (jk : Nat → Value) (n : Int) (part : Int), ∀ (vk : Nat) (w2 : World), vI n part vk w2 →
  (decide (part ≤ to) = true →
  ∃ (x180 : Int), ∃ (x181 : Int), ∃ (x182 : Int), ∃ (x183 : Int), ∃ (x184 : Int), ∃ (x185 : Int), (w2.cell? (⟨w.heap.size, 0, none⟩ : Addr) = some (.int .i64 x180) ∧ w2.cell? (⟨w.heap.size, 1, none⟩ : Addr) = some (.int .i64 x181) ∧ w2.cell? (⟨w.heap.size, 2, none⟩ : Addr) = some (.int .i64 x182) ∧ w2.cell? (⟨w.heap.size, 3, none⟩ : Addr) = some (.int .i64 x183) ∧ w2.cell? (⟨w.heap.size, 4, none⟩ : Addr) = some (.int .i64 x184) ∧ w2.cell? (⟨w.heap.size, 5, none⟩ : Addr) = some (.int .i64 x185)) ∧
  Calls Tryd.prog 45 #[(.agg #[(.int .i64 x180), (.int .i64 x181), (.int .i64 x182), (.int .i64 x183), (.int .i64 x184), (.int .i64 x185)]), (.int .i64 part)] w2 (Ret fun v w3 => ∃ (x20_0 : Int), ∃ (x20_1 : Int), v = (.tuple #[(.int .i64 x20_0), (.int .i64 x20_1)]) ∧
  ∃ vk_1 : Nat, vk_1 < vk ∧ vI (IntKind.i64.wrap (n + (IntKind.i64.wrap (x20_0 * x20_1)))) (IntKind.i64.wrap (part + 1)) vk_1 w3)) ∧
  (decide (part ≤ to) = false →
  R (.int .i64 n) w2)
theorem conf_Shape_span.vc_eq (s0 : Int) (s1 : Int) (s2 : Int) (s3 : Int) (s4 : Int) (s5 : Int) (vfrom : Int) (to : Int) (w : World) (R : Value → World → Prop) : fnV Tryd.prog Tryd.f44 (.lp [(7, some (.int .i64)), (8, some (.int .i64)), (9, none), (10, none), (12, none), (13, none), (14, none), (15, none), (16, none), (17, none), (18, none), (19, none), (20, none), (21, none), (22, none), (23, none), (24, none), (25, none), (26, none), (27, none)] (.c .nil .nil)) [(.agg #[(.int .i64 s0), (.int .i64 s1), (.int .i64 s2), (.int .i64 s3), (.int .i64 s4), (.int .i64 s5)]), (.int .i64 vfrom), (.int .i64 to)] w R = conf_Shape_span.vc s0 s1 s2 s3 s4 s5 vfrom to w R := by kernel_rfl
theorem conf_Shape_span.calls (s0 : Int) (s1 : Int) (s2 : Int) (s3 : Int) (s4 : Int) (s5 : Int) (vfrom : Int) (to : Int) {w : World} {R : Value → World → Prop} (h : conf_Shape_span.vc s0 s1 s2 s3 s4 s5 vfrom to w R) : Calls Tryd.prog 44 #[(.agg #[(.int .i64 s0), (.int .i64 s1), (.int .i64 s2), (.int .i64 s3), (.int .i64 s4), (.int .i64 s5)]), (.int .i64 vfrom), (.int .i64 to)] w (Ret R) :=
  calls_V fit Tryd.func44 (.lp [(7, some (.int .i64)), (8, some (.int .i64)), (9, none), (10, none), (12, none), (13, none), (14, none), (15, none), (16, none), (17, none), (18, none), (19, none), (20, none), (21, none), (22, none), (23, none), (24, none), (25, none), (26, none), (27, none)] (.c .nil .nil)) (by rw [show (#[(.agg #[(.int .i64 s0), (.int .i64 s1), (.int .i64 s2), (.int .i64 s3), (.int .i64 s4), (.int .i64 s5)]), (.int .i64 vfrom), (.int .i64 to)] : Array Value).toList = [(.agg #[(.int .i64 s0), (.int .i64 s1), (.int .i64 s2), (.int .i64 s3), (.int .i64 s4), (.int .i64 s5)]), (.int .i64 vfrom), (.int .i64 to)] from rfl, conf_Shape_span.vc_eq]; exact h)
/-- function 35 -/
def conf_Shape_all.vc (s0 : Int) (s1 : Int) (s2 : Int) (s3 : Int) (s4 : Int) (s5 : Int) (w : World) (R : Value → World → Prop) : Prop :=
  ∀ w1 : World, w1 = w.alloc (.cells #[(.int .i64 s0), (.int .i64 s1), (.int .i64 s2), (.int .i64 s3), (.int .i64 s4), (.int .i64 s5)] 57 (0, 0)) →
  ∃ vS : World → Prop, ∀ w2 : World, w2 = w1.drew → vS w2 ∧
  ∃ (x30 : Int), ∃ (x31 : Int), ∃ (x32 : Int), ∃ (x33 : Int), ∃ (x34 : Int), ∃ (x35 : Int), ((∀ w3, vS w3 → w3.cell? (⟨w.heap.size, 0, none⟩ : Addr) = some (.int .i64 x30)) ∧ (∀ w3, vS w3 → w3.cell? (⟨w.heap.size, 1, none⟩ : Addr) = some (.int .i64 x31)) ∧ (∀ w3, vS w3 → w3.cell? (⟨w.heap.size, 2, none⟩ : Addr) = some (.int .i64 x32)) ∧ (∀ w3, vS w3 → w3.cell? (⟨w.heap.size, 3, none⟩ : Addr) = some (.int .i64 x33)) ∧ (∀ w3, vS w3 → w3.cell? (⟨w.heap.size, 4, none⟩ : Addr) = some (.int .i64 x34)) ∧ (∀ w3, vS w3 → w3.cell? (⟨w.heap.size, 5, none⟩ : Addr) = some (.int .i64 x35))) ∧
  ∃ (x7 : Int), (∀ w4, vS w4 → w4.cell? (⟨w.heap.size, 3, none⟩ : Addr) = some (.int .i64 x7)) ∧
  ∃ (x80 : Int), ∃ (x81 : Int), ∃ (x82 : Int), ∃ (x83 : Int), ∃ (x84 : Int), ∃ (x85 : Int), ((∀ w5, vS w5 → w5.cell? (⟨w.heap.size, 0, none⟩ : Addr) = some (.int .i64 x80)) ∧ (∀ w5, vS w5 → w5.cell? (⟨w.heap.size, 1, none⟩ : Addr) = some (.int .i64 x81)) ∧ (∀ w5, vS w5 → w5.cell? (⟨w.heap.size, 2, none⟩ : Addr) = some (.int .i64 x82)) ∧ (∀ w5, vS w5 → w5.cell? (⟨w.heap.size, 3, none⟩ : Addr) = some (.int .i64 x83)) ∧ (∀ w5, vS w5 → w5.cell? (⟨w.heap.size, 4, none⟩ : Addr) = some (.int .i64 x84)) ∧ (∀ w5, vS w5 → w5.cell? (⟨w.heap.size, 5, none⟩ : Addr) = some (.int .i64 x85))) ∧
  ∃ (x120 : Int), ∃ (x121 : Int), ∃ (x122 : Int), ∃ (x123 : Int), ∃ (x124 : Int), ∃ (x125 : Int), ((∀ w6, vS w6 → w6.cell? (⟨w.heap.size, 0, none⟩ : Addr) = some (.int .i64 x120)) ∧ (∀ w6, vS w6 → w6.cell? (⟨w.heap.size, 1, none⟩ : Addr) = some (.int .i64 x121)) ∧ (∀ w6, vS w6 → w6.cell? (⟨w.heap.size, 2, none⟩ : Addr) = some (.int .i64 x122)) ∧ (∀ w6, vS w6 → w6.cell? (⟨w.heap.size, 3, none⟩ : Addr) = some (.int .i64 x123)) ∧ (∀ w6, vS w6 → w6.cell? (⟨w.heap.size, 4, none⟩ : Addr) = some (.int .i64 x124)) ∧ (∀ w6, vS w6 → w6.cell? (⟨w.heap.size, 5, none⟩ : Addr) = some (.int .i64 x125))) ∧
  Calls Tryd.prog 44 #[(.agg #[(.int .i64 x30), (.int .i64 x31), (.int .i64 x32), (.int .i64 x33), (.int .i64 x34), (.int .i64 x35)]), (.int .i64 0), (.int .i64 1)] w2 (Ret fun v w7 => ∃ (x4 : Int), v = (.int .i64 x4) ∧
  vS w7 ∧
  Calls Tryd.prog 44 #[(.agg #[(.int .i64 x80), (.int .i64 x81), (.int .i64 x82), (.int .i64 x83), (.int .i64 x84), (.int .i64 x85)]), (.int .i64 2), (.int .i64 10)] w7 (Ret fun v_1 w8 => ∃ (x9 : Int), v_1 = (.int .i64 x9) ∧
  vS w8 ∧
  Calls Tryd.prog 44 #[(.agg #[(.int .i64 x120), (.int .i64 x121), (.int .i64 x122), (.int .i64 x123), (.int .i64 x124), (.int .i64 x125)]), (.int .i64 11), (.int .i64 11)] w8 (Ret fun v_2 w9 => ∃ (x13 : Int), v_2 = (.int .i64 x13) ∧
  vS w9 ∧
  R (.int .i64 (IntKind.i64.wrap ((IntKind.i64.wrap (x4 + (IntKind.i64.wrap (x7 * x9)))) + x13))) w9)))
theorem conf_Shape_all.vc_eq (s0 : Int) (s1 : Int) (s2 : Int) (s3 : Int) (s4 : Int) (s5 : Int) (w : World) (R : Value → World → Prop) : fnV Tryd.prog Tryd.f35 (.tk 0 (.tk 2 (.tk 3 (.tk 4 (.tk 5 (.tk 9 (.alt 1 (.alt 6 (.tk 7 (.tk 8 (.alt 10 (.tk 11 (.tk 12 (.fin .nil))) .nil))) .nil) .nil))))))) [(.agg #[(.int .i64 s0), (.int .i64 s1), (.int .i64 s2), (.int .i64 s3), (.int .i64 s4), (.int .i64 s5)])] w R = conf_Shape_all.vc s0 s1 s2 s3 s4 s5 w R := by kernel_rfl
theorem conf_Shape_all.calls (s0 : Int) (s1 : Int) (s2 : Int) (s3 : Int) (s4 : Int) (s5 : Int) {w : World} {R : Value → World → Prop} (h : conf_Shape_all.vc s0 s1 s2 s3 s4 s5 w R) : Calls Tryd.prog 35 #[(.agg #[(.int .i64 s0), (.int .i64 s1), (.int .i64 s2), (.int .i64 s3), (.int .i64 s4), (.int .i64 s5)])] w (Ret R) :=
  calls_V fit Tryd.func35 (.tk 0 (.tk 2 (.tk 3 (.tk 4 (.tk 5 (.tk 9 (.alt 1 (.alt 6 (.tk 7 (.tk 8 (.alt 10 (.tk 11 (.tk 12 (.fin .nil))) .nil))) .nil) .nil))))))) (by rw [show (#[(.agg #[(.int .i64 s0), (.int .i64 s1), (.int .i64 s2), (.int .i64 s3), (.int .i64 s4), (.int .i64 s5)])] : Array Value).toList = [(.agg #[(.int .i64 s0), (.int .i64 s1), (.int .i64 s2), (.int .i64 s3), (.int .i64 s4), (.int .i64 s5)])] from rfl, conf_Shape_all.vc_eq]; exact h)
/-- function 19 -/
def conf_Good.vc (c0 : Int) (c1 : Int) (c2 : Int) (c3 : Int) (c4 : Int) (c5 : Int) (w : World) (R : Value → World → Prop) : Prop :=
  ∀ w1 : World, w1 = w.alloc (.cells #[(.int .i64 c0), (.int .i64 c1), (.int .i64 c2), (.int .i64 c3), (.int .i64 c4), (.int .i64 c5)] 23 (0, 0)) →
  ∃ (x4 : Int), w1.cell? (⟨w.heap.size, 0, none⟩ : Addr) = some (.int .i64 x4) ∧
  Calls Tryd.prog 34 #[(.int .i64 x4), (.int .i64 2), (.int .i64 32)] w1 (Ret fun v w2 => ∃ (x5 : Bool), v = (.bool x5) ∧
  ((!x5) = true →
  R (.bool false) w2) ∧
  ((!x5) = false →
  ∃ (x9 : Int), w2.cell? (⟨w.heap.size, 1, none⟩ : Addr) = some (.int .i64 x9) ∧
  Calls Tryd.prog 34 #[(.int .i64 x9), (.int .i64 1), (.int .i64 16)] w2 (Ret fun v_1 w3 => ∃ (x10 : Bool), v_1 = (.bool x10) ∧
  ((!x10) = true →
  R (.bool false) w3) ∧
  ((!x10) = false →
  ∃ (x15 : Int), w3.cell? (⟨w.heap.size, 2, none⟩ : Addr) = some (.int .i64 x15) ∧
  Calls Tryd.prog 34 #[(.int .i64 x15), (.int .i64 1), (.int .i64 4)] w3 (Ret fun v_2 w4 => ∃ (x16 : Bool), v_2 = (.bool x16) ∧
  ((!x16) = true →
  R (.bool false) w4) ∧
  ((!x16) = false →
  ∃ (x20 : Int), w4.cell? (⟨w.heap.size, 3, none⟩ : Addr) = some (.int .i64 x20) ∧
  Calls Tryd.prog 34 #[(.int .i64 x20), (.int .i64 1), (.int .i64 3)] w4 (Ret fun v_3 w5 => ∃ (x21 : Bool), v_3 = (.bool x21) ∧
  ((!x21) = true →
  R (.bool false) w5) ∧
  ((!x21) = false →
  ∃ (x25 : Int), w5.cell? (⟨w.heap.size, 4, none⟩ : Addr) = some (.int .i64 x25) ∧
  Calls Tryd.prog 34 #[(.int .i64 x25), (.int .i64 1), (.int .i64 32)] w5 (Ret fun v_4 w6 => ∃ (x26 : Bool), v_4 = (.bool x26) ∧
  ((!x26) = true →
  R (.bool false) w6) ∧
  ((!x26) = false →
  ∃ (x31 : Int), w6.cell? (⟨w.heap.size, 5, none⟩ : Addr) = some (.int .i64 x31) ∧
  Calls Tryd.prog 34 #[(.int .i64 x31), (.int .i64 1), (.int .i64 32)] w6 (Ret fun v_5 w7 => ∃ (x32 : Bool), v_5 = (.bool x32) ∧
  ((!x32) = true →
  R (.bool false) w7) ∧
  ((!x32) = false →
  ∃ (x36 : Int), w7.cell? (⟨w.heap.size, 1, none⟩ : Addr) = some (.int .i64 x36) ∧
  ∃ (x38 : Int), w7.cell? (⟨w.heap.size, 2, none⟩ : Addr) = some (.int .i64 x38) ∧
  x38 ≠ 0 ∧
  (((Int.tmod x36 x38) == (0 : Int)) = true →
  ∃ (x420 : Int), ∃ (x421 : Int), ∃ (x422 : Int), ∃ (x423 : Int), ∃ (x424 : Int), ∃ (x425 : Int), (w7.cell? (⟨w.heap.size, 0, none⟩ : Addr) = some (.int .i64 x420) ∧ w7.cell? (⟨w.heap.size, 1, none⟩ : Addr) = some (.int .i64 x421) ∧ w7.cell? (⟨w.heap.size, 2, none⟩ : Addr) = some (.int .i64 x422) ∧ w7.cell? (⟨w.heap.size, 3, none⟩ : Addr) = some (.int .i64 x423) ∧ w7.cell? (⟨w.heap.size, 4, none⟩ : Addr) = some (.int .i64 x424) ∧ w7.cell? (⟨w.heap.size, 5, none⟩ : Addr) = some (.int .i64 x425)) ∧
  Calls Tryd.prog 35 #[(.agg #[(.int .i64 x420), (.int .i64 x421), (.int .i64 x422), (.int .i64 x423), (.int .i64 x424), (.int .i64 x425)])] w7 (Ret fun v_6 w8 => ∃ (x44 : Int), v_6 = (.int .i64 x44) ∧
  R (.bool (decide (x44 ≤ (8192 : Int)))) w8)) ∧
  (((Int.tmod x36 x38) == (0 : Int)) = false →
  R (.bool false) w7)))))))))))))
theorem conf_Good.vc_eq (c0 : Int) (c1 : Int) (c2 : Int) (c3 : Int) (c4 : Int) (c5 : Int) (w : World) (R : Value → World → Prop) : fnV Tryd.prog Tryd.f19 (.at_ 1 4 (.k .nil) (.at_ 1 10 (.k .nil) (.c .nil (.at_ 3 4 (.k .nil) (.at_ 3 10 (.k .nil) (.c .nil (.at_ 5 6 .nil .nil))))))) [(.agg #[(.int .i64 c0), (.int .i64 c1), (.int .i64 c2), (.int .i64 c3), (.int .i64 c4), (.int .i64 c5)])] w R = conf_Good.vc c0 c1 c2 c3 c4 c5 w R := by kernel_rfl
theorem conf_Good.calls (c0 : Int) (c1 : Int) (c2 : Int) (c3 : Int) (c4 : Int) (c5 : Int) {w : World} {R : Value → World → Prop} (h : conf_Good.vc c0 c1 c2 c3 c4 c5 w R) : Calls Tryd.prog 19 #[(.agg #[(.int .i64 c0), (.int .i64 c1), (.int .i64 c2), (.int .i64 c3), (.int .i64 c4), (.int .i64 c5)])] w (Ret R) :=
  calls_V fit Tryd.func19 (.at_ 1 4 (.k .nil) (.at_ 1 10 (.k .nil) (.c .nil (.at_ 3 4 (.k .nil) (.at_ 3 10 (.k .nil) (.c .nil (.at_ 5 6 .nil .nil))))))) (by rw [show (#[(.agg #[(.int .i64 c0), (.int .i64 c1), (.int .i64 c2), (.int .i64 c3), (.int .i64 c4), (.int .i64 c5)])] : Array Value).toList = [(.agg #[(.int .i64 c0), (.int .i64 c1), (.int .i64 c2), (.int .i64 c3), (.int .i64 c4), (.int .i64 c5)])] from rfl, conf_Good.vc_eq]; exact h)
/-- function 20 -/
def conf_Shape_Size.vc (s0 : Int) (s1 : Int) (s2 : Int) (s3 : Int) (s4 : Int) (s5 : Int) (w : World) (R : Value → World → Prop) : Prop :=
  ∀ w1 : World, w1 = w.alloc (.cells #[(.int .i64 s0), (.int .i64 s1), (.int .i64 s2), (.int .i64 s3), (.int .i64 s4), (.int .i64 s5)] 57 (0, 0)) →
  ∃ (x40 : Int), ∃ (x41 : Int), ∃ (x42 : Int), ∃ (x43 : Int), ∃ (x44 : Int), ∃ (x45 : Int), (w1.cell? (⟨w.heap.size, 0, none⟩ : Addr) = some (.int .i64 x40) ∧ w1.cell? (⟨w.heap.size, 1, none⟩ : Addr) = some (.int .i64 x41) ∧ w1.cell? (⟨w.heap.size, 2, none⟩ : Addr) = some (.int .i64 x42) ∧ w1.cell? (⟨w.heap.size, 3, none⟩ : Addr) = some (.int .i64 x43) ∧ w1.cell? (⟨w.heap.size, 4, none⟩ : Addr) = some (.int .i64 x44) ∧ w1.cell? (⟨w.heap.size, 5, none⟩ : Addr) = some (.int .i64 x45)) ∧
  Calls Tryd.prog 19 #[(.agg #[(.int .i64 x40), (.int .i64 x41), (.int .i64 x42), (.int .i64 x43), (.int .i64 x44), (.int .i64 x45)])] w1 (Ret fun v w2 => ∃ (x5 : Bool), v = (.bool x5) ∧
  ((!x5) = true →
  R (.int .i64 0) w2) ∧
  ((!x5) = false →
  ∃ (x70 : Int), ∃ (x71 : Int), ∃ (x72 : Int), ∃ (x73 : Int), ∃ (x74 : Int), ∃ (x75 : Int), (w2.cell? (⟨w.heap.size, 0, none⟩ : Addr) = some (.int .i64 x70) ∧ w2.cell? (⟨w.heap.size, 1, none⟩ : Addr) = some (.int .i64 x71) ∧ w2.cell? (⟨w.heap.size, 2, none⟩ : Addr) = some (.int .i64 x72) ∧ w2.cell? (⟨w.heap.size, 3, none⟩ : Addr) = some (.int .i64 x73) ∧ w2.cell? (⟨w.heap.size, 4, none⟩ : Addr) = some (.int .i64 x74) ∧ w2.cell? (⟨w.heap.size, 5, none⟩ : Addr) = some (.int .i64 x75)) ∧
  Calls Tryd.prog 35 #[(.agg #[(.int .i64 x70), (.int .i64 x71), (.int .i64 x72), (.int .i64 x73), (.int .i64 x74), (.int .i64 x75)])] w2 (Ret fun v_1 w3 => ∃ (x8 : Int), v_1 = (.int .i64 x8) ∧
  R (.int .i64 x8) w3)))
theorem conf_Shape_Size.vc_eq (s0 : Int) (s1 : Int) (s2 : Int) (s3 : Int) (s4 : Int) (s5 : Int) (w : World) (R : Value → World → Prop) : fnV Tryd.prog Tryd.f20 (.c .nil .nil) [(.agg #[(.int .i64 s0), (.int .i64 s1), (.int .i64 s2), (.int .i64 s3), (.int .i64 s4), (.int .i64 s5)])] w R = conf_Shape_Size.vc s0 s1 s2 s3 s4 s5 w R := by kernel_rfl
theorem conf_Shape_Size.calls (s0 : Int) (s1 : Int) (s2 : Int) (s3 : Int) (s4 : Int) (s5 : Int) {w : World} {R : Value → World → Prop} (h : conf_Shape_Size.vc s0 s1 s2 s3 s4 s5 w R) : Calls Tryd.prog 20 #[(.agg #[(.int .i64 s0), (.int .i64 s1), (.int .i64 s2), (.int .i64 s3), (.int .i64 s4), (.int .i64 s5)])] w (Ret R) :=
  calls_V fit Tryd.func20 (.c .nil .nil) (by rw [show (#[(.agg #[(.int .i64 s0), (.int .i64 s1), (.int .i64 s2), (.int .i64 s3), (.int .i64 s4), (.int .i64 s5)])] : Array Value).toList = [(.agg #[(.int .i64 s0), (.int .i64 s1), (.int .i64 s2), (.int .i64 s3), (.int .i64 s4), (.int .i64 s5)])] from rfl, conf_Shape_Size.vc_eq]; exact h)
/-- function 6 -/
def brain_Of.vc (c0 : Int) (c1 : Int) (c2 : Int) (c3 : Int) (c4 : Int) (c5 : Int) (weights : ByteArray) (w : World) (R : Value → World → Prop) : Prop :=
  ∀ w1 : World, w1 = w.alloc (.cells #[(.int .i64 c0), (.int .i64 c1), (.int .i64 c2), (.int .i64 c3), (.int .i64 c4), (.int .i64 c5)] 23 (0, 0)) →
  ∃ (x70 : Int), ∃ (x71 : Int), ∃ (x72 : Int), ∃ (x73 : Int), ∃ (x74 : Int), ∃ (x75 : Int), (w1.cell? (⟨w.heap.size, 0, none⟩ : Addr) = some (.int .i64 x70) ∧ w1.cell? (⟨w.heap.size, 1, none⟩ : Addr) = some (.int .i64 x71) ∧ w1.cell? (⟨w.heap.size, 2, none⟩ : Addr) = some (.int .i64 x72) ∧ w1.cell? (⟨w.heap.size, 3, none⟩ : Addr) = some (.int .i64 x73) ∧ w1.cell? (⟨w.heap.size, 4, none⟩ : Addr) = some (.int .i64 x74) ∧ w1.cell? (⟨w.heap.size, 5, none⟩ : Addr) = some (.int .i64 x75)) ∧
  ∀ w2 : World, w2 = w1.alloc (.cells #[(.int .i64 0), (.int .i64 0), (.int .i64 0), (.int .i64 0), (.int .i64 0), (.int .i64 0)] 57 (0, 0)) →
  (((∃ u, w2.cell? (⟨w1.heap.size, 0, none⟩ : Addr) = some u) ∧ w2.frozen? (⟨w1.heap.size, 0, none⟩ : Addr) = false) ∧ ((∃ u, w2.cell? (⟨w1.heap.size, 1, none⟩ : Addr) = some u) ∧ w2.frozen? (⟨w1.heap.size, 1, none⟩ : Addr) = false) ∧ ((∃ u, w2.cell? (⟨w1.heap.size, 2, none⟩ : Addr) = some u) ∧ w2.frozen? (⟨w1.heap.size, 2, none⟩ : Addr) = false) ∧ ((∃ u, w2.cell? (⟨w1.heap.size, 3, none⟩ : Addr) = some u) ∧ w2.frozen? (⟨w1.heap.size, 3, none⟩ : Addr) = false) ∧ ((∃ u, w2.cell? (⟨w1.heap.size, 4, none⟩ : Addr) = some u) ∧ w2.frozen? (⟨w1.heap.size, 4, none⟩ : Addr) = false) ∧ ((∃ u, w2.cell? (⟨w1.heap.size, 5, none⟩ : Addr) = some u) ∧ w2.frozen? (⟨w1.heap.size, 5, none⟩ : Addr) = false)) ∧ ∀ w3 : World, w3 = ((((((w2.setCell (⟨w1.heap.size, 0, none⟩ : Addr) (.int .i64 x70)).setCell (⟨w1.heap.size, 1, none⟩ : Addr) (.int .i64 x71)).setCell (⟨w1.heap.size, 2, none⟩ : Addr) (.int .i64 x72)).setCell (⟨w1.heap.size, 3, none⟩ : Addr) (.int .i64 x73)).setCell (⟨w1.heap.size, 4, none⟩ : Addr) (.int .i64 x74)).setCell (⟨w1.heap.size, 5, none⟩ : Addr) (.int .i64 x75)) →
  ∃ (x100 : Int), ∃ (x101 : Int), ∃ (x102 : Int), ∃ (x103 : Int), ∃ (x104 : Int), ∃ (x105 : Int), (w3.cell? (⟨w.heap.size, 0, none⟩ : Addr) = some (.int .i64 x100) ∧ w3.cell? (⟨w.heap.size, 1, none⟩ : Addr) = some (.int .i64 x101) ∧ w3.cell? (⟨w.heap.size, 2, none⟩ : Addr) = some (.int .i64 x102) ∧ w3.cell? (⟨w.heap.size, 3, none⟩ : Addr) = some (.int .i64 x103) ∧ w3.cell? (⟨w.heap.size, 4, none⟩ : Addr) = some (.int .i64 x104) ∧ w3.cell? (⟨w.heap.size, 5, none⟩ : Addr) = some (.int .i64 x105)) ∧
  Calls Tryd.prog 19 #[(.agg #[(.int .i64 x100), (.int .i64 x101), (.int .i64 x102), (.int .i64 x103), (.int .i64 x104), (.int .i64 x105)])] w3 (Ret fun v w4 => ∃ (x11 : Bool), v = (.bool x11) ∧
  ((!x11) = true →
  R (.tuple #[(.pointer none), (.int .i64 1)]) w4) ∧
  ((!x11) = false →
  ∃ (x160 : Int), ∃ (x161 : Int), ∃ (x162 : Int), ∃ (x163 : Int), ∃ (x164 : Int), ∃ (x165 : Int), (w4.cell? (⟨w1.heap.size, 0, none⟩ : Addr) = some (.int .i64 x160) ∧ w4.cell? (⟨w1.heap.size, 1, none⟩ : Addr) = some (.int .i64 x161) ∧ w4.cell? (⟨w1.heap.size, 2, none⟩ : Addr) = some (.int .i64 x162) ∧ w4.cell? (⟨w1.heap.size, 3, none⟩ : Addr) = some (.int .i64 x163) ∧ w4.cell? (⟨w1.heap.size, 4, none⟩ : Addr) = some (.int .i64 x164) ∧ w4.cell? (⟨w1.heap.size, 5, none⟩ : Addr) = some (.int .i64 x165)) ∧
  Calls Tryd.prog 20 #[(.agg #[(.int .i64 x160), (.int .i64 x161), (.int .i64 x162), (.int .i64 x163), (.int .i64 x164), (.int .i64 x165)])] w4 (Ret fun v_1 w5 => ∃ (x17 : Int), v_1 = (.int .i64 x17) ∧
  ((((weights.size : Nat) : Int) != x17) = true →
  R (.tuple #[(.pointer none), (.int .i64 5)]) w5) ∧
  ((((weights.size : Nat) : Int) != x17) = false →
  ∃ (x190 : Int), ∃ (x191 : Int), ∃ (x192 : Int), ∃ (x193 : Int), ∃ (x194 : Int), ∃ (x195 : Int), (w5.cell? (⟨w1.heap.size, 0, none⟩ : Addr) = some (.int .i64 x190) ∧ w5.cell? (⟨w1.heap.size, 1, none⟩ : Addr) = some (.int .i64 x191) ∧ w5.cell? (⟨w1.heap.size, 2, none⟩ : Addr) = some (.int .i64 x192) ∧ w5.cell? (⟨w1.heap.size, 3, none⟩ : Addr) = some (.int .i64 x193) ∧ w5.cell? (⟨w1.heap.size, 4, none⟩ : Addr) = some (.int .i64 x194) ∧ w5.cell? (⟨w1.heap.size, 5, none⟩ : Addr) = some (.int .i64 x195)) ∧
  ∀ w6 : World, w6 = w5.alloc (.cells #[(.int .i64 x190), (.int .i64 x191), (.int .i64 x192), (.int .i64 x193), (.int .i64 x194), (.int .i64 x195), (.string weights)] 61 (0, 0)) →
  R (.tuple #[(.pointer (some (⟨w5.heap.size, 0, none⟩ : Addr))), (.int .i64 0)]) w6))))
theorem brain_Of.vc_eq (c0 : Int) (c1 : Int) (c2 : Int) (c3 : Int) (c4 : Int) (c5 : Int) (weights : ByteArray) (w : World) (R : Value → World → Prop) : fnV Tryd.prog Tryd.f6 (.c .nil (.c .nil .nil)) [(.agg #[(.int .i64 c0), (.int .i64 c1), (.int .i64 c2), (.int .i64 c3), (.int .i64 c4), (.int .i64 c5)]), (.string weights)] w R = brain_Of.vc c0 c1 c2 c3 c4 c5 weights w R := by kernel_rfl
theorem brain_Of.calls (c0 : Int) (c1 : Int) (c2 : Int) (c3 : Int) (c4 : Int) (c5 : Int) (weights : ByteArray) {w : World} {R : Value → World → Prop} (h : brain_Of.vc c0 c1 c2 c3 c4 c5 weights w R) : Calls Tryd.prog 6 #[(.agg #[(.int .i64 c0), (.int .i64 c1), (.int .i64 c2), (.int .i64 c3), (.int .i64 c4), (.int .i64 c5)]), (.string weights)] w (Ret R) :=
  calls_V fit Tryd.func6 (.c .nil (.c .nil .nil)) (by rw [show (#[(.agg #[(.int .i64 c0), (.int .i64 c1), (.int .i64 c2), (.int .i64 c3), (.int .i64 c4), (.int .i64 c5)]), (.string weights)] : Array Value).toList = [(.agg #[(.int .i64 c0), (.int .i64 c1), (.int .i64 c2), (.int .i64 c3), (.int .i64 c4), (.int .i64 c5)]), (.string weights)] from rfl, brain_Of.vc_eq]; exact h)
/-- function 15 -/
def brain_Brain_Weights.vc (bB : Nat) (w : World) (R : Value → World → Prop) : Prop :=
  ∃ (x8 : ByteArray), w.cell? (⟨bB, 6, none⟩ : Addr) = some (.string x8) ∧
  R (.string x8) w
theorem brain_Brain_Weights.vc_eq (bB : Nat) (w : World) (R : Value → World → Prop) : fnV Tryd.prog Tryd.f15 (.k .nil) [(.pointer (some (⟨bB, 0, none⟩ : Addr)))] w R = brain_Brain_Weights.vc bB w R := by kernel_rfl
theorem brain_Brain_Weights.calls (bB : Nat) {w : World} {R : Value → World → Prop} (h : brain_Brain_Weights.vc bB w R) : Calls Tryd.prog 15 #[(.pointer (some (⟨bB, 0, none⟩ : Addr)))] w (Ret R) :=
  calls_V fit Tryd.func15 (.k .nil) (by rw [show (#[(.pointer (some (⟨bB, 0, none⟩ : Addr)))] : Array Value).toList = [(.pointer (some (⟨bB, 0, none⟩ : Addr)))] from rfl, brain_Brain_Weights.vc_eq]; exact h)
/-- function 36 -/
def conf_Shape_Range.vc (s0 : Int) (s1 : Int) (s2 : Int) (s3 : Int) (s4 : Int) (s5 : Int) (part : Int) (block : Int) (w : World) (R : Value → World → Prop) : Prop :=
  ∀ w1 : World, w1 = w.alloc (.cells #[(.int .i64 s0), (.int .i64 s1), (.int .i64 s2), (.int .i64 s3), (.int .i64 s4), (.int .i64 s5)] 57 (0, 0)) →
  ∃ (x13 : Int), w1.cell? (⟨w.heap.size, 3, none⟩ : Addr) = some (.int .i64 x13) ∧
  (decide (part < (2 : Int)) = true →
  ∃ (x210 : Int), ∃ (x211 : Int), ∃ (x212 : Int), ∃ (x213 : Int), ∃ (x214 : Int), ∃ (x215 : Int), (w1.cell? (⟨w.heap.size, 0, none⟩ : Addr) = some (.int .i64 x210) ∧ w1.cell? (⟨w.heap.size, 1, none⟩ : Addr) = some (.int .i64 x211) ∧ w1.cell? (⟨w.heap.size, 2, none⟩ : Addr) = some (.int .i64 x212) ∧ w1.cell? (⟨w.heap.size, 3, none⟩ : Addr) = some (.int .i64 x213) ∧ w1.cell? (⟨w.heap.size, 4, none⟩ : Addr) = some (.int .i64 x214) ∧ w1.cell? (⟨w.heap.size, 5, none⟩ : Addr) = some (.int .i64 x215)) ∧
  Calls Tryd.prog 19 #[(.agg #[(.int .i64 x210), (.int .i64 x211), (.int .i64 x212), (.int .i64 x213), (.int .i64 x214), (.int .i64 x215)])] w1 (Ret fun v w2 => ∃ (x22 : Bool), v = (.bool x22) ∧
  ((!x22) = true →
  R (.tuple #[(.int .i64 0), (.int .i64 0), (.bool false)]) w2) ∧
  ((!x22) = false →
  (decide (part < (0 : Int)) = true →
  R (.tuple #[(.int .i64 0), (.int .i64 0), (.bool false)]) w2) ∧
  (decide (part < (0 : Int)) = false →
  (decide (part > (11 : Int)) = true →
  R (.tuple #[(.int .i64 0), (.int .i64 0), (.bool false)]) w2) ∧
  (decide (part > (11 : Int)) = false →
  (decide (block < (0 : Int)) = true →
  R (.tuple #[(.int .i64 0), (.int .i64 0), (.bool false)]) w2) ∧
  (decide (block < (0 : Int)) = false →
  (decide (block ≥ (1 : Int)) = true →
  R (.tuple #[(.int .i64 0), (.int .i64 0), (.bool false)]) w2) ∧
  (decide (block ≥ (1 : Int)) = false →
  ∃ (x410 : Int), ∃ (x411 : Int), ∃ (x412 : Int), ∃ (x413 : Int), ∃ (x414 : Int), ∃ (x415 : Int), (w2.cell? (⟨w.heap.size, 0, none⟩ : Addr) = some (.int .i64 x410) ∧ w2.cell? (⟨w.heap.size, 1, none⟩ : Addr) = some (.int .i64 x411) ∧ w2.cell? (⟨w.heap.size, 2, none⟩ : Addr) = some (.int .i64 x412) ∧ w2.cell? (⟨w.heap.size, 3, none⟩ : Addr) = some (.int .i64 x413) ∧ w2.cell? (⟨w.heap.size, 4, none⟩ : Addr) = some (.int .i64 x414) ∧ w2.cell? (⟨w.heap.size, 5, none⟩ : Addr) = some (.int .i64 x415)) ∧
  Calls Tryd.prog 44 #[(.agg #[(.int .i64 x410), (.int .i64 x411), (.int .i64 x412), (.int .i64 x413), (.int .i64 x414), (.int .i64 x415)]), (.int .i64 part), (.int .i64 part)] w2 (Ret fun v_1 w3 => ∃ (x44 : Int), v_1 = (.int .i64 x44) ∧
  decide (part < (2 : Int)) = true ∧
  ∃ (x480 : Int), ∃ (x481 : Int), ∃ (x482 : Int), ∃ (x483 : Int), ∃ (x484 : Int), ∃ (x485 : Int), (w3.cell? (⟨w.heap.size, 0, none⟩ : Addr) = some (.int .i64 x480) ∧ w3.cell? (⟨w.heap.size, 1, none⟩ : Addr) = some (.int .i64 x481) ∧ w3.cell? (⟨w.heap.size, 2, none⟩ : Addr) = some (.int .i64 x482) ∧ w3.cell? (⟨w.heap.size, 3, none⟩ : Addr) = some (.int .i64 x483) ∧ w3.cell? (⟨w.heap.size, 4, none⟩ : Addr) = some (.int .i64 x484) ∧ w3.cell? (⟨w.heap.size, 5, none⟩ : Addr) = some (.int .i64 x485)) ∧
  Calls Tryd.prog 44 #[(.agg #[(.int .i64 x480), (.int .i64 x481), (.int .i64 x482), (.int .i64 x483), (.int .i64 x484), (.int .i64 x485)]), (.int .i64 0), (.int .i64 (IntKind.i64.wrap (part - 1)))] w3 (Ret fun v_2 w4 => ∃ (x51 : Int), v_2 = (.int .i64 x51) ∧
  R (.tuple #[(.int .i64 x51), (.int .i64 x44), (.bool true)]) w4))))))))) ∧
  (decide (part < (2 : Int)) = false →
  ((part == (11 : Int)) = true →
  ∃ (x210_1 : Int), ∃ (x211_1 : Int), ∃ (x212_1 : Int), ∃ (x213_1 : Int), ∃ (x214_1 : Int), ∃ (x215_1 : Int), (w1.cell? (⟨w.heap.size, 0, none⟩ : Addr) = some (.int .i64 x210_1) ∧ w1.cell? (⟨w.heap.size, 1, none⟩ : Addr) = some (.int .i64 x211_1) ∧ w1.cell? (⟨w.heap.size, 2, none⟩ : Addr) = some (.int .i64 x212_1) ∧ w1.cell? (⟨w.heap.size, 3, none⟩ : Addr) = some (.int .i64 x213_1) ∧ w1.cell? (⟨w.heap.size, 4, none⟩ : Addr) = some (.int .i64 x214_1) ∧ w1.cell? (⟨w.heap.size, 5, none⟩ : Addr) = some (.int .i64 x215_1)) ∧
  Calls Tryd.prog 19 #[(.agg #[(.int .i64 x210_1), (.int .i64 x211_1), (.int .i64 x212_1), (.int .i64 x213_1), (.int .i64 x214_1), (.int .i64 x215_1)])] w1 (Ret fun v_3 w5 => ∃ (x22_1 : Bool), v_3 = (.bool x22_1) ∧
  ((!x22_1) = true →
  R (.tuple #[(.int .i64 0), (.int .i64 0), (.bool false)]) w5) ∧
  ((!x22_1) = false →
  (decide (part < (0 : Int)) = true →
  R (.tuple #[(.int .i64 0), (.int .i64 0), (.bool false)]) w5) ∧
  (decide (part < (0 : Int)) = false →
  (decide (part > (11 : Int)) = true →
  R (.tuple #[(.int .i64 0), (.int .i64 0), (.bool false)]) w5) ∧
  (decide (part > (11 : Int)) = false →
  (decide (block < (0 : Int)) = true →
  R (.tuple #[(.int .i64 0), (.int .i64 0), (.bool false)]) w5) ∧
  (decide (block < (0 : Int)) = false →
  (decide (block ≥ (1 : Int)) = true →
  R (.tuple #[(.int .i64 0), (.int .i64 0), (.bool false)]) w5) ∧
  (decide (block ≥ (1 : Int)) = false →
  ∃ (x410_1 : Int), ∃ (x411_1 : Int), ∃ (x412_1 : Int), ∃ (x413_1 : Int), ∃ (x414_1 : Int), ∃ (x415_1 : Int), (w5.cell? (⟨w.heap.size, 0, none⟩ : Addr) = some (.int .i64 x410_1) ∧ w5.cell? (⟨w.heap.size, 1, none⟩ : Addr) = some (.int .i64 x411_1) ∧ w5.cell? (⟨w.heap.size, 2, none⟩ : Addr) = some (.int .i64 x412_1) ∧ w5.cell? (⟨w.heap.size, 3, none⟩ : Addr) = some (.int .i64 x413_1) ∧ w5.cell? (⟨w.heap.size, 4, none⟩ : Addr) = some (.int .i64 x414_1) ∧ w5.cell? (⟨w.heap.size, 5, none⟩ : Addr) = some (.int .i64 x415_1)) ∧
  Calls Tryd.prog 44 #[(.agg #[(.int .i64 x410_1), (.int .i64 x411_1), (.int .i64 x412_1), (.int .i64 x413_1), (.int .i64 x414_1), (.int .i64 x415_1)]), (.int .i64 part), (.int .i64 part)] w5 (Ret fun v_4 w6 => ∃ (x44_1 : Int), v_4 = (.int .i64 x44_1) ∧
  decide (part < (2 : Int)) = false ∧
  (part == (11 : Int)) = true ∧
  ∃ (x560 : Int), ∃ (x561 : Int), ∃ (x562 : Int), ∃ (x563 : Int), ∃ (x564 : Int), ∃ (x565 : Int), (w6.cell? (⟨w.heap.size, 0, none⟩ : Addr) = some (.int .i64 x560) ∧ w6.cell? (⟨w.heap.size, 1, none⟩ : Addr) = some (.int .i64 x561) ∧ w6.cell? (⟨w.heap.size, 2, none⟩ : Addr) = some (.int .i64 x562) ∧ w6.cell? (⟨w.heap.size, 3, none⟩ : Addr) = some (.int .i64 x563) ∧ w6.cell? (⟨w.heap.size, 4, none⟩ : Addr) = some (.int .i64 x564) ∧ w6.cell? (⟨w.heap.size, 5, none⟩ : Addr) = some (.int .i64 x565)) ∧
  Calls Tryd.prog 35 #[(.agg #[(.int .i64 x560), (.int .i64 x561), (.int .i64 x562), (.int .i64 x563), (.int .i64 x564), (.int .i64 x565)])] w6 (Ret fun v_5 w7 => ∃ (x57 : Int), v_5 = (.int .i64 x57) ∧
  R (.tuple #[(.int .i64 (IntKind.i64.wrap (x57 - x44_1))), (.int .i64 x44_1), (.bool true)]) w7))))))))) ∧
  ((part == (11 : Int)) = false →
  ∃ (x210_2 : Int), ∃ (x211_2 : Int), ∃ (x212_2 : Int), ∃ (x213_2 : Int), ∃ (x214_2 : Int), ∃ (x215_2 : Int), (w1.cell? (⟨w.heap.size, 0, none⟩ : Addr) = some (.int .i64 x210_2) ∧ w1.cell? (⟨w.heap.size, 1, none⟩ : Addr) = some (.int .i64 x211_2) ∧ w1.cell? (⟨w.heap.size, 2, none⟩ : Addr) = some (.int .i64 x212_2) ∧ w1.cell? (⟨w.heap.size, 3, none⟩ : Addr) = some (.int .i64 x213_2) ∧ w1.cell? (⟨w.heap.size, 4, none⟩ : Addr) = some (.int .i64 x214_2) ∧ w1.cell? (⟨w.heap.size, 5, none⟩ : Addr) = some (.int .i64 x215_2)) ∧
  Calls Tryd.prog 19 #[(.agg #[(.int .i64 x210_2), (.int .i64 x211_2), (.int .i64 x212_2), (.int .i64 x213_2), (.int .i64 x214_2), (.int .i64 x215_2)])] w1 (Ret fun v_6 w8 => ∃ (x22_2 : Bool), v_6 = (.bool x22_2) ∧
  ((!x22_2) = true →
  R (.tuple #[(.int .i64 0), (.int .i64 0), (.bool false)]) w8) ∧
  ((!x22_2) = false →
  (decide (part < (0 : Int)) = true →
  R (.tuple #[(.int .i64 0), (.int .i64 0), (.bool false)]) w8) ∧
  (decide (part < (0 : Int)) = false →
  (decide (part > (11 : Int)) = true →
  R (.tuple #[(.int .i64 0), (.int .i64 0), (.bool false)]) w8) ∧
  (decide (part > (11 : Int)) = false →
  (decide (block < (0 : Int)) = true →
  R (.tuple #[(.int .i64 0), (.int .i64 0), (.bool false)]) w8) ∧
  (decide (block < (0 : Int)) = false →
  (decide (block ≥ x13) = true →
  R (.tuple #[(.int .i64 0), (.int .i64 0), (.bool false)]) w8) ∧
  (decide (block ≥ x13) = false →
  ∃ (x410_2 : Int), ∃ (x411_2 : Int), ∃ (x412_2 : Int), ∃ (x413_2 : Int), ∃ (x414_2 : Int), ∃ (x415_2 : Int), (w8.cell? (⟨w.heap.size, 0, none⟩ : Addr) = some (.int .i64 x410_2) ∧ w8.cell? (⟨w.heap.size, 1, none⟩ : Addr) = some (.int .i64 x411_2) ∧ w8.cell? (⟨w.heap.size, 2, none⟩ : Addr) = some (.int .i64 x412_2) ∧ w8.cell? (⟨w.heap.size, 3, none⟩ : Addr) = some (.int .i64 x413_2) ∧ w8.cell? (⟨w.heap.size, 4, none⟩ : Addr) = some (.int .i64 x414_2) ∧ w8.cell? (⟨w.heap.size, 5, none⟩ : Addr) = some (.int .i64 x415_2)) ∧
  Calls Tryd.prog 44 #[(.agg #[(.int .i64 x410_2), (.int .i64 x411_2), (.int .i64 x412_2), (.int .i64 x413_2), (.int .i64 x414_2), (.int .i64 x415_2)]), (.int .i64 part), (.int .i64 part)] w8 (Ret fun v_7 w9 => ∃ (x44_2 : Int), v_7 = (.int .i64 x44_2) ∧
  decide (part < (2 : Int)) = false ∧
  (part == (11 : Int)) = false ∧
  ∃ vS : World → Prop, ∀ w10 : World, w10 = w9.drew → vS w10 ∧
  ∃ (x610 : Int), ∃ (x611 : Int), ∃ (x612 : Int), ∃ (x613 : Int), ∃ (x614 : Int), ∃ (x615 : Int), ((∀ w11, vS w11 → w11.cell? (⟨w.heap.size, 0, none⟩ : Addr) = some (.int .i64 x610)) ∧ (∀ w11, vS w11 → w11.cell? (⟨w.heap.size, 1, none⟩ : Addr) = some (.int .i64 x611)) ∧ (∀ w11, vS w11 → w11.cell? (⟨w.heap.size, 2, none⟩ : Addr) = some (.int .i64 x612)) ∧ (∀ w11, vS w11 → w11.cell? (⟨w.heap.size, 3, none⟩ : Addr) = some (.int .i64 x613)) ∧ (∀ w11, vS w11 → w11.cell? (⟨w.heap.size, 4, none⟩ : Addr) = some (.int .i64 x614)) ∧ (∀ w11, vS w11 → w11.cell? (⟨w.heap.size, 5, none⟩ : Addr) = some (.int .i64 x615))) ∧
  ∃ (x640 : Int), ∃ (x641 : Int), ∃ (x642 : Int), ∃ (x643 : Int), ∃ (x644 : Int), ∃ (x645 : Int), ((∀ w12, vS w12 → w12.cell? (⟨w.heap.size, 0, none⟩ : Addr) = some (.int .i64 x640)) ∧ (∀ w12, vS w12 → w12.cell? (⟨w.heap.size, 1, none⟩ : Addr) = some (.int .i64 x641)) ∧ (∀ w12, vS w12 → w12.cell? (⟨w.heap.size, 2, none⟩ : Addr) = some (.int .i64 x642)) ∧ (∀ w12, vS w12 → w12.cell? (⟨w.heap.size, 3, none⟩ : Addr) = some (.int .i64 x643)) ∧ (∀ w12, vS w12 → w12.cell? (⟨w.heap.size, 4, none⟩ : Addr) = some (.int .i64 x644)) ∧ (∀ w12, vS w12 → w12.cell? (⟨w.heap.size, 5, none⟩ : Addr) = some (.int .i64 x645))) ∧
  ∃ (x680 : Int), ∃ (x681 : Int), ∃ (x682 : Int), ∃ (x683 : Int), ∃ (x684 : Int), ∃ (x685 : Int), ((∀ w13, vS w13 → w13.cell? (⟨w.heap.size, 0, none⟩ : Addr) = some (.int .i64 x680)) ∧ (∀ w13, vS w13 → w13.cell? (⟨w.heap.size, 1, none⟩ : Addr) = some (.int .i64 x681)) ∧ (∀ w13, vS w13 → w13.cell? (⟨w.heap.size, 2, none⟩ : Addr) = some (.int .i64 x682)) ∧ (∀ w13, vS w13 → w13.cell? (⟨w.heap.size, 3, none⟩ : Addr) = some (.int .i64 x683)) ∧ (∀ w13, vS w13 → w13.cell? (⟨w.heap.size, 4, none⟩ : Addr) = some (.int .i64 x684)) ∧ (∀ w13, vS w13 → w13.cell? (⟨w.heap.size, 5, none⟩ : Addr) = some (.int .i64 x685))) ∧
  Calls Tryd.prog 44 #[(.agg #[(.int .i64 x610), (.int .i64 x611), (.int .i64 x612), (.int .i64 x613), (.int .i64 x614), (.int .i64 x615)]), (.int .i64 0), (.int .i64 1)] w10 (Ret fun v_8 w14 => ∃ (x62 : Int), v_8 = (.int .i64 x62) ∧
  vS w14 ∧
  Calls Tryd.prog 44 #[(.agg #[(.int .i64 x640), (.int .i64 x641), (.int .i64 x642), (.int .i64 x643), (.int .i64 x644), (.int .i64 x645)]), (.int .i64 2), (.int .i64 10)] w14 (Ret fun v_9 w15 => ∃ (x65 : Int), v_9 = (.int .i64 x65) ∧
  vS w15 ∧
  Calls Tryd.prog 44 #[(.agg #[(.int .i64 x680), (.int .i64 x681), (.int .i64 x682), (.int .i64 x683), (.int .i64 x684), (.int .i64 x685)]), (.int .i64 2), (.int .i64 (IntKind.i64.wrap (part - 1)))] w15 (Ret fun v_10 w16 => ∃ (x71 : Int), v_10 = (.int .i64 x71) ∧
  vS w16 ∧
  R (.tuple #[(.int .i64 (IntKind.i64.wrap ((IntKind.i64.wrap (x62 + (IntKind.i64.wrap (block * x65)))) + x71))), (.int .i64 x44_2), (.bool true)]) w16))))))))))))
theorem conf_Shape_Range.vc_eq (s0 : Int) (s1 : Int) (s2 : Int) (s3 : Int) (s4 : Int) (s5 : Int) (part : Int) (block : Int) (w : World) (R : Value → World → Prop) : fnV Tryd.prog Tryd.f36 (.at_ 2 2 (.k (.at_ 4 4 (.k .nil) (.at_ 4 8 (.k .nil) (.at_ 4 12 (.k .nil) (.at_ 4 16 (.k .nil) (.c .nil (.y .nil))))))) (.c (.at_ 4 4 (.k .nil) (.at_ 4 8 (.k .nil) (.at_ 4 12 (.k .nil) (.at_ 4 16 (.k .nil) (.c .nil (.n (.y .nil))))))) (.at_ 4 4 (.k .nil) (.at_ 4 8 (.k .nil) (.at_ 4 12 (.k .nil) (.at_ 4 16 (.k .nil) (.c .nil (.n (.n (.tk 0 (.tk 2 (.tk 3 (.tk 7 (.tk 8 (.tk 9 (.tk 12 (.alt 1 (.alt 4 (.tk 5 (.tk 6 (.alt 10 (.tk 11 (.tk 13 (.tk 14 (.tk 15 (.fin .nil))))) .nil))) .nil) .nil))))))))))))))))) [(.agg #[(.int .i64 s0), (.int .i64 s1), (.int .i64 s2), (.int .i64 s3), (.int .i64 s4), (.int .i64 s5)]), (.int .i64 part), (.int .i64 block)] w R = conf_Shape_Range.vc s0 s1 s2 s3 s4 s5 part block w R := by kernel_rfl
theorem conf_Shape_Range.calls (s0 : Int) (s1 : Int) (s2 : Int) (s3 : Int) (s4 : Int) (s5 : Int) (part : Int) (block : Int) {w : World} {R : Value → World → Prop} (h : conf_Shape_Range.vc s0 s1 s2 s3 s4 s5 part block w R) : Calls Tryd.prog 36 #[(.agg #[(.int .i64 s0), (.int .i64 s1), (.int .i64 s2), (.int .i64 s3), (.int .i64 s4), (.int .i64 s5)]), (.int .i64 part), (.int .i64 block)] w (Ret R) :=
  calls_V fit Tryd.func36 (.at_ 2 2 (.k (.at_ 4 4 (.k .nil) (.at_ 4 8 (.k .nil) (.at_ 4 12 (.k .nil) (.at_ 4 16 (.k .nil) (.c .nil (.y .nil))))))) (.c (.at_ 4 4 (.k .nil) (.at_ 4 8 (.k .nil) (.at_ 4 12 (.k .nil) (.at_ 4 16 (.k .nil) (.c .nil (.n (.y .nil))))))) (.at_ 4 4 (.k .nil) (.at_ 4 8 (.k .nil) (.at_ 4 12 (.k .nil) (.at_ 4 16 (.k .nil) (.c .nil (.n (.n (.tk 0 (.tk 2 (.tk 3 (.tk 7 (.tk 8 (.tk 9 (.tk 12 (.alt 1 (.alt 4 (.tk 5 (.tk 6 (.alt 10 (.tk 11 (.tk 13 (.tk 14 (.tk 15 (.fin .nil))))) .nil))) .nil) .nil))))))))))))))))) (by rw [show (#[(.agg #[(.int .i64 s0), (.int .i64 s1), (.int .i64 s2), (.int .i64 s3), (.int .i64 s4), (.int .i64 s5)]), (.int .i64 part), (.int .i64 block)] : Array Value).toList = [(.agg #[(.int .i64 s0), (.int .i64 s1), (.int .i64 s2), (.int .i64 s3), (.int .i64 s4), (.int .i64 s5)]), (.int .i64 part), (.int .i64 block)] from rfl, conf_Shape_Range.vc_eq]; exact h)
/-- function 37 -/
def conf_Shape_Side.vc (s0 : Int) (s1 : Int) (s2 : Int) (s3 : Int) (s4 : Int) (s5 : Int) (part : Int) (w : World) (R : Value → World → Prop) : Prop :=
  ∀ w1 : World, w1 = w.alloc (.cells #[(.int .i64 s0), (.int .i64 s1), (.int .i64 s2), (.int .i64 s3), (.int .i64 s4), (.int .i64 s5)] 57 (0, 0)) →
  ∃ (x70 : Int), ∃ (x71 : Int), ∃ (x72 : Int), ∃ (x73 : Int), ∃ (x74 : Int), ∃ (x75 : Int), (w1.cell? (⟨w.heap.size, 0, none⟩ : Addr) = some (.int .i64 x70) ∧ w1.cell? (⟨w.heap.size, 1, none⟩ : Addr) = some (.int .i64 x71) ∧ w1.cell? (⟨w.heap.size, 2, none⟩ : Addr) = some (.int .i64 x72) ∧ w1.cell? (⟨w.heap.size, 3, none⟩ : Addr) = some (.int .i64 x73) ∧ w1.cell? (⟨w.heap.size, 4, none⟩ : Addr) = some (.int .i64 x74) ∧ w1.cell? (⟨w.heap.size, 5, none⟩ : Addr) = some (.int .i64 x75)) ∧
  Calls Tryd.prog 19 #[(.agg #[(.int .i64 x70), (.int .i64 x71), (.int .i64 x72), (.int .i64 x73), (.int .i64 x74), (.int .i64 x75)])] w1 (Ret fun v w2 => ∃ (x8 : Bool), v = (.bool x8) ∧
  ((!x8) = true →
  R (.tuple #[(.int .i64 0), (.int .i64 0)]) w2) ∧
  ((!x8) = false →
  ∃ (x100 : Int), ∃ (x101 : Int), ∃ (x102 : Int), ∃ (x103 : Int), ∃ (x104 : Int), ∃ (x105 : Int), (w2.cell? (⟨w.heap.size, 0, none⟩ : Addr) = some (.int .i64 x100) ∧ w2.cell? (⟨w.heap.size, 1, none⟩ : Addr) = some (.int .i64 x101) ∧ w2.cell? (⟨w.heap.size, 2, none⟩ : Addr) = some (.int .i64 x102) ∧ w2.cell? (⟨w.heap.size, 3, none⟩ : Addr) = some (.int .i64 x103) ∧ w2.cell? (⟨w.heap.size, 4, none⟩ : Addr) = some (.int .i64 x104) ∧ w2.cell? (⟨w.heap.size, 5, none⟩ : Addr) = some (.int .i64 x105)) ∧
  Calls Tryd.prog 45 #[(.agg #[(.int .i64 x100), (.int .i64 x101), (.int .i64 x102), (.int .i64 x103), (.int .i64 x104), (.int .i64 x105)]), (.int .i64 part)] w2 (Ret fun v_1 w3 => ∃ (x12_0 : Int), ∃ (x12_1 : Int), v_1 = (.tuple #[(.int .i64 x12_0), (.int .i64 x12_1)]) ∧
  R (.tuple #[(.int .i64 x12_0), (.int .i64 x12_1)]) w3)))
theorem conf_Shape_Side.vc_eq (s0 : Int) (s1 : Int) (s2 : Int) (s3 : Int) (s4 : Int) (s5 : Int) (part : Int) (w : World) (R : Value → World → Prop) : fnV Tryd.prog Tryd.f37 (.c .nil .nil) [(.agg #[(.int .i64 s0), (.int .i64 s1), (.int .i64 s2), (.int .i64 s3), (.int .i64 s4), (.int .i64 s5)]), (.int .i64 part)] w R = conf_Shape_Side.vc s0 s1 s2 s3 s4 s5 part w R := by kernel_rfl
theorem conf_Shape_Side.calls (s0 : Int) (s1 : Int) (s2 : Int) (s3 : Int) (s4 : Int) (s5 : Int) (part : Int) {w : World} {R : Value → World → Prop} (h : conf_Shape_Side.vc s0 s1 s2 s3 s4 s5 part w R) : Calls Tryd.prog 37 #[(.agg #[(.int .i64 s0), (.int .i64 s1), (.int .i64 s2), (.int .i64 s3), (.int .i64 s4), (.int .i64 s5)]), (.int .i64 part)] w (Ret R) :=
  calls_V fit Tryd.func37 (.c .nil .nil) (by rw [show (#[(.agg #[(.int .i64 s0), (.int .i64 s1), (.int .i64 s2), (.int .i64 s3), (.int .i64 s4), (.int .i64 s5)]), (.int .i64 part)] : Array Value).toList = [(.agg #[(.int .i64 s0), (.int .i64 s1), (.int .i64 s2), (.int .i64 s3), (.int .i64 s4), (.int .i64 s5)]), (.int .i64 part)] from rfl, conf_Shape_Side.vc_eq]; exact h)
/-- function 23 -/
def brain_Brain_Table.vc (bB : Nat) (part : Int) (block : Int) (w : World) (R : Value → World → Prop) : Prop :=
  ∀ w1 : World, w1 = w.alloc (.cells #[(.int .i64 0), (.int .i64 0), (.slice none 0 0)] 67 (0, 0)) →
  ∃ (x220 : Int), ∃ (x221 : Int), ∃ (x222 : Int), ∃ (x223 : Int), ∃ (x224 : Int), ∃ (x225 : Int), (w1.cell? (⟨bB, 0, none⟩ : Addr) = some (.int .i64 x220) ∧ w1.cell? (⟨bB, 1, none⟩ : Addr) = some (.int .i64 x221) ∧ w1.cell? (⟨bB, 2, none⟩ : Addr) = some (.int .i64 x222) ∧ w1.cell? (⟨bB, 3, none⟩ : Addr) = some (.int .i64 x223) ∧ w1.cell? (⟨bB, 4, none⟩ : Addr) = some (.int .i64 x224) ∧ w1.cell? (⟨bB, 5, none⟩ : Addr) = some (.int .i64 x225)) ∧
  Calls Tryd.prog 36 #[(.agg #[(.int .i64 x220), (.int .i64 x221), (.int .i64 x222), (.int .i64 x223), (.int .i64 x224), (.int .i64 x225)]), (.int .i64 part), (.int .i64 block)] w1 (Ret fun v w2 => ∃ (x25_0 : Int), ∃ (x25_1 : Int), ∃ (x25_2 : Bool), v = (.tuple #[(.int .i64 x25_0), (.int .i64 x25_1), (.bool x25_2)]) ∧
  ((!x25_2) = true →
  (((∃ u, w2.cell? (⟨w.heap.size, 0, none⟩ : Addr) = some u) ∧ w2.frozen? (⟨w.heap.size, 0, none⟩ : Addr) = false) ∧ ((∃ u, w2.cell? (⟨w.heap.size, 1, none⟩ : Addr) = some u) ∧ w2.frozen? (⟨w.heap.size, 1, none⟩ : Addr) = false) ∧ ((∃ u, w2.cell? (⟨w.heap.size, 2, none⟩ : Addr) = some u) ∧ w2.frozen? (⟨w.heap.size, 2, none⟩ : Addr) = false)) ∧ ∀ w3 : World, w3 = (((w2.setCell (⟨w.heap.size, 0, none⟩ : Addr) (.int .i64 0)).setCell (⟨w.heap.size, 1, none⟩ : Addr) (.int .i64 0)).setCell (⟨w.heap.size, 2, none⟩ : Addr) (.slice none 0 0)) →
  ∃ (r00 : Int), ∃ (r01 : Int), ∃ (r02A : Option Addr), ∃ (r02N : Nat), ∃ (r02C : Nat), (w3.cell? (⟨w.heap.size, 0, none⟩ : Addr) = some (.int .i64 r00) ∧ w3.cell? (⟨w.heap.size, 1, none⟩ : Addr) = some (.int .i64 r01) ∧ w3.cell? (⟨w.heap.size, 2, none⟩ : Addr) = some (.slice r02A r02N r02C)) ∧
  R (.tuple #[(.agg #[(.int .i64 r00), (.int .i64 r01), (.slice r02A r02N r02C)]), (.bool false)]) w3) ∧
  ((!x25_2) = false →
  ∃ (x360 : Int), ∃ (x361 : Int), ∃ (x362 : Int), ∃ (x363 : Int), ∃ (x364 : Int), ∃ (x365 : Int), (w2.cell? (⟨bB, 0, none⟩ : Addr) = some (.int .i64 x360) ∧ w2.cell? (⟨bB, 1, none⟩ : Addr) = some (.int .i64 x361) ∧ w2.cell? (⟨bB, 2, none⟩ : Addr) = some (.int .i64 x362) ∧ w2.cell? (⟨bB, 3, none⟩ : Addr) = some (.int .i64 x363) ∧ w2.cell? (⟨bB, 4, none⟩ : Addr) = some (.int .i64 x364) ∧ w2.cell? (⟨bB, 5, none⟩ : Addr) = some (.int .i64 x365)) ∧
  Calls Tryd.prog 37 #[(.agg #[(.int .i64 x360), (.int .i64 x361), (.int .i64 x362), (.int .i64 x363), (.int .i64 x364), (.int .i64 x365)]), (.int .i64 part)] w2 (Ret fun v_1 w4 => ∃ (x38_0 : Int), ∃ (x38_1 : Int), v_1 = (.tuple #[(.int .i64 x38_0), (.int .i64 x38_1)]) ∧
  ∃ (x47 : ByteArray), w4.cell? (⟨bB, 6, none⟩ : Addr) = some (.string x47) ∧
  (0 ≤ x25_0 ∧ x25_0 ≤ (IntKind.i64.wrap (x25_0 + x25_1)) ∧ (IntKind.i64.wrap (x25_0 + x25_1)) ≤ ((x47.size : Nat) : Int)) ∧
  Calls Tryd.prog 38 #[(.int .i64 x38_0), (.int .i64 x38_1), (.string (x47.extract x25_0.toNat (IntKind.i64.wrap (x25_0 + x25_1)).toNat))] w4 (Ret fun v_2 w5 => ∃ (x53_00 : Int), ∃ (x53_01 : Int), ∃ (x53_02A : Option Addr), ∃ (x53_02N : Nat), ∃ (x53_02C : Nat), ∃ (x53_1 : Int), v_2 = (.tuple #[(.agg #[(.int .i64 x53_00), (.int .i64 x53_01), (.slice x53_02A x53_02N x53_02C)]), (.int .i64 x53_1)]) ∧
  ∀ w6 : World, w6 = w5.alloc (.cells #[(.int .i64 0), (.int .i64 0), (.slice none 0 0)] 67 (0, 0)) →
  (((∃ u, w6.cell? (⟨w5.heap.size, 0, none⟩ : Addr) = some u) ∧ w6.frozen? (⟨w5.heap.size, 0, none⟩ : Addr) = false) ∧ ((∃ u, w6.cell? (⟨w5.heap.size, 1, none⟩ : Addr) = some u) ∧ w6.frozen? (⟨w5.heap.size, 1, none⟩ : Addr) = false) ∧ ((∃ u, w6.cell? (⟨w5.heap.size, 2, none⟩ : Addr) = some u) ∧ w6.frozen? (⟨w5.heap.size, 2, none⟩ : Addr) = false)) ∧ ∀ w7 : World, w7 = (((w6.setCell (⟨w5.heap.size, 0, none⟩ : Addr) (.int .i64 x53_00)).setCell (⟨w5.heap.size, 1, none⟩ : Addr) (.int .i64 x53_01)).setCell (⟨w5.heap.size, 2, none⟩ : Addr) (.slice x53_02A x53_02N x53_02C)) →
  ∃ (x560 : Int), ∃ (x561 : Int), ∃ (x562A : Option Addr), ∃ (x562N : Nat), ∃ (x562C : Nat), (w7.cell? (⟨w5.heap.size, 0, none⟩ : Addr) = some (.int .i64 x560) ∧ w7.cell? (⟨w5.heap.size, 1, none⟩ : Addr) = some (.int .i64 x561) ∧ w7.cell? (⟨w5.heap.size, 2, none⟩ : Addr) = some (.slice x562A x562N x562C)) ∧
  (((∃ u, w7.cell? (⟨w.heap.size, 0, none⟩ : Addr) = some u) ∧ w7.frozen? (⟨w.heap.size, 0, none⟩ : Addr) = false) ∧ ((∃ u, w7.cell? (⟨w.heap.size, 1, none⟩ : Addr) = some u) ∧ w7.frozen? (⟨w.heap.size, 1, none⟩ : Addr) = false) ∧ ((∃ u, w7.cell? (⟨w.heap.size, 2, none⟩ : Addr) = some u) ∧ w7.frozen? (⟨w.heap.size, 2, none⟩ : Addr) = false)) ∧ ∀ w8 : World, w8 = (((w7.setCell (⟨w.heap.size, 0, none⟩ : Addr) (.int .i64 x560)).setCell (⟨w.heap.size, 1, none⟩ : Addr) (.int .i64 x561)).setCell (⟨w.heap.size, 2, none⟩ : Addr) (.slice x562A x562N x562C)) →
  ∃ (r00_1 : Int), ∃ (r01_1 : Int), ∃ (r02A_1 : Option Addr), ∃ (r02N_1 : Nat), ∃ (r02C_1 : Nat), (w8.cell? (⟨w.heap.size, 0, none⟩ : Addr) = some (.int .i64 r00_1) ∧ w8.cell? (⟨w.heap.size, 1, none⟩ : Addr) = some (.int .i64 r01_1) ∧ w8.cell? (⟨w.heap.size, 2, none⟩ : Addr) = some (.slice r02A_1 r02N_1 r02C_1)) ∧
  R (.tuple #[(.agg #[(.int .i64 r00_1), (.int .i64 r01_1), (.slice r02A_1 r02N_1 r02C_1)]), (.bool (x53_1 == (0 : Int)))]) w8))))
theorem brain_Brain_Table.vc_eq (bB : Nat) (part : Int) (block : Int) (w : World) (R : Value → World → Prop) : fnV Tryd.prog Tryd.f23 (.k (.c .nil .nil)) [(.pointer (some (⟨bB, 0, none⟩ : Addr))), (.int .i64 part), (.int .i64 block)] w R = brain_Brain_Table.vc bB part block w R := by kernel_rfl
theorem brain_Brain_Table.calls (bB : Nat) (part : Int) (block : Int) {w : World} {R : Value → World → Prop} (h : brain_Brain_Table.vc bB part block w R) : Calls Tryd.prog 23 #[(.pointer (some (⟨bB, 0, none⟩ : Addr))), (.int .i64 part), (.int .i64 block)] w (Ret R) :=
  calls_V fit Tryd.func23 (.k (.c .nil .nil)) (by rw [show (#[(.pointer (some (⟨bB, 0, none⟩ : Addr))), (.int .i64 part), (.int .i64 block)] : Array Value).toList = [(.pointer (some (⟨bB, 0, none⟩ : Addr))), (.int .i64 part), (.int .i64 block)] from rfl, brain_Brain_Table.vc_eq]; exact h)
end Go.Proofs.YtbadkcnemcnhfaaDoor.Vc
