import Derived.Test.YtfecfdhigkehgaaVc
import Derived.Test.YtfecfdhigkehgaaH
import Derived.Test.YtfecfdhigkehgaaProg
import Derived.KernelRfl
set_option linter.unusedVariables false
set_option maxRecDepth 100000
namespace Go.Proofs.Ytfecfdhigkehgaa.Vc
open Go Go.Proofs Go.Proofs.Ytfecfdhigkehgaa.V
/-- function 3 -/
def coadjutorlaw12_SoftExact.vc (listA : Option Addr) (listN : Nat) (listC : Nat) (draw : Int) (below : Int) (w : World) (R : Value → World → Prop) : Prop :=
  Calls Try.prog 11 #[] w (Ret fun v w1 => ∃ (x7 : Bool), v = (.bool x7) ∧
  ((!x7) = true →
  R (.bool false) w1) ∧
  ((!x7) = false →
  (decide (((listN : Nat) : Int) > (70 : Int)) = true →
  R (.bool true) w1) ∧
  (decide (((listN : Nat) : Int) > (70 : Int)) = false →
  Calls Try.prog 12 #[(.int .i64 below)] w1 (Ret fun v_1 w2 => ∃ (x13 : Int), v_1 = (.int .i64 x13) ∧
  Calls Try.prog 13 #[(.int .i64 below)] w2 (Ret fun v_2 w3 => ∃ (x15 : Int), v_2 = (.int .i64 x15) ∧
  ((x13 == x15) = true →
  Calls Try.prog 15 #[(.slice listA listN listC)] w3 (Ret fun v_3 w4 => ∃ (x19A : Option Addr), ∃ (x19N : Nat), ∃ (x19C : Nat), v_3 = (.slice x19A x19N x19C) ∧
  Calls Try.prog 16 #[(.slice listA listN listC)] w4 (Ret fun v_4 w5 => ∃ (x21A : Option Addr), ∃ (x21N : Nat), ∃ (x21C : Nat), v_4 = (.slice x21A x21N x21C) ∧
  Calls Try.prog 14 #[(.slice x19A x19N x19C), (.slice x21A x21N x21C)] w5 (Ret fun v_5 w6 => ∃ (x22 : Bool), v_5 = (.bool x22) ∧
  (x22 = true →
  Calls Try.prog 17 #[(.int .i64 draw), (.slice listA listN listC)] w6 (Ret fun v_6 w7 => ∃ (x27 : Int), v_6 = (.int .i64 x27) ∧
  Calls Try.prog 18 #[(.int .i64 draw), (.slice listA listN listC)] w7 (Ret fun v_7 w8 => ∃ (x30 : Int), v_7 = (.int .i64 x30) ∧
  ((x27 == x30) = true →
  Calls Try.prog 19 #[(.slice listA listN listC)] w8 (Ret fun v_8 w9 => ∃ (x35 : Int), v_8 = (.int .i64 x35) ∧
  Calls Try.prog 20 #[(.slice listA listN listC)] w9 (Ret fun v_9 w10 => ∃ (x37 : Int), v_9 = (.int .i64 x37) ∧
  R (.bool (x35 == x37)) w10))) ∧
  ((x27 == x30) = false →
  R (.bool false) w8)))) ∧
  (x22 = false →
  R (.bool false) w6))))) ∧
  ((x13 == x15) = false →
  R (.bool false) w3))))))
theorem coadjutorlaw12_SoftExact.vc_eq (listA : Option Addr) (listN : Nat) (listC : Nat) (draw : Int) (below : Int) (w : World) (R : Value → World → Prop) : fnV Try.prog Try.f3 (.c .nil (.c .nil (.at_ 5 5 (.at_ 5 12 (.at_ 5 21 .nil .nil) .nil) .nil))) [(.slice listA listN listC), (.int .i64 draw), (.int .i64 below)] w R = coadjutorlaw12_SoftExact.vc listA listN listC draw below w R := by kernel_rfl
theorem coadjutorlaw12_SoftExact.calls (listA : Option Addr) (listN : Nat) (listC : Nat) (draw : Int) (below : Int) {w : World} {R : Value → World → Prop} (h : coadjutorlaw12_SoftExact.vc listA listN listC draw below w R) : Calls Try.prog 3 #[(.slice listA listN listC), (.int .i64 draw), (.int .i64 below)] w (Ret R) :=
  calls_V fit Try.func3 (.c .nil (.c .nil (.at_ 5 5 (.at_ 5 12 (.at_ 5 21 .nil .nil) .nil) .nil))) (by rw [show (#[(.slice listA listN listC), (.int .i64 draw), (.int .i64 below)] : Array Value).toList = [(.slice listA listN listC), (.int .i64 draw), (.int .i64 below)] from rfl, coadjutorlaw12_SoftExact.vc_eq]; exact h)
/-- function 4 -/
def coadjutorlaw12_SoftMix.vc (weightsA : Option Addr) (weightsN : Nat) (weightsC : Nat) (rowsA : Option Addr) (rowsN : Nat) (rowsC : Nat) (w : World) (R : Value → World → Prop) : Prop :=
  Calls Try.prog 11 #[] w (Ret fun v w1 => ∃ (x6 : Bool), v = (.bool x6) ∧
  ((!x6) = true →
  R (.bool false) w1) ∧
  ((!x6) = false →
  (decide (((weightsN : Nat) : Int) > (40 : Int)) = true →
  R (.bool true) w1) ∧
  (decide (((weightsN : Nat) : Int) > (40 : Int)) = false →
  (decide (((rowsN : Nat) : Int) > (40 : Int)) = true →
  R (.bool true) w1) ∧
  (decide (((rowsN : Nat) : Int) > (40 : Int)) = false →
  ∃ vI : Int → Nat → World → Prop, (∃ vk_2 : Nat, vI 0 vk_2 w1) ∧
  ∀ (jk : Nat → Value) (i : Int), ∀ (vk : Nat) (w2 : World), vI i vk w2 →
  (decide (i < ((rowsN : Nat) : Int)) = true →
  (0 ≤ i ∧ i < ((rowsN : Nat) : Int)) ∧ someV rowsA fun p =>
  ∃ (x25A : Option Addr), ∃ (x25N : Nat), ∃ (x25C : Nat), w2.cell? (p.add (i.toNat * 1)) = some (.slice x25A x25N x25C) ∧
  (decide (((x25N : Nat) : Int) > (40 : Int)) = true →
  R (.bool true) w2) ∧
  (decide (((x25N : Nat) : Int) > (40 : Int)) = false →
  ∃ vk_1 : Nat, vk_1 < vk ∧ vI (IntKind.i64.wrap (i + 1)) vk_1 w2)) ∧
  (decide (i < ((rowsN : Nat) : Int)) = false →
  Calls Try.prog 21 #[(.slice weightsA weightsN weightsC), (.slice rowsA rowsN rowsC)] w2 (Ret fun v_1 w3 => ∃ (x30A : Option Addr), ∃ (x30N : Nat), ∃ (x30C : Nat), v_1 = (.slice x30A x30N x30C) ∧
  Calls Try.prog 22 #[(.slice weightsA weightsN weightsC), (.slice rowsA rowsN rowsC)] w3 (Ret fun v_2 w4 => ∃ (x33A : Option Addr), ∃ (x33N : Nat), ∃ (x33C : Nat), v_2 = (.slice x33A x33N x33C) ∧
  Calls Try.prog 14 #[(.slice x30A x30N x30C), (.slice x33A x33N x33C)] w4 (Ret fun v_3 w5 => ∃ (x34 : Bool), v_3 = (.bool x34) ∧
  R (.bool x34) w5))))))))
theorem coadjutorlaw12_SoftMix.vc_eq (weightsA : Option Addr) (weightsN : Nat) (weightsC : Nat) (rowsA : Option Addr) (rowsN : Nat) (rowsC : Nat) (w : World) (R : Value → World → Prop) : fnV Try.prog Try.f4 (.c .nil (.at_ 3 3 (.k .nil) (.c .nil (.lp [(4, none), (5, some (.int .i64)), (16, none), (17, none), (18, none), (19, none), (20, none), (21, none), (22, none), (23, none), (24, none), (25, none), (26, none), (27, none)] (.c (.c .nil .nil) .nil))))) [(.slice weightsA weightsN weightsC), (.slice rowsA rowsN rowsC)] w R = coadjutorlaw12_SoftMix.vc weightsA weightsN weightsC rowsA rowsN rowsC w R := by kernel_rfl
theorem coadjutorlaw12_SoftMix.calls (weightsA : Option Addr) (weightsN : Nat) (weightsC : Nat) (rowsA : Option Addr) (rowsN : Nat) (rowsC : Nat) {w : World} {R : Value → World → Prop} (h : coadjutorlaw12_SoftMix.vc weightsA weightsN weightsC rowsA rowsN rowsC w R) : Calls Try.prog 4 #[(.slice weightsA weightsN weightsC), (.slice rowsA rowsN rowsC)] w (Ret R) :=
  calls_V fit Try.func4 (.c .nil (.at_ 3 3 (.k .nil) (.c .nil (.lp [(4, none), (5, some (.int .i64)), (16, none), (17, none), (18, none), (19, none), (20, none), (21, none), (22, none), (23, none), (24, none), (25, none), (26, none), (27, none)] (.c (.c .nil .nil) .nil))))) (by rw [show (#[(.slice weightsA weightsN weightsC), (.slice rowsA rowsN rowsC)] : Array Value).toList = [(.slice weightsA weightsN weightsC), (.slice rowsA rowsN rowsC)] from rfl, coadjutorlaw12_SoftMix.vc_eq]; exact h)
/-- function 5 -/
def coadjutorlaw12_SoftOrder.vc (listA : Option Addr) (listN : Nat) (listC : Nat) (more : Int) (w : World) (R : Value → World → Prop) : Prop :=
  Calls Try.prog 11 #[] w (Ret fun v w1 => ∃ (x10 : Bool), v = (.bool x10) ∧
  ((!x10) = true →
  R (.bool false) w1) ∧
  ((!x10) = false →
  (decide (((listN : Nat) : Int) > (20 : Int)) = true →
  R (.bool true) w1) ∧
  (decide (((listN : Nat) : Int) > (20 : Int)) = false →
  ((((listN : Nat) : Int) == (0 : Int)) = true →
  R (.bool true) w1) ∧
  ((((listN : Nat) : Int) == (0 : Int)) = false →
  Calls Try.prog 15 #[(.slice listA listN listC)] w1 (Ret fun v_1 w2 => ∃ (x21A : Option Addr), ∃ (x21N : Nat), ∃ (x21C : Nat), v_1 = (.slice x21A x21N x21C) ∧
  Calls Try.prog 19 #[(.slice listA listN listC)] w2 (Ret fun v_2 w3 => ∃ (x23 : Int), v_2 = (.int .i64 x23) ∧
  ((((x21N : Nat) : Int) != ((listN : Nat) : Int)) = true →
  R (.bool false) w3) ∧
  ((((x21N : Nat) : Int) != ((listN : Nat) : Int)) = false →
  (decide (x23 < (0 : Int)) = true →
  R (.bool false) w3) ∧
  (decide (x23 < (0 : Int)) = false →
  (0 ≤ x23 ∧ x23 < ((x21N : Nat) : Int)) ∧ someV x21A fun p =>
  ∃ (x37 : Int), w3.cell? (p.add (x23.toNat * 1)) = some (.int .i64 x37) ∧
  ((x37 != (65536 : Int)) = true →
  R (.bool false) w3) ∧
  ((x37 != (65536 : Int)) = false →
  ∃ vI : Int → Nat → World → Prop, (∃ vk_2 : Nat, vI 0 vk_2 w3) ∧
  ∀ (jk : Nat → Value) (i : Int), ∀ (vk : Nat) (w4 : World), vI i vk w4 →
  (decide (i < ((listN : Nat) : Int)) = true →
  ∃ vI_1 : Int → Nat → World → Prop, (∃ vk_5 : Nat, vI_1 0 vk_5 w4) ∧
  ∀ (jk : Nat → Value) (vk_6 : Int), ∀ (vk_3 : Nat) (w5 : World), vI_1 vk_6 vk_3 w5 →
  (decide (vk_6 < ((listN : Nat) : Int)) = true →
  ∃ vS : World → Prop, ∀ w6 : World, w6 = w5.drew → vS w6 ∧
  (0 ≤ i ∧ i < ((listN : Nat) : Int)) ∧ someV listA fun p_1 =>
  ∃ (x55 : Int), (∀ w7, vS w7 → w7.cell? (p_1.add (i.toNat * 1)) = some (.int .i64 x55)) ∧
  (0 ≤ vk_6 ∧ vk_6 < ((listN : Nat) : Int)) ∧ someV listA fun p_2 =>
  ∃ (x59 : Int), (∀ w8, vS w8 → w8.cell? (p_2.add (vk_6.toNat * 1)) = some (.int .i64 x59)) ∧
  (decide (x55 > x59) = true →
  (0 ≤ i ∧ i < ((x21N : Nat) : Int)) ∧ someV x21A fun p_3 =>
  ∃ (x65 : Int), (∀ w9, vS w9 → w9.cell? (p_3.add (i.toNat * 1)) = some (.int .i64 x65)) ∧
  (0 ≤ vk_6 ∧ vk_6 < ((x21N : Nat) : Int)) ∧ someV x21A fun p_4 =>
  ∃ (x69 : Int), (∀ w10, vS w10 → w10.cell? (p_4.add (vk_6.toNat * 1)) = some (.int .i64 x69)) ∧
  (decide (x65 < x69) = true →
  R (.bool false) w6) ∧
  (decide (x65 < x69) = false →
  ∃ vk_4 : Nat, vk_4 < vk_3 ∧ vI_1 (IntKind.i64.wrap (vk_6 + 1)) vk_4 w6)) ∧
  (decide (x55 > x59) = false →
  ∃ vk_4 : Nat, vk_4 < vk_3 ∧ vI_1 (IntKind.i64.wrap (vk_6 + 1)) vk_4 w6)) ∧
  (decide (vk_6 < ((listN : Nat) : Int)) = false →
  ∃ vk_1 : Nat, vk_1 < vk ∧ vI (IntKind.i64.wrap (i + 1)) vk_1 w5)) ∧
  (decide (i < ((listN : Nat) : Int)) = false →
  (0 ≤ x23 ∧ x23 < ((listN : Nat) : Int)) ∧ someV listA fun p_5 =>
  ∃ (x76 : Int), w4.cell? (p_5.add (x23.toNat * 1)) = some (.int .i64 x76) ∧
  (decide (more > x76) = true →
  R (.bool true) w4) ∧
  (decide (more > x76) = false →
  ∀ w11 : World, w11 = w4.alloc (.cells #[] 3 (0, 0)) →
  ∃ (x80A : Option Addr), ∃ (x80N : Nat), ∃ (x80C : Nat), ∃ w12 : World, (Builtin.append_ #[22, 22] 22 #[(.slice (some (⟨w4.heap.size, 0, none⟩ : Addr)) 0 0), (.slice listA listN listC)]).run Try.prog w11 = .ok (.slice x80A x80N x80C) w12 ∧
  ∀ w13 : World, w13 = w12.alloc (.cells #[(.int .i64 more)] 3 (0, 0)) →
  ∃ (x83A : Option Addr), ∃ (x83N : Nat), ∃ (x83C : Nat), ∃ w14 : World, (Builtin.append_ #[22, 22] 22 #[(.slice x80A x80N x80C), (.slice (some (⟨w12.heap.size, 0, none⟩ : Addr)) 1 1)]).run Try.prog w13 = .ok (.slice x83A x83N x83C) w14 ∧
  Calls Try.prog 15 #[(.slice x83A x83N x83C)] w14 (Ret fun v_3 w15 => ∃ (x84A : Option Addr), ∃ (x84N : Nat), ∃ (x84C : Nat), v_3 = (.slice x84A x84N x84C) ∧
  ((((x84N : Nat) : Int) == (IntKind.i64.wrap (((listN : Nat) : Int) + 1))) = true →
  (0 ≤ ((listN : Nat) : Int) ∧ ((listN : Nat) : Int) ≤ ((x84C : Nat) : Int)) ∧
  Calls Try.prog 14 #[(.slice (if x84C = 0 then x84A else x84A.map (·.add (0 * 1))) (((listN : Nat) : Int).toNat - 0) (x84C - 0)), (.slice x21A x21N x21C)] w15 (Ret fun v_4 w16 => ∃ (x97 : Bool), v_4 = (.bool x97) ∧
  R (.bool x97) w16)) ∧
  ((((x84N : Nat) : Int) == (IntKind.i64.wrap (((listN : Nat) : Int) + 1))) = false →
  R (.bool false) w15)))))))))))))
theorem coadjutorlaw12_SoftOrder.vc_eq (listA : Option Addr) (listN : Nat) (listC : Nat) (more : Int) (w : World) (R : Value → World → Prop) : fnV Try.prog Try.f5 (.c .nil (.at_ 3 3 (.k .nil) (.c .nil (.at_ 7 5 (.k .nil) (.at_ 7 9 (.k .nil) (.c .nil (.lp [(4, none), (7, some (.int .i64)), (8, none), (40, none), (41, none), (42, none), (43, none), (44, none), (45, none), (46, none), (47, none), (48, none), (49, none), (50, none), (51, none), (52, none), (53, none), (54, none), (55, none), (56, none), (57, none), (58, none), (59, none), (60, none), (61, none), (62, none), (63, none), (64, none), (65, none), (66, none), (67, none), (68, none), (69, none), (70, none), (71, none)] (.c (.lp [(4, none), (8, some (.int .i64)), (46, none), (47, none), (48, none), (49, none), (50, none), (51, none), (52, none), (53, none), (54, none), (55, none), (56, none), (57, none), (58, none), (59, none), (60, none), (61, none), (62, none), (63, none), (64, none), (65, none), (66, none), (67, none), (68, none), (69, none), (70, none), (71, none)] (.c (.tk 0 (.tk 1 (.tk 2 (.tk 3 (.tk 4 (.tk 5 (.tk 6 (.tk 7 (.tk 8 (.tks 9 (.tk 10 (.tk 11 (.tk 12 (.tk 13 (.tk 14 (.tk 15 (.tk 16 (.tk 17 (.tk 18 (.tk 19 (.fin (.c .nil .nil)))))))))))) (.tk 10 (.tk 11 (.tk 12 (.tk 13 (.tk 14 (.tk 15 (.tk 16 (.tk 17 (.tk 18 (.tk 19 (.fin (.k .nil)))))))))))))))))))))) .nil)) (.c .nil (.at_ 20 6 .nil .nil)))))))))) [(.slice listA listN listC), (.int .i64 more)] w R = coadjutorlaw12_SoftOrder.vc listA listN listC more w R := by kernel_rfl
theorem coadjutorlaw12_SoftOrder.calls (listA : Option Addr) (listN : Nat) (listC : Nat) (more : Int) {w : World} {R : Value → World → Prop} (h : coadjutorlaw12_SoftOrder.vc listA listN listC more w R) : Calls Try.prog 5 #[(.slice listA listN listC), (.int .i64 more)] w (Ret R) :=
  calls_V fit Try.func5 (.c .nil (.at_ 3 3 (.k .nil) (.c .nil (.at_ 7 5 (.k .nil) (.at_ 7 9 (.k .nil) (.c .nil (.lp [(4, none), (7, some (.int .i64)), (8, none), (40, none), (41, none), (42, none), (43, none), (44, none), (45, none), (46, none), (47, none), (48, none), (49, none), (50, none), (51, none), (52, none), (53, none), (54, none), (55, none), (56, none), (57, none), (58, none), (59, none), (60, none), (61, none), (62, none), (63, none), (64, none), (65, none), (66, none), (67, none), (68, none), (69, none), (70, none), (71, none)] (.c (.lp [(4, none), (8, some (.int .i64)), (46, none), (47, none), (48, none), (49, none), (50, none), (51, none), (52, none), (53, none), (54, none), (55, none), (56, none), (57, none), (58, none), (59, none), (60, none), (61, none), (62, none), (63, none), (64, none), (65, none), (66, none), (67, none), (68, none), (69, none), (70, none), (71, none)] (.c (.tk 0 (.tk 1 (.tk 2 (.tk 3 (.tk 4 (.tk 5 (.tk 6 (.tk 7 (.tk 8 (.tks 9 (.tk 10 (.tk 11 (.tk 12 (.tk 13 (.tk 14 (.tk 15 (.tk 16 (.tk 17 (.tk 18 (.tk 19 (.fin (.c .nil .nil)))))))))))) (.tk 10 (.tk 11 (.tk 12 (.tk 13 (.tk 14 (.tk 15 (.tk 16 (.tk 17 (.tk 18 (.tk 19 (.fin (.k .nil)))))))))))))))))))))) .nil)) (.c .nil (.at_ 20 6 .nil .nil)))))))))) (by rw [show (#[(.slice listA listN listC), (.int .i64 more)] : Array Value).toList = [(.slice listA listN listC), (.int .i64 more)] from rfl, coadjutorlaw12_SoftOrder.vc_eq]; exact h)
/-- function 6 -/
def coadjutorlaw12_SoftWithin.vc (weightsA : Option Addr) (weightsN : Nat) (weightsC : Nat) (rowsA : Option Addr) (rowsN : Nat) (rowsC : Nat) (w : World) (R : Value → World → Prop) : Prop :=
  Calls Try.prog 11 #[] w (Ret fun v w1 => ∃ (x13 : Bool), v = (.bool x13) ∧
  ((!x13) = true →
  R (.bool false) w1) ∧
  ((!x13) = false →
  (decide (((rowsN : Nat) : Int) > (10 : Int)) = true →
  R (.bool true) w1) ∧
  (decide (((rowsN : Nat) : Int) > (10 : Int)) = false →
  ((((rowsN : Nat) : Int) == (0 : Int)) = true →
  R (.bool true) w1) ∧
  ((((rowsN : Nat) : Int) == (0 : Int)) = false →
  ((((weightsN : Nat) : Int) != ((rowsN : Nat) : Int)) = true →
  R (.bool true) w1) ∧
  ((((weightsN : Nat) : Int) != ((rowsN : Nat) : Int)) = false →
  (0 ≤ (0 : Int) ∧ (0 : Int) < ((rowsN : Nat) : Int)) ∧ someV rowsA fun p =>
  ∃ (x33A : Option Addr), ∃ (x33N : Nat), ∃ (x33C : Nat), w1.cell? p = some (.slice x33A x33N x33C) ∧
  (decide (((x33N : Nat) : Int) > (10 : Int)) = true →
  R (.bool true) w1) ∧
  (decide (((x33N : Nat) : Int) > (10 : Int)) = false →
  ∀ w2 : World, w2 = w1.alloc (.cells #[] 3 (0, 0)) →
  ∃ vI : Option Addr → Nat → Nat → Int → Nat → World → Prop, (∃ vk_2 : Nat, vI (some (⟨w1.heap.size, 0, none⟩ : Addr)) 0 0 0 vk_2 w2) ∧
  ∀ (jk : Nat → Value) (doubleA : Option Addr) (doubleN : Nat) (doubleC : Nat) (i : Int), ∀ (vk : Nat) (w3 : World), vI doubleA doubleN doubleC i vk w3 →
  (decide (i < ((rowsN : Nat) : Int)) = true →
  ∃ vS : World → Prop, ∀ w4 : World, w4 = w3.drew → vS w4 ∧
  (0 ≤ i ∧ i < ((rowsN : Nat) : Int)) ∧ someV rowsA fun p_1 =>
  ∃ (x47A : Option Addr), ∃ (x47N : Nat), ∃ (x47C : Nat), (∀ w5, vS w5 → w5.cell? (p_1.add (i.toNat * 1)) = some (.slice x47A x47N x47C)) ∧
  (0 ≤ (0 : Int) ∧ (0 : Int) < ((rowsN : Nat) : Int)) ∧ someV rowsA fun p_2 =>
  ∃ (x51A : Option Addr), ∃ (x51N : Nat), ∃ (x51C : Nat), (∀ w6, vS w6 → w6.cell? p_2 = some (.slice x51A x51N x51C)) ∧
  ((((x47N : Nat) : Int) != ((x51N : Nat) : Int)) = true →
  R (.bool true) w4) ∧
  ((((x47N : Nat) : Int) != ((x51N : Nat) : Int)) = false →
  (0 ≤ i ∧ i < ((weightsN : Nat) : Int)) ∧ someV weightsA fun p_3 =>
  ∃ (x58 : Int), (∀ w7, vS w7 → w7.cell? (p_3.add (i.toNat * 1)) = some (.int .i64 x58)) ∧
  (decide (x58 < (0 : Int)) = true →
  R (.bool true) w4) ∧
  (decide (x58 < (0 : Int)) = false →
  (0 ≤ i ∧ i < ((weightsN : Nat) : Int)) ∧ someV weightsA fun p_4 =>
  ∃ (x65 : Int), (∀ w8, vS w8 → w8.cell? (p_4.add (i.toNat * 1)) = some (.int .i64 x65)) ∧
  (decide (x65 > (32768 : Int)) = true →
  R (.bool true) w4) ∧
  (decide (x65 > (32768 : Int)) = false →
  (0 ≤ i ∧ i < ((weightsN : Nat) : Int)) ∧ someV weightsA fun p_5 =>
  ∃ (x72 : Int), w4.cell? (p_5.add (i.toNat * 1)) = some (.int .i64 x72) ∧
  ∀ w9 : World, w9 = w4.alloc (.cells #[(.int .i64 (IntKind.i64.wrap (2 * x72)))] 3 (0, 0)) →
  ∃ (x75A : Option Addr), ∃ (x75N : Nat), ∃ (x75C : Nat), ∃ w10 : World, (Builtin.append_ #[22, 22] 22 #[(.slice doubleA doubleN doubleC), (.slice (some (⟨w4.heap.size, 0, none⟩ : Addr)) 1 1)]).run Try.prog w9 = .ok (.slice x75A x75N x75C) w10 ∧
  ∃ vI_1 : Int → Nat → World → Prop, (∃ vk_5 : Nat, vI_1 0 vk_5 w10) ∧
  ∀ (jk : Nat → Value) (vk_6 : Int), ∀ (vk_3 : Nat) (w11 : World), vI_1 vk_6 vk_3 w11 →
  (0 ≤ i ∧ i < ((rowsN : Nat) : Int)) ∧ someV rowsA fun p_6 =>
  ∃ (x80A : Option Addr), ∃ (x80N : Nat), ∃ (x80C : Nat), w11.cell? (p_6.add (i.toNat * 1)) = some (.slice x80A x80N x80C) ∧
  (decide (vk_6 < ((x80N : Nat) : Int)) = true →
  (0 ≤ i ∧ i < ((rowsN : Nat) : Int)) ∧ someV rowsA fun p_7 =>
  ∃ (x88A : Option Addr), ∃ (x88N : Nat), ∃ (x88C : Nat), w11.cell? (p_7.add (i.toNat * 1)) = some (.slice x88A x88N x88C) ∧
  (0 ≤ vk_6 ∧ vk_6 < ((x88N : Nat) : Int)) ∧ someV x88A fun p_8 =>
  ∃ (x91 : Int), w11.cell? (p_8.add (vk_6.toNat * 1)) = some (.int .i64 x91) ∧
  (decide (x91 > (32767 : Int)) = true →
  R (.bool true) w11) ∧
  (decide (x91 > (32767 : Int)) = false →
  (0 ≤ i ∧ i < ((rowsN : Nat) : Int)) ∧ someV rowsA fun p_9 =>
  ∃ (x97A : Option Addr), ∃ (x97N : Nat), ∃ (x97C : Nat), w11.cell? (p_9.add (i.toNat * 1)) = some (.slice x97A x97N x97C) ∧
  (0 ≤ vk_6 ∧ vk_6 < ((x97N : Nat) : Int)) ∧ someV x97A fun p_10 =>
  ∃ (x100 : Int), w11.cell? (p_10.add (vk_6.toNat * 1)) = some (.int .i64 x100) ∧
  (decide (x100 < (-32767 : Int)) = true →
  R (.bool true) w11) ∧
  (decide (x100 < (-32767 : Int)) = false →
  ∃ vk_4 : Nat, vk_4 < vk_3 ∧ vI_1 (IntKind.i64.wrap (vk_6 + 1)) vk_4 w11))) ∧
  (decide (vk_6 < ((x80N : Nat) : Int)) = false →
  ∃ vk_1 : Nat, vk_1 < vk ∧ vI x75A x75N x75C (IntKind.i64.wrap (i + 1)) vk_1 w11))))) ∧
  (decide (i < ((rowsN : Nat) : Int)) = false →
  Calls Try.prog 21 #[(.slice weightsA weightsN weightsC), (.slice rowsA rowsN rowsC)] w3 (Ret fun v_1 w12 => ∃ (x105A : Option Addr), ∃ (x105N : Nat), ∃ (x105C : Nat), v_1 = (.slice x105A x105N x105C) ∧
  ∃ J : World → Prop, (∃ vS_1 : World → Prop, ∀ w13 : World, w13 = w12.drew → vS_1 w13 ∧
  Calls Try.prog 21 #[(.slice doubleA doubleN doubleC), (.slice rowsA rowsN rowsC)] w13 (Ret fun v_2 w14 => ∃ (x109A : Option Addr), ∃ (x109N : Nat), ∃ (x109C : Nat), v_2 = (.slice x109A x109N x109C) ∧
  vS_1 w14 ∧
  Calls Try.prog 14 #[(.slice x105A x105N x105C), (.slice x109A x109N x109C)] w14 (Ret fun v_3 w15 => ∃ (x110 : Bool), v_3 = (.bool x110) ∧
  vS_1 w15 ∧
  ((!x110) = true →
  R (.bool false) w15) ∧
  ((!x110) = false →
  (0 ≤ (0 : Int) ∧ (0 : Int) < ((rowsN : Nat) : Int)) ∧ someV rowsA fun p_11 =>
  ∃ (x116A : Option Addr), ∃ (x116N : Nat), ∃ (x116C : Nat), (∀ w16, vS_1 w16 → w16.cell? p_11 = some (.slice x116A x116N x116C)) ∧
  (0 ≤ (0 : Int) ∧ (0 : Int) < ((rowsN : Nat) : Int)) ∧ someV rowsA fun p_12 =>
  ∃ (x121A : Option Addr), ∃ (x121N : Nat), ∃ (x121C : Nat), (∀ w17, vS_1 w17 → w17.cell? p_12 = some (.slice x121A x121N x121C)) ∧
  (∀ w18 : World, w18 = w15.alloc (.cells #[(.int .i64 5)] 3 (0, 0)) →
  vS_1 w18 ∧
  ∀ w19 : World, w19 = w18.alloc (.cells #[(.slice x116A x116N x116C)] 22 (0, 0)) →
  vS_1 w19 ∧
  Calls Try.prog 21 #[(.slice (some (⟨w15.heap.size, 0, none⟩ : Addr)) 1 1), (.slice (some (⟨w18.heap.size, 0, none⟩ : Addr)) 1 1)] w19 (Ret fun v_4 w20 => ∃ (x118A : Option Addr), ∃ (x118N : Nat), ∃ (x118C : Nat), v_4 = (.slice x118A x118N x118C) ∧
  vS_1 w20 ∧
  Calls Try.prog 14 #[(.slice x118A x118N x118C), (.slice x121A x121N x121C)] w20 (Ret fun v_5 w21 => ∃ (x122 : Bool), v_5 = (.bool x122) ∧
  vS_1 w21 ∧
  ((!x122) = true →
  R (.bool false) w21) ∧
  ((!x122) = false →
  J w21)))) ∧ (∀ w22 : World, w22 = w15.alloc (.cells #[(.slice x116A x116N x116C)] 22 (0, 0)) →
  vS_1 w22 ∧
  ∀ w23 : World, w23 = w22.alloc (.cells #[(.int .i64 5)] 3 (0, 0)) →
  vS_1 w23 ∧
  Calls Try.prog 21 #[(.slice (some (⟨w22.heap.size, 0, none⟩ : Addr)) 1 1), (.slice (some (⟨w15.heap.size, 0, none⟩ : Addr)) 1 1)] w23 (Ret fun v_6 w24 => ∃ (x118A_1 : Option Addr), ∃ (x118N_1 : Nat), ∃ (x118C_1 : Nat), v_6 = (.slice x118A_1 x118N_1 x118C_1) ∧
  vS_1 w24 ∧
  Calls Try.prog 14 #[(.slice x118A_1 x118N_1 x118C_1), (.slice x121A x121N x121C)] w24 (Ret fun v_7 w25 => ∃ (x122_1 : Bool), v_7 = (.bool x122_1) ∧
  vS_1 w25 ∧
  ((!x122_1) = true →
  R (.bool false) w25) ∧
  ((!x122_1) = false →
  J w25)))) ∧ True)))) ∧
  ∀ (jk : Nat → Value), ∀ w26 : World, J w26 →
  ∃ vI_2 : Int → Nat → World → Prop, (∃ vk_9 : Nat, vI_2 0 vk_9 w26) ∧
  ∀ (jk : Nat → Value) (vk_10 : Int), ∀ (vk_7 : Nat) (w27 : World), vI_2 vk_10 vk_7 w27 →
  (decide (vk_10 < ((x105N : Nat) : Int)) = true →
  (0 ≤ (0 : Int) ∧ (0 : Int) < ((rowsN : Nat) : Int)) ∧ someV rowsA fun p_13 =>
  ∃ (x133A : Option Addr), ∃ (x133N : Nat), ∃ (x133C : Nat), w27.cell? p_13 = some (.slice x133A x133N x133C) ∧
  (0 ≤ vk_10 ∧ vk_10 < ((x133N : Nat) : Int)) ∧ someV x133A fun p_14 =>
  ∃ (x136 : Int), w27.cell? (p_14.add (vk_10.toNat * 1)) = some (.int .i64 x136) ∧
  (0 ≤ (0 : Int) ∧ (0 : Int) < ((rowsN : Nat) : Int)) ∧ someV rowsA fun p_15 =>
  ∃ (x139A : Option Addr), ∃ (x139N : Nat), ∃ (x139C : Nat), w27.cell? p_15 = some (.slice x139A x139N x139C) ∧
  (0 ≤ vk_10 ∧ vk_10 < ((x139N : Nat) : Int)) ∧ someV x139A fun p_16 =>
  ∃ (x142 : Int), w27.cell? (p_16.add (vk_10.toNat * 1)) = some (.int .i64 x142) ∧
  ∃ vI_3 : Int → Int → Int → Nat → World → Prop, (∃ vk_13 : Nat, vI_3 x136 x142 0 vk_13 w27) ∧
  ∀ (jk : Nat → Value) (low : Int) (high : Int) (i_1 : Int), ∀ (vk_11 : Nat) (w28 : World), vI_3 low high i_1 vk_11 w28 →
  (decide (i_1 < ((rowsN : Nat) : Int)) = true →
  (0 ≤ i_1 ∧ i_1 < ((rowsN : Nat) : Int)) ∧ someV rowsA fun p_17 =>
  ∃ (x153A : Option Addr), ∃ (x153N : Nat), ∃ (x153C : Nat), w28.cell? (p_17.add (i_1.toNat * 1)) = some (.slice x153A x153N x153C) ∧
  (0 ≤ vk_10 ∧ vk_10 < ((x153N : Nat) : Int)) ∧ someV x153A fun p_18 =>
  ∃ (x156 : Int), w28.cell? (p_18.add (vk_10.toNat * 1)) = some (.int .i64 x156) ∧
  (0 ≤ i_1 ∧ i_1 < ((rowsN : Nat) : Int)) ∧ someV rowsA fun p_19 =>
  ∃ (x162A : Option Addr), ∃ (x162N : Nat), ∃ (x162C : Nat), w28.cell? (p_19.add (i_1.toNat * 1)) = some (.slice x162A x162N x162C) ∧
  (0 ≤ vk_10 ∧ vk_10 < ((x162N : Nat) : Int)) ∧ someV x162A fun p_20 =>
  ∃ (x165 : Int), w28.cell? (p_20.add (vk_10.toNat * 1)) = some (.int .i64 x165) ∧
  ∃ vk_12 : Nat, vk_12 < vk_11 ∧ vI_3 (if x156 < low then x156 else low) (if x165 > high then x165 else high) (IntKind.i64.wrap (i_1 + 1)) vk_12 w28) ∧
  (decide (i_1 < ((rowsN : Nat) : Int)) = false →
  (0 ≤ vk_10 ∧ vk_10 < ((x105N : Nat) : Int)) ∧ someV x105A fun p_21 =>
  ∃ (x170 : Int), w28.cell? (p_21.add (vk_10.toNat * 1)) = some (.int .i64 x170) ∧
  (decide (x170 < low) = true →
  R (.bool false) w28) ∧
  (decide (x170 < low) = false →
  (0 ≤ vk_10 ∧ vk_10 < ((x105N : Nat) : Int)) ∧ someV x105A fun p_22 =>
  ∃ (x177 : Int), w28.cell? (p_22.add (vk_10.toNat * 1)) = some (.int .i64 x177) ∧
  (decide (x177 > high) = true →
  R (.bool false) w28) ∧
  (decide (x177 > high) = false →
  ∃ vk_8 : Nat, vk_8 < vk_7 ∧ vI_2 (IntKind.i64.wrap (vk_10 + 1)) vk_8 w28)))) ∧
  (decide (vk_10 < ((x105N : Nat) : Int)) = false →
  R (.bool true) w27)))))))))
theorem coadjutorlaw12_SoftWithin.vc_eq (weightsA : Option Addr) (weightsN : Nat) (weightsC : Nat) (rowsA : Option Addr) (rowsN : Nat) (rowsC : Nat) (w : World) (R : Value → World → Prop) : fnV Try.prog Try.f6 (.c .nil (.at_ 3 3 (.k .nil) (.at_ 3 8 (.k .nil) (.at_ 3 15 (.k .nil) (.c .nil (.lp [(4, none), (5, some (.slice)), (6, some (.int .i64)), (7, none), (38, none), (39, none), (40, none), (41, none), (42, none), (43, none), (44, none), (45, none), (46, none), (47, none), (48, none), (49, none), (50, none), (51, none), (52, none), (53, none), (54, none), (55, none), (56, none), (57, none), (58, none), (59, none), (60, none), (61, none), (62, none), (63, none), (64, none), (65, none), (66, none), (67, none), (68, none), (69, none), (70, none), (71, none), (72, none), (73, none), (74, none), (75, none), (76, none), (77, none), (78, none), (79, none), (80, none), (81, none), (82, none), (83, none), (84, none), (85, none), (86, none), (87, none), (88, none), (89, none), (90, none), (91, none), (92, none), (93, none), (94, none), (95, none), (96, none), (97, none), (98, none), (99, none), (100, none), (101, none), (102, none)] (.c (.tk 0 (.tk 1 (.tk 2 (.tk 3 (.tk 4 (.tk 5 (.tk 6 (.tk 7 (.tk 8 (.tk 9 (.tks 10 (.tk 11 (.tk 12 (.tk 13 (.tk 14 (.tk 15 (.tk 16 (.tk 17 (.tk 18 (.tk 19 (.tk 20 (.tk 21 (.tk 22 (.tk 23 (.fin (.k .nil))))))))))))))) (.tk 11 (.tk 12 (.tk 13 (.tk 14 (.tk 15 (.tk 16 (.tks 17 (.tk 18 (.tk 19 (.tk 20 (.tk 21 (.tk 22 (.tk 23 (.fin (.k .nil)))))))) (.tk 18 (.tk 19 (.tk 20 (.tk 21 (.tk 22 (.tk 23 (.fin (.c .nil (.lp [(4, none), (7, some (.int .i64)), (76, none), (77, none), (78, none), (79, none), (80, none), (81, none), (82, none), (83, none), (84, none), (85, none), (86, none), (87, none), (88, none), (89, none), (90, none), (91, none), (92, none), (93, none), (94, none), (95, none), (96, none), (97, none), (98, none), (99, none), (100, none), (101, none), (102, none)] (.c (.at_ 15 8 (.k .nil) (.c .nil .nil)) .nil)))))))))))))))))))))))))))) (.cut 1 [(4, none), (106, none), (107, none), (108, none), (109, none), (110, none), (111, none), (112, none), (113, none), (114, none), (115, none), (116, none), (117, none), (118, none), (119, none), (120, none), (121, none), (122, none), (123, none), (124, none)] (.tk 0 (.tk 1 (.tk 2 (.alt 3 (.alt 4 (.tk 5 (.tks 6 (.tk 7 (.tk 8 (.tk 9 (.tk 10 (.tk 11 (.tk 12 (.tk 13 (.tk 14 (.tk 15 (.tk 16 (.tk 17 (.tk 18 (.fin (.k .nil)))))))))))))) (.tk 8 (.tk 9 (.tk 10 (.tk 13 (.tk 14 (.tk 15 (.alt 7 (.alt 11 (.alt 12 (.alt 16 (.tk 17 (.tk 18 (.fin (.c .nil .nil)))) .nil) .nil) .nil) (.alt 11 (.alt 7 (.alt 12 (.alt 16 (.tk 17 (.tk 18 (.fin (.c .nil .nil)))) .nil) .nil) .nil) .nil)))))))))) .nil) .nil)))) (.lp [(4, none), (9, some (.int .i64)), (10, none), (11, none), (12, none), (125, none), (126, none), (127, none), (128, none), (129, none), (130, none), (131, none), (132, none), (133, none), (134, none), (135, none), (136, none), (137, none), (138, none), (139, none), (140, none), (141, none), (142, none), (143, none), (144, none), (145, none), (146, none), (147, none), (148, none), (149, none), (150, none), (151, none), (152, none), (153, none), (154, none), (155, none), (156, none), (157, none), (158, none), (159, none), (160, none), (161, none), (162, none), (163, none), (164, none), (165, none), (166, none), (167, none), (168, none), (169, none), (170, none), (171, none), (172, none), (173, none), (174, none), (175, none), (176, none), (177, none), (178, none), (179, none), (180, none)] (.c (.lp [(10, some (.int .i64)), (11, some (.int .i64)), (12, some (.int .i64)), (143, none), (144, none), (145, none), (146, none), (147, none), (148, none), (149, none), (150, none), (151, none), (152, none), (153, none), (154, none), (155, none), (156, none), (157, none), (158, none), (159, none), (160, none), (161, none), (162, none), (163, none), (164, none), (165, none), (166, none)] (.c .nil (.at_ 30 6 (.k .nil) (.c .nil .nil)))) .nil)))))))))) [(.slice weightsA weightsN weightsC), (.slice rowsA rowsN rowsC)] w R = coadjutorlaw12_SoftWithin.vc weightsA weightsN weightsC rowsA rowsN rowsC w R := by kernel_rfl
theorem coadjutorlaw12_SoftWithin.calls (weightsA : Option Addr) (weightsN : Nat) (weightsC : Nat) (rowsA : Option Addr) (rowsN : Nat) (rowsC : Nat) {w : World} {R : Value → World → Prop} (h : coadjutorlaw12_SoftWithin.vc weightsA weightsN weightsC rowsA rowsN rowsC w R) : Calls Try.prog 6 #[(.slice weightsA weightsN weightsC), (.slice rowsA rowsN rowsC)] w (Ret R) :=
  calls_V fit Try.func6 (.c .nil (.at_ 3 3 (.k .nil) (.at_ 3 8 (.k .nil) (.at_ 3 15 (.k .nil) (.c .nil (.lp [(4, none), (5, some (.slice)), (6, some (.int .i64)), (7, none), (38, none), (39, none), (40, none), (41, none), (42, none), (43, none), (44, none), (45, none), (46, none), (47, none), (48, none), (49, none), (50, none), (51, none), (52, none), (53, none), (54, none), (55, none), (56, none), (57, none), (58, none), (59, none), (60, none), (61, none), (62, none), (63, none), (64, none), (65, none), (66, none), (67, none), (68, none), (69, none), (70, none), (71, none), (72, none), (73, none), (74, none), (75, none), (76, none), (77, none), (78, none), (79, none), (80, none), (81, none), (82, none), (83, none), (84, none), (85, none), (86, none), (87, none), (88, none), (89, none), (90, none), (91, none), (92, none), (93, none), (94, none), (95, none), (96, none), (97, none), (98, none), (99, none), (100, none), (101, none), (102, none)] (.c (.tk 0 (.tk 1 (.tk 2 (.tk 3 (.tk 4 (.tk 5 (.tk 6 (.tk 7 (.tk 8 (.tk 9 (.tks 10 (.tk 11 (.tk 12 (.tk 13 (.tk 14 (.tk 15 (.tk 16 (.tk 17 (.tk 18 (.tk 19 (.tk 20 (.tk 21 (.tk 22 (.tk 23 (.fin (.k .nil))))))))))))))) (.tk 11 (.tk 12 (.tk 13 (.tk 14 (.tk 15 (.tk 16 (.tks 17 (.tk 18 (.tk 19 (.tk 20 (.tk 21 (.tk 22 (.tk 23 (.fin (.k .nil)))))))) (.tk 18 (.tk 19 (.tk 20 (.tk 21 (.tk 22 (.tk 23 (.fin (.c .nil (.lp [(4, none), (7, some (.int .i64)), (76, none), (77, none), (78, none), (79, none), (80, none), (81, none), (82, none), (83, none), (84, none), (85, none), (86, none), (87, none), (88, none), (89, none), (90, none), (91, none), (92, none), (93, none), (94, none), (95, none), (96, none), (97, none), (98, none), (99, none), (100, none), (101, none), (102, none)] (.c (.at_ 15 8 (.k .nil) (.c .nil .nil)) .nil)))))))))))))))))))))))))))) (.cut 1 [(4, none), (106, none), (107, none), (108, none), (109, none), (110, none), (111, none), (112, none), (113, none), (114, none), (115, none), (116, none), (117, none), (118, none), (119, none), (120, none), (121, none), (122, none), (123, none), (124, none)] (.tk 0 (.tk 1 (.tk 2 (.alt 3 (.alt 4 (.tk 5 (.tks 6 (.tk 7 (.tk 8 (.tk 9 (.tk 10 (.tk 11 (.tk 12 (.tk 13 (.tk 14 (.tk 15 (.tk 16 (.tk 17 (.tk 18 (.fin (.k .nil)))))))))))))) (.tk 8 (.tk 9 (.tk 10 (.tk 13 (.tk 14 (.tk 15 (.alt 7 (.alt 11 (.alt 12 (.alt 16 (.tk 17 (.tk 18 (.fin (.c .nil .nil)))) .nil) .nil) .nil) (.alt 11 (.alt 7 (.alt 12 (.alt 16 (.tk 17 (.tk 18 (.fin (.c .nil .nil)))) .nil) .nil) .nil) .nil)))))))))) .nil) .nil)))) (.lp [(4, none), (9, some (.int .i64)), (10, none), (11, none), (12, none), (125, none), (126, none), (127, none), (128, none), (129, none), (130, none), (131, none), (132, none), (133, none), (134, none), (135, none), (136, none), (137, none), (138, none), (139, none), (140, none), (141, none), (142, none), (143, none), (144, none), (145, none), (146, none), (147, none), (148, none), (149, none), (150, none), (151, none), (152, none), (153, none), (154, none), (155, none), (156, none), (157, none), (158, none), (159, none), (160, none), (161, none), (162, none), (163, none), (164, none), (165, none), (166, none), (167, none), (168, none), (169, none), (170, none), (171, none), (172, none), (173, none), (174, none), (175, none), (176, none), (177, none), (178, none), (179, none), (180, none)] (.c (.lp [(10, some (.int .i64)), (11, some (.int .i64)), (12, some (.int .i64)), (143, none), (144, none), (145, none), (146, none), (147, none), (148, none), (149, none), (150, none), (151, none), (152, none), (153, none), (154, none), (155, none), (156, none), (157, none), (158, none), (159, none), (160, none), (161, none), (162, none), (163, none), (164, none), (165, none), (166, none)] (.c .nil (.at_ 30 6 (.k .nil) (.c .nil .nil)))) .nil)))))))))) (by rw [show (#[(.slice weightsA weightsN weightsC), (.slice rowsA rowsN rowsC)] : Array Value).toList = [(.slice weightsA weightsN weightsC), (.slice rowsA rowsN rowsC)] from rfl, coadjutorlaw12_SoftWithin.vc_eq]; exact h)
/-- function 7 -/
def coadjutorlaw12_SoftChosen.vc (weightsA : Option Addr) (weightsN : Nat) (weightsC : Nat) (draw : Int) (w : World) (R : Value → World → Prop) : Prop :=
  Calls Try.prog 11 #[] w (Ret fun v w1 => ∃ (x11 : Bool), v = (.bool x11) ∧
  ((!x11) = true →
  R (.bool false) w1) ∧
  ((!x11) = false →
  (decide (((weightsN : Nat) : Int) > (10 : Int)) = true →
  R (.bool true) w1) ∧
  (decide (((weightsN : Nat) : Int) > (10 : Int)) = false →
  ∃ vI : Int → Int → Nat → World → Prop, (∃ vk_2 : Nat, vI 0 0 vk_2 w1) ∧
  ∀ (jk : Nat → Value) (sum : Int) (i : Int), ∀ (vk : Nat) (w2 : World), vI sum i vk w2 →
  (decide (i < ((weightsN : Nat) : Int)) = true →
  (0 ≤ i ∧ i < ((weightsN : Nat) : Int)) ∧ someV weightsA fun p =>
  ∃ (x25 : Int), w2.cell? (p.add (i.toNat * 1)) = some (.int .i64 x25) ∧
  (decide (x25 < (0 : Int)) = true →
  R (.bool true) w2) ∧
  (decide (x25 < (0 : Int)) = false →
  (0 ≤ i ∧ i < ((weightsN : Nat) : Int)) ∧ someV weightsA fun p_1 =>
  ∃ (x31 : Int), w2.cell? (p_1.add (i.toNat * 1)) = some (.int .i64 x31) ∧
  (decide (x31 > (9 : Int)) = true →
  R (.bool true) w2) ∧
  (decide (x31 > (9 : Int)) = false →
  (0 ≤ i ∧ i < ((weightsN : Nat) : Int)) ∧ someV weightsA fun p_2 =>
  ∃ (x38 : Int), w2.cell? (p_2.add (i.toNat * 1)) = some (.int .i64 x38) ∧
  ∃ vk_1 : Nat, vk_1 < vk ∧ vI (IntKind.i64.wrap (sum + x38)) (IntKind.i64.wrap (i + 1)) vk_1 w2))) ∧
  (decide (i < ((weightsN : Nat) : Int)) = false →
  ((sum == (0 : Int)) = true →
  Calls Try.prog 17 #[(.int .i64 draw), (.slice weightsA weightsN weightsC)] w2 (Ret fun v_1 w3 => ∃ (x44 : Int), v_1 = (.int .i64 x44) ∧
  R (.bool (x44 == (-1 : Int))) w3)) ∧
  ((sum == (0 : Int)) = false →
  (((weightsN : Nat) : Int) = ((weightsN : Nat) : Int) ∧ 0 ≤ ((weightsN : Nat) : Int) ∧ ((weightsN : Nat) : Int) * (8 : Int) ≤ 140737488355328) ∧ ∀ w4 : World, w4 = w2.alloc (.cells (zeroRow [(.int .i64 0)] ((weightsN : Nat) : Int).toNat).toArray 3 (0, 0)) →
  ∃ vI_1 : Int → Nat → World → Prop, (∃ vk_5 : Nat, vI_1 0 vk_5 w4) ∧
  ∀ (jk : Nat → Value) (d : Int), ∀ (vk_3 : Nat) (w5 : World), vI_1 d vk_3 w5 →
  (decide (d < sum) = true →
  Calls Try.prog 17 #[(.int .i64 d), (.slice weightsA weightsN weightsC)] w5 (Ret fun v_2 w6 => ∃ (x56 : Int), v_2 = (.int .i64 x56) ∧
  (decide (x56 < (0 : Int)) = true →
  R (.bool false) w6) ∧
  (decide (x56 < (0 : Int)) = false →
  (decide (x56 ≥ ((weightsN : Nat) : Int)) = true →
  R (.bool false) w6) ∧
  (decide (x56 ≥ ((weightsN : Nat) : Int)) = false →
  (0 ≤ x56 ∧ x56 < ((((weightsN : Nat) : Int).toNat : Nat) : Int)) ∧
  ∃ (x68 : Int), w6.cell? ((⟨w2.heap.size, 0, none⟩ : Addr).add (x56.toNat * 1)) = some (.int .i64 x68) ∧
  (0 ≤ x56 ∧ x56 < ((((weightsN : Nat) : Int).toNat : Nat) : Int)) ∧
  (((∃ u, w6.cell? ((⟨w2.heap.size, 0, none⟩ : Addr).add (x56.toNat * 1)) = some u) ∧ w6.frozen? ((⟨w2.heap.size, 0, none⟩ : Addr).add (x56.toNat * 1)) = false)) ∧ ∀ w7 : World, w7 = (w6.setCell ((⟨w2.heap.size, 0, none⟩ : Addr).add (x56.toNat * 1)) (.int .i64 (IntKind.i64.wrap (x68 + 1)))) →
  ∃ vk_4 : Nat, vk_4 < vk_3 ∧ vI_1 (IntKind.i64.wrap (d + 1)) vk_4 w7)))) ∧
  (decide (d < sum) = false →
  Calls Try.prog 17 #[(.int .i64 draw), (.slice weightsA weightsN weightsC)] w5 (Ret fun v_3 w8 => ∃ (x73 : Int), v_3 = (.int .i64 x73) ∧
  Calls Try.prog 14 #[(.slice (some (⟨w2.heap.size, 0, none⟩ : Addr)) (((weightsN : Nat) : Int).toNat) (((weightsN : Nat) : Int).toNat)), (.slice weightsA weightsN weightsC)] w8 (Ret fun v_4 w9 => ∃ (x76 : Bool), v_4 = (.bool x76) ∧
  (x76 = true →
  (decide (x73 ≥ (0 : Int)) = true →
  (decide (x73 < ((weightsN : Nat) : Int)) = true →
  (0 ≤ x73 ∧ x73 < ((weightsN : Nat) : Int)) ∧ someV weightsA fun p_3 =>
  ∃ (x91 : Int), w9.cell? (p_3.add (x73.toNat * 1)) = some (.int .i64 x91) ∧
  R (.bool (decide (x91 > (0 : Int)))) w9) ∧
  (decide (x73 < ((weightsN : Nat) : Int)) = false →
  R (.bool false) w9)) ∧
  (decide (x73 ≥ (0 : Int)) = false →
  R (.bool false) w9)) ∧
  (x76 = false →
  R (.bool false) w9)))))))))
theorem coadjutorlaw12_SoftChosen.vc_eq (weightsA : Option Addr) (weightsN : Nat) (weightsC : Nat) (draw : Int) (w : World) (R : Value → World → Prop) : fnV Try.prog Try.f7 (.c .nil (.c .nil (.lp [(4, none), (5, some (.int .i64)), (6, some (.int .i64)), (16, none), (17, none), (18, none), (19, none), (20, none), (21, none), (22, none), (23, none), (24, none), (25, none), (26, none), (27, none), (28, none), (29, none), (30, none), (31, none), (32, none), (33, none), (34, none), (35, none), (36, none), (37, none), (38, none), (39, none)] (.c (.at_ 9 5 (.k .nil) (.c .nil .nil)) (.c .nil (.lp [(4, none), (8, some (.int .i64)), (9, none), (49, none), (50, none), (51, none), (52, none), (53, none), (54, none), (55, none), (56, none), (57, none), (58, none), (59, none), (60, none), (61, none), (62, none), (63, none), (64, none), (65, none), (66, none), (67, none), (68, none), (69, none), (70, none)] (.c (.at_ 19 2 (.k .nil) (.c .nil .nil)) (.at_ 23 3 (.at_ 23 7 (.at_ 23 13 .nil .nil) .nil) .nil)))))))) [(.slice weightsA weightsN weightsC), (.int .i64 draw)] w R = coadjutorlaw12_SoftChosen.vc weightsA weightsN weightsC draw w R := by kernel_rfl
theorem coadjutorlaw12_SoftChosen.calls (weightsA : Option Addr) (weightsN : Nat) (weightsC : Nat) (draw : Int) {w : World} {R : Value → World → Prop} (h : coadjutorlaw12_SoftChosen.vc weightsA weightsN weightsC draw w R) : Calls Try.prog 7 #[(.slice weightsA weightsN weightsC), (.int .i64 draw)] w (Ret R) :=
  calls_V fit Try.func7 (.c .nil (.c .nil (.lp [(4, none), (5, some (.int .i64)), (6, some (.int .i64)), (16, none), (17, none), (18, none), (19, none), (20, none), (21, none), (22, none), (23, none), (24, none), (25, none), (26, none), (27, none), (28, none), (29, none), (30, none), (31, none), (32, none), (33, none), (34, none), (35, none), (36, none), (37, none), (38, none), (39, none)] (.c (.at_ 9 5 (.k .nil) (.c .nil .nil)) (.c .nil (.lp [(4, none), (8, some (.int .i64)), (9, none), (49, none), (50, none), (51, none), (52, none), (53, none), (54, none), (55, none), (56, none), (57, none), (58, none), (59, none), (60, none), (61, none), (62, none), (63, none), (64, none), (65, none), (66, none), (67, none), (68, none), (69, none), (70, none)] (.c (.at_ 19 2 (.k .nil) (.c .nil .nil)) (.at_ 23 3 (.at_ 23 7 (.at_ 23 13 .nil .nil) .nil) .nil)))))))) (by rw [show (#[(.slice weightsA weightsN weightsC), (.int .i64 draw)] : Array Value).toList = [(.slice weightsA weightsN weightsC), (.int .i64 draw)] from rfl, coadjutorlaw12_SoftChosen.vc_eq]; exact h)
end Go.Proofs.Ytfecfdhigkehgaa.Vc
