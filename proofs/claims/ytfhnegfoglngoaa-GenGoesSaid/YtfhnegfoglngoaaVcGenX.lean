import Derived.Test.YtfhnegfoglngoaaVc
import Derived.Test.YtfhnegfoglngoaaH
import Derived.Test.YtfhnegfoglngoaaProg
import Derived.KernelRfl
set_option linter.unusedVariables false
set_option maxRecDepth 100000
namespace Go.Proofs.Ytfhnegfoglngoaa.Vc
open Go Go.Proofs Go.Proofs.Ytfhnegfoglngoaa.V
/-- function 5 -/
def coadjutorlaw18_GenNext.vc (draw : Int) (scoresA : Option Addr) (scoresN : Nat) (scoresC : Nat) (w : World) (R : Value → World → Prop) : Prop :=
  Calls Try.prog 16 #[] w (Ret fun v w1 => ∃ (x5 : Bool), v = (.bool x5) ∧
  ((!x5) = true →
  R (.bool false) w1) ∧
  ((!x5) = false →
  (decide (((scoresN : Nat) : Int) > (40 : Int)) = true →
  R (.bool true) w1) ∧
  (decide (((scoresN : Nat) : Int) > (40 : Int)) = false →
  Calls Try.prog 17 #[(.int .i64 draw), (.slice scoresA scoresN scoresC)] w1 (Ret fun v_1 w2 => ∃ (x12 : Int), v_1 = (.int .i64 x12) ∧
  Calls Try.prog 18 #[(.int .i64 draw), (.slice scoresA scoresN scoresC)] w2 (Ret fun v_2 w3 => ∃ (x15 : Int), v_2 = (.int .i64 x15) ∧
  R (.bool (x12 == x15)) w3)))))
theorem coadjutorlaw18_GenNext.vc_eq (draw : Int) (scoresA : Option Addr) (scoresN : Nat) (scoresC : Nat) (w : World) (R : Value → World → Prop) : fnV Try.prog Try.f5 (.c .nil (.c .nil .nil)) [(.int .i64 draw), (.slice scoresA scoresN scoresC)] w R = coadjutorlaw18_GenNext.vc draw scoresA scoresN scoresC w R := by kernel_rfl
theorem coadjutorlaw18_GenNext.calls (draw : Int) (scoresA : Option Addr) (scoresN : Nat) (scoresC : Nat) {w : World} {R : Value → World → Prop} (h : coadjutorlaw18_GenNext.vc draw scoresA scoresN scoresC w R) : Calls Try.prog 5 #[(.int .i64 draw), (.slice scoresA scoresN scoresC)] w (Ret R) :=
  calls_V fit Try.func5 (.c .nil (.c .nil .nil)) (by rw [show (#[(.int .i64 draw), (.slice scoresA scoresN scoresC)] : Array Value).toList = [(.int .i64 draw), (.slice scoresA scoresN scoresC)] from rfl, coadjutorlaw18_GenNext.vc_eq]; exact h)
/-- function 6 -/
def coadjutorlaw18_GenBegins.vc (c0 : Int) (c1 : Int) (c2 : Int) (c3 : Int) (c4 : Int) (c5 : Int) (weights : ByteArray) (promptA : Option Addr) (promptN : Nat) (promptC : Nat) (most : Int) (drawsA : Option Addr) (drawsN : Nat) (drawsC : Nat) (more : Int) (w : World) (R : Value → World → Prop) : Prop :=
  ∀ w1 : World, w1 = w.alloc (.cells #[(.int .i64 c0), (.int .i64 c1), (.int .i64 c2), (.int .i64 c3), (.int .i64 c4), (.int .i64 c5)] 23 (0, 0)) →
  Calls Try.prog 16 #[] w1 (Ret fun v w2 => ∃ (x25 : Bool), v = (.bool x25) ∧
  ((!x25) = true →
  R (.bool false) w2) ∧
  ((!x25) = false →
  (decide (((promptN : Nat) : Int) > (8 : Int)) = true →
  R (.bool true) w2) ∧
  (decide (((promptN : Nat) : Int) > (8 : Int)) = false →
  (decide (((drawsN : Nat) : Int) > (8 : Int)) = true →
  R (.bool true) w2) ∧
  (decide (((drawsN : Nat) : Int) > (8 : Int)) = false →
  ∃ (x360 : Int), ∃ (x361 : Int), ∃ (x362 : Int), ∃ (x363 : Int), ∃ (x364 : Int), ∃ (x365 : Int), (w2.cell? (⟨w.heap.size, 0, none⟩ : Addr) = some (.int .i64 x360) ∧ w2.cell? (⟨w.heap.size, 1, none⟩ : Addr) = some (.int .i64 x361) ∧ w2.cell? (⟨w.heap.size, 2, none⟩ : Addr) = some (.int .i64 x362) ∧ w2.cell? (⟨w.heap.size, 3, none⟩ : Addr) = some (.int .i64 x363) ∧ w2.cell? (⟨w.heap.size, 4, none⟩ : Addr) = some (.int .i64 x364) ∧ w2.cell? (⟨w.heap.size, 5, none⟩ : Addr) = some (.int .i64 x365)) ∧
  Calls Try.prog 19 #[(.agg #[(.int .i64 x360), (.int .i64 x361), (.int .i64 x362), (.int .i64 x363), (.int .i64 x364), (.int .i64 x365)])] w2 (Ret fun v_1 w3 => ∃ (x37 : Bool), v_1 = (.bool x37) ∧
  ((!x37) = true →
  R (.bool true) w3) ∧
  ((!x37) = false →
  (decide (((weights.size : Nat) : Int) > (2048 : Int)) = true →
  R (.bool true) w3) ∧
  (decide (((weights.size : Nat) : Int) > (2048 : Int)) = false →
  ∃ (x460 : Int), ∃ (x461 : Int), ∃ (x462 : Int), ∃ (x463 : Int), ∃ (x464 : Int), ∃ (x465 : Int), (w3.cell? (⟨w.heap.size, 0, none⟩ : Addr) = some (.int .i64 x460) ∧ w3.cell? (⟨w.heap.size, 1, none⟩ : Addr) = some (.int .i64 x461) ∧ w3.cell? (⟨w.heap.size, 2, none⟩ : Addr) = some (.int .i64 x462) ∧ w3.cell? (⟨w.heap.size, 3, none⟩ : Addr) = some (.int .i64 x463) ∧ w3.cell? (⟨w.heap.size, 4, none⟩ : Addr) = some (.int .i64 x464) ∧ w3.cell? (⟨w.heap.size, 5, none⟩ : Addr) = some (.int .i64 x465)) ∧
  Calls Try.prog 11 #[(.agg #[(.int .i64 x460), (.int .i64 x461), (.int .i64 x462), (.int .i64 x463), (.int .i64 x464), (.int .i64 x465)]), (.string weights)] w3 (Ret fun v_2 w4 => ∃ (x48_0 : Option Addr), ∃ (x48_1 : Int), v_2 = (.tuple #[(.pointer x48_0), (.int .i64 x48_1)]) ∧
  ((x48_1 != (0 : Int)) = true →
  R (.bool true) w4) ∧
  ((x48_1 != (0 : Int)) = false →
  Calls Try.prog 20 #[(.pointer x48_0), (.slice promptA promptN promptC), (.int .i64 most), (.slice drawsA drawsN drawsC)] w4 (Ret fun v_3 w5 => ∃ (x58_0A : Option Addr), ∃ (x58_0N : Nat), ∃ (x58_0C : Nat), ∃ (x58_1 : Int), v_3 = (.tuple #[(.slice x58_0A x58_0N x58_0C), (.int .i64 x58_1)]) ∧
  ((x58_1 != (0 : Int)) = true →
  R (.bool (((x58_0N : Nat) : Int) == (0 : Int))) w5) ∧
  ((x58_1 != (0 : Int)) = false →
  (decide (((x58_0N : Nat) : Int) > most) = true →
  R (.bool false) w5) ∧
  (decide (((x58_0N : Nat) : Int) > most) = false →
  ∃ vI : Int → Nat → World → Prop, (∃ vk_2 : Nat, vI 1 vk_2 w5) ∧
  ∀ (jk : Nat → Value) (n : Int), ∀ (vk : Nat) (w6 : World), vI n vk w6 →
  (decide (n < most) = true →
  Calls Try.prog 20 #[(.pointer x48_0), (.slice promptA promptN promptC), (.int .i64 n), (.slice drawsA drawsN drawsC)] w6 (Ret fun v_4 w7 => ∃ (x80_0A : Option Addr), ∃ (x80_0N : Nat), ∃ (x80_0C : Nat), ∃ (x80_1 : Int), v_4 = (.tuple #[(.slice x80_0A x80_0N x80_0C), (.int .i64 x80_1)]) ∧
  ((x80_1 != (0 : Int)) = true →
  R (.bool false) w7) ∧
  ((x80_1 != (0 : Int)) = false →
  ((((x80_0N : Nat) : Int) != (if ((x58_0N : Nat) : Int) < n then ((x58_0N : Nat) : Int) else n)) = true →
  R (.bool false) w7) ∧
  ((((x80_0N : Nat) : Int) != (if ((x58_0N : Nat) : Int) < n then ((x58_0N : Nat) : Int) else n)) = false →
  (0 ≤ ((x80_0N : Nat) : Int) ∧ ((x80_0N : Nat) : Int) ≤ ((x58_0C : Nat) : Int)) ∧
  Calls Try.prog 21 #[(.slice x80_0A x80_0N x80_0C), (.slice (if x58_0C = 0 then x58_0A else x58_0A.map (·.add (0 * 1))) (((x80_0N : Nat) : Int).toNat - 0) (x58_0C - 0))] w7 (Ret fun v_5 w8 => ∃ (x100 : Bool), v_5 = (.bool x100) ∧
  ((!x100) = true →
  R (.bool false) w8) ∧
  ((!x100) = false →
  ∃ vk_1 : Nat, vk_1 < vk ∧ vI (IntKind.i64.wrap (n + 1)) vk_1 w8)))))) ∧
  (decide (n < most) = false →
  ∃ vI_1 : Int → Nat → World → Prop, (∃ vk_5 : Nat, vI_1 0 vk_5 w6) ∧
  ∀ (jk : Nat → Value) (i : Int), ∀ (vk_3 : Nat) (w9 : World), vI_1 i vk_3 w9 →
  (decide (i < ((x58_0N : Nat) : Int)) = true →
  ∃ vS : World → Prop, ∀ w10 : World, w10 = w9.drew → vS w10 ∧
  (0 ≤ i ∧ i < ((x58_0N : Nat) : Int)) ∧ someV x58_0A fun p =>
  ∃ (x112 : Int), (∀ w11, vS w11 → w11.cell? (p.add (i.toNat * 1)) = some (.int .i64 x112)) ∧
  (decide (x112 ≤ (0 : Int)) = true →
  R (.bool false) w10) ∧
  (decide (x112 ≤ (0 : Int)) = false →
  (0 ≤ i ∧ i < ((x58_0N : Nat) : Int)) ∧ someV x58_0A fun p_1 =>
  ∃ (x118 : Int), (∀ w12, vS w12 → w12.cell? (p_1.add (i.toNat * 1)) = some (.int .i64 x118)) ∧
  ∃ (x120 : Int), (∀ w13, vS w13 → w13.cell? (⟨w.heap.size, 0, none⟩ : Addr) = some (.int .i64 x120)) ∧
  (decide (x118 ≥ x120) = true →
  R (.bool false) w10) ∧
  (decide (x118 ≥ x120) = false →
  ∃ vk_4 : Nat, vk_4 < vk_3 ∧ vI_1 (IntKind.i64.wrap (i + 1)) vk_4 w10))) ∧
  (decide (i < ((x58_0N : Nat) : Int)) = false →
  (decide (((drawsN : Nat) : Int) ≥ most) = true →
  ∀ w14 : World, w14 = w9.alloc (.cells #[] 3 (0, 0)) →
  ∃ (x133A : Option Addr), ∃ (x133N : Nat), ∃ (x133C : Nat), ∃ w15 : World, (Builtin.append_ #[24, 24] 24 #[(.slice (some (⟨w9.heap.size, 0, none⟩ : Addr)) 0 0), (.slice drawsA drawsN drawsC)]).run Try.prog w14 = .ok (.slice x133A x133N x133C) w15 ∧
  ∀ w16 : World, w16 = w15.alloc (.cells #[(.int .i64 more)] 3 (0, 0)) →
  ∃ (x136A : Option Addr), ∃ (x136N : Nat), ∃ (x136C : Nat), ∃ w17 : World, (Builtin.append_ #[24, 24] 24 #[(.slice x133A x133N x133C), (.slice (some (⟨w15.heap.size, 0, none⟩ : Addr)) 1 1)]).run Try.prog w16 = .ok (.slice x136A x136N x136C) w17 ∧
  Calls Try.prog 20 #[(.pointer x48_0), (.slice promptA promptN promptC), (.int .i64 most), (.slice x136A x136N x136C)] w17 (Ret fun v_6 w18 => ∃ (x137_0A : Option Addr), ∃ (x137_0N : Nat), ∃ (x137_0C : Nat), ∃ (x137_1 : Int), v_6 = (.tuple #[(.slice x137_0A x137_0N x137_0C), (.int .i64 x137_1)]) ∧
  ((x137_1 == (0 : Int)) = true →
  Calls Try.prog 21 #[(.slice x58_0A x58_0N x58_0C), (.slice x137_0A x137_0N x137_0C)] w18 (Ret fun v_7 w19 => ∃ (x145 : Bool), v_7 = (.bool x145) ∧
  R (.bool x145) w19)) ∧
  ((x137_1 == (0 : Int)) = false →
  R (.bool false) w18))) ∧
  (decide (((drawsN : Nat) : Int) ≥ most) = false →
  ∀ w20 : World, w20 = w9.alloc (.cells #[] 3 (0, 0)) →
  ∃ (x153A : Option Addr), ∃ (x153N : Nat), ∃ (x153C : Nat), ∃ w21 : World, (Builtin.append_ #[24, 24] 24 #[(.slice (some (⟨w9.heap.size, 0, none⟩ : Addr)) 0 0), (.slice drawsA drawsN drawsC)]).run Try.prog w20 = .ok (.slice x153A x153N x153C) w21 ∧
  ∀ w22 : World, w22 = w21.alloc (.cells #[(.int .i64 0)] 3 (0, 0)) →
  ∃ (x155A : Option Addr), ∃ (x155N : Nat), ∃ (x155C : Nat), ∃ w23 : World, (Builtin.append_ #[24, 24] 24 #[(.slice x153A x153N x153C), (.slice (some (⟨w21.heap.size, 0, none⟩ : Addr)) 1 1)]).run Try.prog w22 = .ok (.slice x155A x155N x155C) w23 ∧
  Calls Try.prog 20 #[(.pointer x48_0), (.slice promptA promptN promptC), (.int .i64 most), (.slice x155A x155N x155C)] w23 (Ret fun v_8 w24 => ∃ (x156_0A : Option Addr), ∃ (x156_0N : Nat), ∃ (x156_0C : Nat), ∃ (x156_1 : Int), v_8 = (.tuple #[(.slice x156_0A x156_0N x156_0C), (.int .i64 x156_1)]) ∧
  ((x156_1 == (0 : Int)) = true →
  Calls Try.prog 21 #[(.slice x58_0A x58_0N x58_0C), (.slice x156_0A x156_0N x156_0C)] w24 (Ret fun v_9 w25 => ∃ (x164 : Bool), v_9 = (.bool x164) ∧
  R (.bool x164) w25)) ∧
  ((x156_1 == (0 : Int)) = false →
  R (.bool false) w24)))))))))))))))))
theorem coadjutorlaw18_GenBegins.vc_eq (c0 : Int) (c1 : Int) (c2 : Int) (c3 : Int) (c4 : Int) (c5 : Int) (weights : ByteArray) (promptA : Option Addr) (promptN : Nat) (promptC : Nat) (most : Int) (drawsA : Option Addr) (drawsN : Nat) (drawsC : Nat) (more : Int) (w : World) (R : Value → World → Prop) : fnV Try.prog Try.f6 (.c .nil (.at_ 3 3 (.k .nil) (.at_ 3 8 (.k .nil) (.at_ 3 13 (.k .nil) (.c .nil (.c .nil (.c .nil (.c .nil (.lp [(12, none), (17, some (.int .i64)), (18, none), (19, none), (70, none), (71, none), (72, none), (73, none), (74, none), (75, none), (76, none), (77, none), (78, none), (79, none), (80, none), (81, none), (82, none), (83, none), (84, none), (85, none), (86, none), (87, none), (88, none), (89, none), (90, none), (91, none), (92, none), (93, none), (94, none), (95, none), (96, none), (97, none), (98, none), (99, none), (100, none), (101, none), (102, none)] (.c (.at_ 17 2 (.k .nil) (.at_ 17 11 (.k .nil) (.c .nil .nil))) (.lp [(12, none), (20, some (.int .i64)), (103, none), (104, none), (105, none), (106, none), (107, none), (108, none), (109, none), (110, none), (111, none), (112, none), (113, none), (114, none), (115, none), (116, none), (117, none), (118, none), (119, none), (120, none), (121, none), (122, none)] (.c (.tk 0 (.tk 1 (.tk 2 (.tk 3 (.tk 4 (.tks 5 (.tk 6 (.tk 7 (.tk 8 (.tk 9 (.tk 10 (.tk 11 (.tk 12 (.tk 13 (.fin (.k .nil)))))))))) (.tk 6 (.tk 7 (.tk 8 (.tk 9 (.tk 10 (.tk 11 (.tk 12 (.tk 13 (.fin (.c .nil .nil)))))))))))))))) (.c (.at_ 26 2 .nil .nil) (.at_ 28 2 .nil .nil)))))))))))))) [(.agg #[(.int .i64 c0), (.int .i64 c1), (.int .i64 c2), (.int .i64 c3), (.int .i64 c4), (.int .i64 c5)]), (.string weights), (.slice promptA promptN promptC), (.int .i64 most), (.slice drawsA drawsN drawsC), (.int .i64 more)] w R = coadjutorlaw18_GenBegins.vc c0 c1 c2 c3 c4 c5 weights promptA promptN promptC most drawsA drawsN drawsC more w R := by kernel_rfl
theorem coadjutorlaw18_GenBegins.calls (c0 : Int) (c1 : Int) (c2 : Int) (c3 : Int) (c4 : Int) (c5 : Int) (weights : ByteArray) (promptA : Option Addr) (promptN : Nat) (promptC : Nat) (most : Int) (drawsA : Option Addr) (drawsN : Nat) (drawsC : Nat) (more : Int) {w : World} {R : Value → World → Prop} (h : coadjutorlaw18_GenBegins.vc c0 c1 c2 c3 c4 c5 weights promptA promptN promptC most drawsA drawsN drawsC more w R) : Calls Try.prog 6 #[(.agg #[(.int .i64 c0), (.int .i64 c1), (.int .i64 c2), (.int .i64 c3), (.int .i64 c4), (.int .i64 c5)]), (.string weights), (.slice promptA promptN promptC), (.int .i64 most), (.slice drawsA drawsN drawsC), (.int .i64 more)] w (Ret R) :=
  calls_V fit Try.func6 (.c .nil (.at_ 3 3 (.k .nil) (.at_ 3 8 (.k .nil) (.at_ 3 13 (.k .nil) (.c .nil (.c .nil (.c .nil (.c .nil (.lp [(12, none), (17, some (.int .i64)), (18, none), (19, none), (70, none), (71, none), (72, none), (73, none), (74, none), (75, none), (76, none), (77, none), (78, none), (79, none), (80, none), (81, none), (82, none), (83, none), (84, none), (85, none), (86, none), (87, none), (88, none), (89, none), (90, none), (91, none), (92, none), (93, none), (94, none), (95, none), (96, none), (97, none), (98, none), (99, none), (100, none), (101, none), (102, none)] (.c (.at_ 17 2 (.k .nil) (.at_ 17 11 (.k .nil) (.c .nil .nil))) (.lp [(12, none), (20, some (.int .i64)), (103, none), (104, none), (105, none), (106, none), (107, none), (108, none), (109, none), (110, none), (111, none), (112, none), (113, none), (114, none), (115, none), (116, none), (117, none), (118, none), (119, none), (120, none), (121, none), (122, none)] (.c (.tk 0 (.tk 1 (.tk 2 (.tk 3 (.tk 4 (.tks 5 (.tk 6 (.tk 7 (.tk 8 (.tk 9 (.tk 10 (.tk 11 (.tk 12 (.tk 13 (.fin (.k .nil)))))))))) (.tk 6 (.tk 7 (.tk 8 (.tk 9 (.tk 10 (.tk 11 (.tk 12 (.tk 13 (.fin (.c .nil .nil)))))))))))))))) (.c (.at_ 26 2 .nil .nil) (.at_ 28 2 .nil .nil)))))))))))))) (by rw [show (#[(.agg #[(.int .i64 c0), (.int .i64 c1), (.int .i64 c2), (.int .i64 c3), (.int .i64 c4), (.int .i64 c5)]), (.string weights), (.slice promptA promptN promptC), (.int .i64 most), (.slice drawsA drawsN drawsC), (.int .i64 more)] : Array Value).toList = [(.agg #[(.int .i64 c0), (.int .i64 c1), (.int .i64 c2), (.int .i64 c3), (.int .i64 c4), (.int .i64 c5)]), (.string weights), (.slice promptA promptN promptC), (.int .i64 most), (.slice drawsA drawsN drawsC), (.int .i64 more)] from rfl, coadjutorlaw18_GenBegins.vc_eq]; exact h)
/-- function 7 -/
def coadjutorlaw18_GenGoes.vc (c0 : Int) (c1 : Int) (c2 : Int) (c3 : Int) (c4 : Int) (c5 : Int) (weights : ByteArray) (promptA : Option Addr) (promptN : Nat) (promptC : Nat) (most : Int) (drawsA : Option Addr) (drawsN : Nat) (drawsC : Nat) (split : Int) (w : World) (R : Value → World → Prop) : Prop :=
  ∀ w1 : World, w1 = w.alloc (.cells #[(.int .i64 c0), (.int .i64 c1), (.int .i64 c2), (.int .i64 c3), (.int .i64 c4), (.int .i64 c5)] 23 (0, 0)) →
  Calls Try.prog 16 #[] w1 (Ret fun v w2 => ∃ (x20 : Bool), v = (.bool x20) ∧
  ((!x20) = true →
  R (.bool false) w2) ∧
  ((!x20) = false →
  (decide (((promptN : Nat) : Int) > (6 : Int)) = true →
  R (.bool true) w2) ∧
  (decide (((promptN : Nat) : Int) > (6 : Int)) = false →
  (decide (((drawsN : Nat) : Int) > (6 : Int)) = true →
  R (.bool true) w2) ∧
  (decide (((drawsN : Nat) : Int) > (6 : Int)) = false →
  ∃ (x310 : Int), ∃ (x311 : Int), ∃ (x312 : Int), ∃ (x313 : Int), ∃ (x314 : Int), ∃ (x315 : Int), (w2.cell? (⟨w.heap.size, 0, none⟩ : Addr) = some (.int .i64 x310) ∧ w2.cell? (⟨w.heap.size, 1, none⟩ : Addr) = some (.int .i64 x311) ∧ w2.cell? (⟨w.heap.size, 2, none⟩ : Addr) = some (.int .i64 x312) ∧ w2.cell? (⟨w.heap.size, 3, none⟩ : Addr) = some (.int .i64 x313) ∧ w2.cell? (⟨w.heap.size, 4, none⟩ : Addr) = some (.int .i64 x314) ∧ w2.cell? (⟨w.heap.size, 5, none⟩ : Addr) = some (.int .i64 x315)) ∧
  Calls Try.prog 19 #[(.agg #[(.int .i64 x310), (.int .i64 x311), (.int .i64 x312), (.int .i64 x313), (.int .i64 x314), (.int .i64 x315)])] w2 (Ret fun v_1 w3 => ∃ (x32 : Bool), v_1 = (.bool x32) ∧
  ((!x32) = true →
  R (.bool true) w3) ∧
  ((!x32) = false →
  (decide (((weights.size : Nat) : Int) > (2048 : Int)) = true →
  R (.bool true) w3) ∧
  (decide (((weights.size : Nat) : Int) > (2048 : Int)) = false →
  ∃ (x410 : Int), ∃ (x411 : Int), ∃ (x412 : Int), ∃ (x413 : Int), ∃ (x414 : Int), ∃ (x415 : Int), (w3.cell? (⟨w.heap.size, 0, none⟩ : Addr) = some (.int .i64 x410) ∧ w3.cell? (⟨w.heap.size, 1, none⟩ : Addr) = some (.int .i64 x411) ∧ w3.cell? (⟨w.heap.size, 2, none⟩ : Addr) = some (.int .i64 x412) ∧ w3.cell? (⟨w.heap.size, 3, none⟩ : Addr) = some (.int .i64 x413) ∧ w3.cell? (⟨w.heap.size, 4, none⟩ : Addr) = some (.int .i64 x414) ∧ w3.cell? (⟨w.heap.size, 5, none⟩ : Addr) = some (.int .i64 x415)) ∧
  Calls Try.prog 11 #[(.agg #[(.int .i64 x410), (.int .i64 x411), (.int .i64 x412), (.int .i64 x413), (.int .i64 x414), (.int .i64 x415)]), (.string weights)] w3 (Ret fun v_2 w4 => ∃ (x43_0 : Option Addr), ∃ (x43_1 : Int), v_2 = (.tuple #[(.pointer x43_0), (.int .i64 x43_1)]) ∧
  ((x43_1 != (0 : Int)) = true →
  R (.bool true) w4) ∧
  ((x43_1 != (0 : Int)) = false →
  Calls Try.prog 20 #[(.pointer x43_0), (.slice promptA promptN promptC), (.int .i64 most), (.slice drawsA drawsN drawsC)] w4 (Ret fun v_3 w5 => ∃ (x53_0A : Option Addr), ∃ (x53_0N : Nat), ∃ (x53_0C : Nat), ∃ (x53_1 : Int), v_3 = (.tuple #[(.slice x53_0A x53_0N x53_0C), (.int .i64 x53_1)]) ∧
  ((x53_1 != (0 : Int)) = true →
  R (.bool true) w5) ∧
  ((x53_1 != (0 : Int)) = false →
  (decide (((x53_0N : Nat) : Int) < (1 : Int)) = true →
  R (.bool true) w5) ∧
  (decide (((x53_0N : Nat) : Int) < (1 : Int)) = false →
  (decide (most < (2 : Int)) = true →
  R (.bool true) w5) ∧
  (decide (most < (2 : Int)) = false →
  (IntKind.u64.wrap (IntKind.i64.wrap (((x53_0N : Nat) : Int) + 1))) ≠ 0 ∧
  ∃ J : Int → World → Prop, ((((IntKind.i64.wrap (Int.tmod (IntKind.u64.wrap split) (IntKind.u64.wrap (IntKind.i64.wrap (((x53_0N : Nat) : Int) + 1))))) == most) = true →
  J (IntKind.i64.wrap (most - 1)) w5) ∧
  (((IntKind.i64.wrap (Int.tmod (IntKind.u64.wrap split) (IntKind.u64.wrap (IntKind.i64.wrap (((x53_0N : Nat) : Int) + 1))))) == most) = false →
  J (IntKind.i64.wrap (Int.tmod (IntKind.u64.wrap split) (IntKind.u64.wrap (IntKind.i64.wrap (((x53_0N : Nat) : Int) + 1))))) w5)) ∧
  ∀ (jk : Nat → Value) (vk : Int), ∀ w6 : World, J vk w6 →
  ∃ vS : World → Prop, ∀ w7 : World, w7 = w6.drew → vS w7 ∧
  (0 ≤ vk ∧ vk ≤ ((x53_0C : Nat) : Int)) ∧
  (0 ≤ (if ((drawsN : Nat) : Int) < vk then ((drawsN : Nat) : Int) else vk) ∧ (if ((drawsN : Nat) : Int) < vk then ((drawsN : Nat) : Int) else vk) ≤ ((drawsN : Nat) : Int)) ∧
  ∀ w8 : World, w8 = w7.alloc (.cells #[] 3 (0, 0)) →
  vS w8 ∧
  ∃ (x84A : Option Addr), ∃ (x84N : Nat), ∃ (x84C : Nat), ∃ w9 : World, (Builtin.append_ #[24, 24] 24 #[(.slice (some (⟨w7.heap.size, 0, none⟩ : Addr)) 0 0), (.slice promptA promptN promptC)]).run Try.prog w8 = .ok (.slice x84A x84N x84C) w9 ∧
  vS w9 ∧
  ∃ (x88A : Option Addr), ∃ (x88N : Nat), ∃ (x88C : Nat), ∃ w10 : World, (Builtin.append_ #[24, 24] 24 #[(.slice x84A x84N x84C), (.slice (if x53_0C = 0 then x53_0A else x53_0A.map (·.add (0 * 1))) (vk.toNat - 0) (x53_0C - 0))]).run Try.prog w9 = .ok (.slice x88A x88N x88C) w10 ∧
  vS w10 ∧
  Calls Try.prog 20 #[(.pointer x43_0), (.slice x88A x88N x88C), (.int .i64 (IntKind.i64.wrap (most - vk))), (.slice (if drawsC = (if ((drawsN : Nat) : Int) < vk then ((drawsN : Nat) : Int) else vk).toNat then drawsA else drawsA.map (·.add ((if ((drawsN : Nat) : Int) < vk then ((drawsN : Nat) : Int) else vk).toNat * 1))) (drawsN - (if ((drawsN : Nat) : Int) < vk then ((drawsN : Nat) : Int) else vk).toNat) (drawsC - (if ((drawsN : Nat) : Int) < vk then ((drawsN : Nat) : Int) else vk).toNat))] w10 (Ret fun v_4 w11 => ∃ (x98_0A : Option Addr), ∃ (x98_0N : Nat), ∃ (x98_0C : Nat), ∃ (x98_1 : Int), v_4 = (.tuple #[(.slice x98_0A x98_0N x98_0C), (.int .i64 x98_1)]) ∧
  vS w11 ∧
  ((x98_1 == (0 : Int)) = true →
  (0 ≤ vk ∧ vk ≤ ((x53_0N : Nat) : Int)) ∧
  Calls Try.prog 21 #[(.slice x98_0A x98_0N x98_0C), (.slice (if x53_0C = vk.toNat then x53_0A else x53_0A.map (·.add (vk.toNat * 1))) (x53_0N - vk.toNat) (x53_0C - vk.toNat))] w11 (Ret fun v_5 w12 => ∃ (x108 : Bool), v_5 = (.bool x108) ∧
  R (.bool x108) w12)) ∧
  ((x98_1 == (0 : Int)) = false →
  R (.bool false) w11)))))))))))))))
theorem coadjutorlaw18_GenGoes.vc_eq (c0 : Int) (c1 : Int) (c2 : Int) (c3 : Int) (c4 : Int) (c5 : Int) (weights : ByteArray) (promptA : Option Addr) (promptN : Nat) (promptC : Nat) (most : Int) (drawsA : Option Addr) (drawsN : Nat) (drawsC : Nat) (split : Int) (w : World) (R : Value → World → Prop) : fnV Try.prog Try.f7 (.c .nil (.at_ 3 3 (.k .nil) (.at_ 3 8 (.k .nil) (.at_ 3 13 (.k .nil) (.c .nil (.c .nil (.at_ 9 2 (.k .nil) (.at_ 9 7 (.k .nil) (.c .nil (.cut 1 [(17, some (.int .i64)), (75, none), (76, none), (77, none), (78, none), (79, none)] (.c .nil .nil) (.tk 0 (.tk 2 (.tk 4 (.tk 5 (.tk 6 (.tk 8 (.tk 9 (.tk 10 (.tk 11 (.tk 12 (.tk 13 (.tk 14 (.tk 15 (.tk 16 (.alt 1 (.alt 3 (.alt 7 (.alt 17 (.tk 18 (.tk 19 (.tk 20 (.tk 21 (.tk 22 (.fin (.at_ 15 2 .nil .nil))))))) .nil) .nil) .nil) .nil))))))))))))))))))))))))) [(.agg #[(.int .i64 c0), (.int .i64 c1), (.int .i64 c2), (.int .i64 c3), (.int .i64 c4), (.int .i64 c5)]), (.string weights), (.slice promptA promptN promptC), (.int .i64 most), (.slice drawsA drawsN drawsC), (.int .i64 split)] w R = coadjutorlaw18_GenGoes.vc c0 c1 c2 c3 c4 c5 weights promptA promptN promptC most drawsA drawsN drawsC split w R := by kernel_rfl
theorem coadjutorlaw18_GenGoes.calls (c0 : Int) (c1 : Int) (c2 : Int) (c3 : Int) (c4 : Int) (c5 : Int) (weights : ByteArray) (promptA : Option Addr) (promptN : Nat) (promptC : Nat) (most : Int) (drawsA : Option Addr) (drawsN : Nat) (drawsC : Nat) (split : Int) {w : World} {R : Value → World → Prop} (h : coadjutorlaw18_GenGoes.vc c0 c1 c2 c3 c4 c5 weights promptA promptN promptC most drawsA drawsN drawsC split w R) : Calls Try.prog 7 #[(.agg #[(.int .i64 c0), (.int .i64 c1), (.int .i64 c2), (.int .i64 c3), (.int .i64 c4), (.int .i64 c5)]), (.string weights), (.slice promptA promptN promptC), (.int .i64 most), (.slice drawsA drawsN drawsC), (.int .i64 split)] w (Ret R) :=
  calls_V fit Try.func7 (.c .nil (.at_ 3 3 (.k .nil) (.at_ 3 8 (.k .nil) (.at_ 3 13 (.k .nil) (.c .nil (.c .nil (.at_ 9 2 (.k .nil) (.at_ 9 7 (.k .nil) (.c .nil (.cut 1 [(17, some (.int .i64)), (75, none), (76, none), (77, none), (78, none), (79, none)] (.c .nil .nil) (.tk 0 (.tk 2 (.tk 4 (.tk 5 (.tk 6 (.tk 8 (.tk 9 (.tk 10 (.tk 11 (.tk 12 (.tk 13 (.tk 14 (.tk 15 (.tk 16 (.alt 1 (.alt 3 (.alt 7 (.alt 17 (.tk 18 (.tk 19 (.tk 20 (.tk 21 (.tk 22 (.fin (.at_ 15 2 .nil .nil))))))) .nil) .nil) .nil) .nil))))))))))))))))))))))))) (by rw [show (#[(.agg #[(.int .i64 c0), (.int .i64 c1), (.int .i64 c2), (.int .i64 c3), (.int .i64 c4), (.int .i64 c5)]), (.string weights), (.slice promptA promptN promptC), (.int .i64 most), (.slice drawsA drawsN drawsC), (.int .i64 split)] : Array Value).toList = [(.agg #[(.int .i64 c0), (.int .i64 c1), (.int .i64 c2), (.int .i64 c3), (.int .i64 c4), (.int .i64 c5)]), (.string weights), (.slice promptA promptN promptC), (.int .i64 most), (.slice drawsA drawsN drawsC), (.int .i64 split)] from rfl, coadjutorlaw18_GenGoes.vc_eq]; exact h)
/-- function 8 -/
def coadjutorlaw18_GenBest.vc (c0 : Int) (c1 : Int) (c2 : Int) (c3 : Int) (c4 : Int) (c5 : Int) (weights : ByteArray) (promptA : Option Addr) (promptN : Nat) (promptC : Nat) (most : Int) (w : World) (R : Value → World → Prop) : Prop :=
  ∀ w1 : World, w1 = w.alloc (.cells #[(.int .i64 c0), (.int .i64 c1), (.int .i64 c2), (.int .i64 c3), (.int .i64 c4), (.int .i64 c5)] 23 (0, 0)) →
  Calls Try.prog 16 #[] w1 (Ret fun v w2 => ∃ (x20 : Bool), v = (.bool x20) ∧
  ((!x20) = true →
  R (.bool false) w2) ∧
  ((!x20) = false →
  (decide (((promptN : Nat) : Int) > (8 : Int)) = true →
  R (.bool true) w2) ∧
  (decide (((promptN : Nat) : Int) > (8 : Int)) = false →
  ∃ (x260 : Int), ∃ (x261 : Int), ∃ (x262 : Int), ∃ (x263 : Int), ∃ (x264 : Int), ∃ (x265 : Int), (w2.cell? (⟨w.heap.size, 0, none⟩ : Addr) = some (.int .i64 x260) ∧ w2.cell? (⟨w.heap.size, 1, none⟩ : Addr) = some (.int .i64 x261) ∧ w2.cell? (⟨w.heap.size, 2, none⟩ : Addr) = some (.int .i64 x262) ∧ w2.cell? (⟨w.heap.size, 3, none⟩ : Addr) = some (.int .i64 x263) ∧ w2.cell? (⟨w.heap.size, 4, none⟩ : Addr) = some (.int .i64 x264) ∧ w2.cell? (⟨w.heap.size, 5, none⟩ : Addr) = some (.int .i64 x265)) ∧
  Calls Try.prog 19 #[(.agg #[(.int .i64 x260), (.int .i64 x261), (.int .i64 x262), (.int .i64 x263), (.int .i64 x264), (.int .i64 x265)])] w2 (Ret fun v_1 w3 => ∃ (x27 : Bool), v_1 = (.bool x27) ∧
  ((!x27) = true →
  R (.bool true) w3) ∧
  ((!x27) = false →
  (decide (((weights.size : Nat) : Int) > (2048 : Int)) = true →
  R (.bool true) w3) ∧
  (decide (((weights.size : Nat) : Int) > (2048 : Int)) = false →
  ∃ (x360 : Int), ∃ (x361 : Int), ∃ (x362 : Int), ∃ (x363 : Int), ∃ (x364 : Int), ∃ (x365 : Int), (w3.cell? (⟨w.heap.size, 0, none⟩ : Addr) = some (.int .i64 x360) ∧ w3.cell? (⟨w.heap.size, 1, none⟩ : Addr) = some (.int .i64 x361) ∧ w3.cell? (⟨w.heap.size, 2, none⟩ : Addr) = some (.int .i64 x362) ∧ w3.cell? (⟨w.heap.size, 3, none⟩ : Addr) = some (.int .i64 x363) ∧ w3.cell? (⟨w.heap.size, 4, none⟩ : Addr) = some (.int .i64 x364) ∧ w3.cell? (⟨w.heap.size, 5, none⟩ : Addr) = some (.int .i64 x365)) ∧
  Calls Try.prog 11 #[(.agg #[(.int .i64 x360), (.int .i64 x361), (.int .i64 x362), (.int .i64 x363), (.int .i64 x364), (.int .i64 x365)]), (.string weights)] w3 (Ret fun v_2 w4 => ∃ (x38_0 : Option Addr), ∃ (x38_1 : Int), v_2 = (.tuple #[(.pointer x38_0), (.int .i64 x38_1)]) ∧
  ((x38_1 != (0 : Int)) = true →
  R (.bool true) w4) ∧
  ((x38_1 != (0 : Int)) = false →
  Calls Try.prog 22 #[(.pointer x38_0), (.slice promptA promptN promptC), (.int .i64 most)] w4 (Ret fun v_3 w5 => ∃ (x47_0A : Option Addr), ∃ (x47_0N : Nat), ∃ (x47_0C : Nat), ∃ (x47_1 : Int), v_3 = (.tuple #[(.slice x47_0A x47_0N x47_0C), (.int .i64 x47_1)]) ∧
  ((x47_1 != (0 : Int)) = true →
  R (.bool (((x47_0N : Nat) : Int) == (0 : Int))) w5) ∧
  ((x47_1 != (0 : Int)) = false →
  Calls Try.prog 12 #[(.pointer x38_0), (.slice none 0 0), (.slice promptA promptN promptC)] w5 (Ret fun v_4 w6 => ∃ (x58_0A : Option Addr), ∃ (x58_0N : Nat), ∃ (x58_0C : Nat), ∃ (x58_1A : Option Addr), ∃ (x58_1N : Nat), ∃ (x58_1C : Nat), ∃ (x58_2 : Int), v_4 = (.tuple #[(.slice x58_0A x58_0N x58_0C), (.slice x58_1A x58_1N x58_1C), (.int .i64 x58_2)]) ∧
  ((x58_2 != (0 : Int)) = true →
  R (.bool false) w6) ∧
  ((x58_2 != (0 : Int)) = false →
  Calls Try.prog 23 #[(.slice x58_1A x58_1N x58_1C)] w6 (Ret fun v_5 w7 => ∃ (x65 : Int), v_5 = (.int .i64 x65) ∧
  ∃ J : World → Prop, (((x65 != (0 : Int)) = true →
  ((((x47_0N : Nat) : Int) == (0 : Int)) = true →
  R (.bool false) w7) ∧
  ((((x47_0N : Nat) : Int) == (0 : Int)) = false →
  (0 ≤ (0 : Int) ∧ (0 : Int) < ((x47_0N : Nat) : Int)) ∧ someV x47_0A fun p =>
  ∃ (x75 : Int), w7.cell? p = some (.int .i64 x75) ∧
  ((x75 != x65) = true →
  R (.bool false) w7) ∧
  ((x75 != x65) = false →
  ((x65 == (0 : Int)) = true →
  ((((x47_0N : Nat) : Int) != (0 : Int)) = true →
  R (.bool false) w7) ∧
  ((((x47_0N : Nat) : Int) != (0 : Int)) = false →
  J w7)) ∧
  ((x65 == (0 : Int)) = false →
  J w7)))) ∧
  ((x65 != (0 : Int)) = false →
  ((x65 == (0 : Int)) = true →
  ((((x47_0N : Nat) : Int) != (0 : Int)) = true →
  R (.bool false) w7) ∧
  ((((x47_0N : Nat) : Int) != (0 : Int)) = false →
  J w7)) ∧
  ((x65 == (0 : Int)) = false →
  J w7))) ∧
  ∀ (jk : Nat → Value), ∀ w8 : World, J w8 →
  ∃ vI : Int → Nat → World → Prop, (∃ vk_2 : Nat, vI 1 vk_2 w8) ∧
  ∀ (jk : Nat → Value) (n : Int), ∀ (vk : Nat) (w9 : World), vI n vk w9 →
  (decide (n < most) = true →
  Calls Try.prog 22 #[(.pointer x38_0), (.slice promptA promptN promptC), (.int .i64 n)] w9 (Ret fun v_6 w10 => ∃ (x98_0A : Option Addr), ∃ (x98_0N : Nat), ∃ (x98_0C : Nat), ∃ (x98_1 : Int), v_6 = (.tuple #[(.slice x98_0A x98_0N x98_0C), (.int .i64 x98_1)]) ∧
  ((x98_1 != (0 : Int)) = true →
  R (.bool false) w10) ∧
  ((x98_1 != (0 : Int)) = false →
  (0 ≤ (if ((x47_0N : Nat) : Int) < n then ((x47_0N : Nat) : Int) else n) ∧ (if ((x47_0N : Nat) : Int) < n then ((x47_0N : Nat) : Int) else n) ≤ ((x47_0C : Nat) : Int)) ∧
  Calls Try.prog 21 #[(.slice x98_0A x98_0N x98_0C), (.slice (if x47_0C = 0 then x47_0A else x47_0A.map (·.add (0 * 1))) ((if ((x47_0N : Nat) : Int) < n then ((x47_0N : Nat) : Int) else n).toNat - 0) (x47_0C - 0))] w10 (Ret fun v_7 w11 => ∃ (x111 : Bool), v_7 = (.bool x111) ∧
  ((!x111) = true →
  R (.bool false) w11) ∧
  ((!x111) = false →
  ∃ vk_1 : Nat, vk_1 < vk ∧ vI (IntKind.i64.wrap (n + 1)) vk_1 w11))))) ∧
  (decide (n < most) = false →
  R (.bool (decide (((x47_0N : Nat) : Int) ≤ most))) w9))))))))))))))
theorem coadjutorlaw18_GenBest.vc_eq (c0 : Int) (c1 : Int) (c2 : Int) (c3 : Int) (c4 : Int) (c5 : Int) (weights : ByteArray) (promptA : Option Addr) (promptN : Nat) (promptC : Nat) (most : Int) (w : World) (R : Value → World → Prop) : fnV Try.prog Try.f8 (.c .nil (.at_ 3 3 (.k .nil) (.at_ 3 8 (.k .nil) (.c .nil (.c .nil (.c .nil (.c .nil (.cut 1 [(8, none), (66, none), (67, none), (68, none), (69, none), (70, none), (71, none), (72, none), (73, none), (74, none), (75, none), (76, none), (77, none), (78, none), (79, none), (80, none), (81, none), (82, none), (83, none), (84, none), (85, none), (86, none), (87, none), (88, none)] (.at_ 15 2 (.at_ 15 6 (.k .nil) (.at_ 15 14 (.k .nil) (.at_ 15 17 (.c .nil .nil) (.k .nil)))) (.at_ 15 17 (.c .nil .nil) (.k .nil))) (.lp [(8, none), (17, some (.int .i64)), (18, none), (19, none), (89, none), (90, none), (91, none), (92, none), (93, none), (94, none), (95, none), (96, none), (97, none), (98, none), (99, none), (100, none), (101, none), (102, none), (103, none), (104, none), (105, none), (106, none), (107, none), (108, none), (109, none), (110, none), (111, none), (112, none), (113, none)] (.c (.at_ 21 2 (.k .nil) (.c .nil .nil)) .nil)))))))))) [(.agg #[(.int .i64 c0), (.int .i64 c1), (.int .i64 c2), (.int .i64 c3), (.int .i64 c4), (.int .i64 c5)]), (.string weights), (.slice promptA promptN promptC), (.int .i64 most)] w R = coadjutorlaw18_GenBest.vc c0 c1 c2 c3 c4 c5 weights promptA promptN promptC most w R := by kernel_rfl
theorem coadjutorlaw18_GenBest.calls (c0 : Int) (c1 : Int) (c2 : Int) (c3 : Int) (c4 : Int) (c5 : Int) (weights : ByteArray) (promptA : Option Addr) (promptN : Nat) (promptC : Nat) (most : Int) {w : World} {R : Value → World → Prop} (h : coadjutorlaw18_GenBest.vc c0 c1 c2 c3 c4 c5 weights promptA promptN promptC most w R) : Calls Try.prog 8 #[(.agg #[(.int .i64 c0), (.int .i64 c1), (.int .i64 c2), (.int .i64 c3), (.int .i64 c4), (.int .i64 c5)]), (.string weights), (.slice promptA promptN promptC), (.int .i64 most)] w (Ret R) :=
  calls_V fit Try.func8 (.c .nil (.at_ 3 3 (.k .nil) (.at_ 3 8 (.k .nil) (.c .nil (.c .nil (.c .nil (.c .nil (.cut 1 [(8, none), (66, none), (67, none), (68, none), (69, none), (70, none), (71, none), (72, none), (73, none), (74, none), (75, none), (76, none), (77, none), (78, none), (79, none), (80, none), (81, none), (82, none), (83, none), (84, none), (85, none), (86, none), (87, none), (88, none)] (.at_ 15 2 (.at_ 15 6 (.k .nil) (.at_ 15 14 (.k .nil) (.at_ 15 17 (.c .nil .nil) (.k .nil)))) (.at_ 15 17 (.c .nil .nil) (.k .nil))) (.lp [(8, none), (17, some (.int .i64)), (18, none), (19, none), (89, none), (90, none), (91, none), (92, none), (93, none), (94, none), (95, none), (96, none), (97, none), (98, none), (99, none), (100, none), (101, none), (102, none), (103, none), (104, none), (105, none), (106, none), (107, none), (108, none), (109, none), (110, none), (111, none), (112, none), (113, none)] (.c (.at_ 21 2 (.k .nil) (.c .nil .nil)) .nil)))))))))) (by rw [show (#[(.agg #[(.int .i64 c0), (.int .i64 c1), (.int .i64 c2), (.int .i64 c3), (.int .i64 c4), (.int .i64 c5)]), (.string weights), (.slice promptA promptN promptC), (.int .i64 most)] : Array Value).toList = [(.agg #[(.int .i64 c0), (.int .i64 c1), (.int .i64 c2), (.int .i64 c3), (.int .i64 c4), (.int .i64 c5)]), (.string weights), (.slice promptA promptN promptC), (.int .i64 most)] from rfl, coadjutorlaw18_GenBest.vc_eq]; exact h)
end Go.Proofs.Ytfhnegfoglngoaa.Vc
