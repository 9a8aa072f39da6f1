import Derived.Test.YtbadkcnemcnhfaaGreatDoorVc
import Derived.Test.YtbadkcnemcnhfaaGreatDoorH
import Derived.Test.YtbadkcnemcnhfaaGreatDoorProg
import Derived.KernelRfl
set_option linter.unusedVariables false
set_option maxRecDepth 100000
namespace Go.Proofs.YtbadkcnemcnhfaaGreatDoor.Vc
open Go Go.Proofs Go.Proofs.YtbadkcnemcnhfaaGreatDoor.V
/-- function 23 -/
def coadjutorref18_Check.vc (m0 : Int) (m1 : Int) (m2 : Int) (m3 : Int) (m4 : Int) (m5 : Int) (m6 : ByteArray) (most : Int) (promptA : Option Addr) (promptN : Nat) (promptC : Nat) (w : World) (R : Value → World → Prop) : Prop :=
  ∀ w1 : World, w1 = w.alloc (.cells #[(.int .i64 m0), (.int .i64 m1), (.int .i64 m2), (.int .i64 m3), (.int .i64 m4), (.int .i64 m5), (.string m6)] 38 (0, 0)) →
  ((((promptN : Nat) : Int) == (0 : Int)) = true →
  R (.int .i64 1) w1) ∧
  ((((promptN : Nat) : Int) == (0 : Int)) = false →
  (decide (most < (1 : Int)) = true →
  R (.int .i64 1) w1) ∧
  (decide (most < (1 : Int)) = false →
  (decide (most > (32 : Int)) = true →
  R (.int .i64 1) w1) ∧
  (decide (most > (32 : Int)) = false →
  ∃ vI : Int → Nat → World → Prop, (∃ vk_2 : Nat, vI 0 vk_2 w1) ∧
  ∀ (jk : Nat → Value) (i : Int), ∀ (vk : Nat) (w2 : World), vI i vk w2 →
  (decide (i < ((promptN : Nat) : Int)) = true →
  ∃ vS : World → Prop, ∀ w3 : World, w3 = w2.drew → vS w3 ∧
  (0 ≤ i ∧ i < ((promptN : Nat) : Int)) ∧ someV promptA fun p =>
  ∃ (x28 : Int), (∀ w4, vS w4 → w4.cell? (p.add (i.toNat * 1)) = some (.int .i64 x28)) ∧
  (decide (x28 < (0 : Int)) = true →
  R (.int .i64 3) w3) ∧
  (decide (x28 < (0 : Int)) = false →
  (0 ≤ i ∧ i < ((promptN : Nat) : Int)) ∧ someV promptA fun p_1 =>
  ∃ (x34 : Int), (∀ w5, vS w5 → w5.cell? (p_1.add (i.toNat * 1)) = some (.int .i64 x34)) ∧
  ∃ (x37 : Int), (∀ w6, vS w6 → w6.cell? (⟨w.heap.size, 0, none⟩ : Addr) = some (.int .i64 x37)) ∧
  (decide (x34 ≥ x37) = true →
  R (.int .i64 3) w3) ∧
  (decide (x34 ≥ x37) = false →
  ∃ vk_1 : Nat, vk_1 < vk ∧ vI (IntKind.i64.wrap (i + 1)) vk_1 w3))) ∧
  (decide (i < ((promptN : Nat) : Int)) = false →
  ∃ (x44 : Int), w2.cell? (⟨w.heap.size, 5, none⟩ : Addr) = some (.int .i64 x44) ∧
  (decide (((promptN : Nat) : Int) > (IntKind.i64.wrap (x44 - most))) = true →
  R (.int .i64 12) w2) ∧
  (decide (((promptN : Nat) : Int) > (IntKind.i64.wrap (x44 - most))) = false →
  R (.int .i64 0) w2)))))
theorem coadjutorref18_Check.vc_eq (m0 : Int) (m1 : Int) (m2 : Int) (m3 : Int) (m4 : Int) (m5 : Int) (m6 : ByteArray) (most : Int) (promptA : Option Addr) (promptN : Nat) (promptC : Nat) (w : World) (R : Value → World → Prop) : fnV Tryz.prog Tryz.f23 (.at_ 1 3 (.k .nil) (.at_ 1 7 (.k .nil) (.c .nil (.lp [(6, none), (7, some (.int .i64)), (19, none), (20, none), (21, none), (22, none), (23, none), (24, none), (25, none), (26, none), (27, none), (28, none), (29, none), (30, none), (31, none), (32, none), (33, none), (34, none), (35, none), (36, none), (37, none), (38, none), (39, none)] (.c (.tk 0 (.tk 1 (.tk 2 (.tk 3 (.tk 4 (.tks 5 (.tk 6 (.tk 7 (.tk 8 (.tk 9 (.tk 10 (.tk 11 (.tk 12 (.tk 13 (.tk 14 (.fin (.k .nil))))))))))) (.tk 6 (.tk 7 (.tk 8 (.tk 9 (.tk 10 (.tk 11 (.tk 12 (.tk 13 (.tk 14 (.fin (.c .nil .nil))))))))))))))))) (.c .nil .nil)))))) [(.agg #[(.int .i64 m0), (.int .i64 m1), (.int .i64 m2), (.int .i64 m3), (.int .i64 m4), (.int .i64 m5), (.string m6)]), (.int .i64 most), (.slice promptA promptN promptC)] w R = coadjutorref18_Check.vc m0 m1 m2 m3 m4 m5 m6 most promptA promptN promptC w R := by kernel_rfl
theorem coadjutorref18_Check.calls (m0 : Int) (m1 : Int) (m2 : Int) (m3 : Int) (m4 : Int) (m5 : Int) (m6 : ByteArray) (most : Int) (promptA : Option Addr) (promptN : Nat) (promptC : Nat) {w : World} {R : Value → World → Prop} (h : coadjutorref18_Check.vc m0 m1 m2 m3 m4 m5 m6 most promptA promptN promptC w R) : Calls Tryz.prog 23 #[(.agg #[(.int .i64 m0), (.int .i64 m1), (.int .i64 m2), (.int .i64 m3), (.int .i64 m4), (.int .i64 m5), (.string m6)]), (.int .i64 most), (.slice promptA promptN promptC)] w (Ret R) :=
  calls_V fit Tryz.func23 (.at_ 1 3 (.k .nil) (.at_ 1 7 (.k .nil) (.c .nil (.lp [(6, none), (7, some (.int .i64)), (19, none), (20, none), (21, none), (22, none), (23, none), (24, none), (25, none), (26, none), (27, none), (28, none), (29, none), (30, none), (31, none), (32, none), (33, none), (34, none), (35, none), (36, none), (37, none), (38, none), (39, none)] (.c (.tk 0 (.tk 1 (.tk 2 (.tk 3 (.tk 4 (.tks 5 (.tk 6 (.tk 7 (.tk 8 (.tk 9 (.tk 10 (.tk 11 (.tk 12 (.tk 13 (.tk 14 (.fin (.k .nil))))))))))) (.tk 6 (.tk 7 (.tk 8 (.tk 9 (.tk 10 (.tk 11 (.tk 12 (.tk 13 (.tk 14 (.fin (.c .nil .nil))))))))))))))))) (.c .nil .nil)))))) (by rw [show (#[(.agg #[(.int .i64 m0), (.int .i64 m1), (.int .i64 m2), (.int .i64 m3), (.int .i64 m4), (.int .i64 m5), (.string m6)]), (.int .i64 most), (.slice promptA promptN promptC)] : Array Value).toList = [(.agg #[(.int .i64 m0), (.int .i64 m1), (.int .i64 m2), (.int .i64 m3), (.int .i64 m4), (.int .i64 m5), (.string m6)]), (.int .i64 most), (.slice promptA promptN promptC)] from rfl, coadjutorref18_Check.vc_eq]; exact h)
/-- function 11 -/
def coadjutorref18_Gen.vc (m0 : Int) (m1 : Int) (m2 : Int) (m3 : Int) (m4 : Int) (m5 : Int) (m6 : ByteArray) (promptA : Option Addr) (promptN : Nat) (promptC : Nat) (most : Int) (drawsA : Option Addr) (drawsN : Nat) (drawsC : Nat) (greedy : Bool) (w : World) (R : Value → World → Prop) : Prop :=
  ∀ w1 : World, w1 = w.alloc (.cells #[(.int .i64 m0), (.int .i64 m1), (.int .i64 m2), (.int .i64 m3), (.int .i64 m4), (.int .i64 m5), (.string m6)] 38 (0, 0)) →
  ∃ (x250 : Int), ∃ (x251 : Int), ∃ (x252 : Int), ∃ (x253 : Int), ∃ (x254 : Int), ∃ (x255 : Int), ∃ (x256 : ByteArray), (w1.cell? (⟨w.heap.size, 0, none⟩ : Addr) = some (.int .i64 x250) ∧ w1.cell? (⟨w.heap.size, 1, none⟩ : Addr) = some (.int .i64 x251) ∧ w1.cell? (⟨w.heap.size, 2, none⟩ : Addr) = some (.int .i64 x252) ∧ w1.cell? (⟨w.heap.size, 3, none⟩ : Addr) = some (.int .i64 x253) ∧ w1.cell? (⟨w.heap.size, 4, none⟩ : Addr) = some (.int .i64 x254) ∧ w1.cell? (⟨w.heap.size, 5, none⟩ : Addr) = some (.int .i64 x255) ∧ w1.cell? (⟨w.heap.size, 6, none⟩ : Addr) = some (.string x256)) ∧
  Calls Tryz.prog 23 #[(.agg #[(.int .i64 x250), (.int .i64 x251), (.int .i64 x252), (.int .i64 x253), (.int .i64 x254), (.int .i64 x255), (.string x256)]), (.int .i64 most), (.slice promptA promptN promptC)] w1 (Ret fun v w2 => ∃ (x28 : Int), v = (.int .i64 x28) ∧
  ((x28 != (0 : Int)) = true →
  R (.tuple #[(.slice none 0 0), (.int .i64 x28)]) w2) ∧
  ((x28 != (0 : Int)) = false →
  ∀ w3 : World, w3 = w2.alloc (.cells #[] 70 (0, 0)) →
  ∀ w4 : World, w4 = w3.alloc (.cells #[] 3 (0, 0)) →
  ∃ vI : Option Addr → Nat → Nat → Option Addr → Nat → Nat → Int → Nat → World → Prop, (∃ vk_2 : Nat, vI (some (⟨w2.heap.size, 0, none⟩ : Addr)) 0 0 (some (⟨w3.heap.size, 0, none⟩ : Addr)) 0 0 0 vk_2 w4) ∧
  ∀ (jk : Nat → Value) (pastA : Option Addr) (pastN : Nat) (pastC : Nat) (scoresA : Option Addr) (scoresN : Nat) (scoresC : Nat) (i : Int), ∀ (vk : Nat) (w5 : World), vI pastA pastN pastC scoresA scoresN scoresC i vk w5 →
  (decide (i < ((promptN : Nat) : Int)) = true →
  ∃ vS : World → Prop, ∀ w6 : World, w6 = w5.drew → vS w6 ∧
  ∃ (x410 : Int), ∃ (x411 : Int), ∃ (x412 : Int), ∃ (x413 : Int), ∃ (x414 : Int), ∃ (x415 : Int), ∃ (x416 : ByteArray), ((∀ w7, vS w7 → w7.cell? (⟨w.heap.size, 0, none⟩ : Addr) = some (.int .i64 x410)) ∧ (∀ w7, vS w7 → w7.cell? (⟨w.heap.size, 1, none⟩ : Addr) = some (.int .i64 x411)) ∧ (∀ w7, vS w7 → w7.cell? (⟨w.heap.size, 2, none⟩ : Addr) = some (.int .i64 x412)) ∧ (∀ w7, vS w7 → w7.cell? (⟨w.heap.size, 3, none⟩ : Addr) = some (.int .i64 x413)) ∧ (∀ w7, vS w7 → w7.cell? (⟨w.heap.size, 4, none⟩ : Addr) = some (.int .i64 x414)) ∧ (∀ w7, vS w7 → w7.cell? (⟨w.heap.size, 5, none⟩ : Addr) = some (.int .i64 x415)) ∧ (∀ w7, vS w7 → w7.cell? (⟨w.heap.size, 6, none⟩ : Addr) = some (.string x416))) ∧
  (0 ≤ i ∧ i < ((promptN : Nat) : Int)) ∧ someV promptA fun p =>
  ∃ (x46 : Int), (∀ w8, vS w8 → w8.cell? (p.add (i.toNat * 1)) = some (.int .i64 x46)) ∧
  (Calls Tryz.prog 24 #[(.agg #[(.int .i64 x410), (.int .i64 x411), (.int .i64 x412), (.int .i64 x413), (.int .i64 x414), (.int .i64 x415), (.string x416)]), (.slice pastA pastN pastC), (.int .i64 x46)] w6 (Ret fun v_1 w9 => ∃ (x47_00A : Option Addr), ∃ (x47_00N : Nat), ∃ (x47_00C : Nat), ∃ (x47_01A : Option Addr), ∃ (x47_01N : Nat), ∃ (x47_01C : Nat), ∃ (x47_1A : Option Addr), ∃ (x47_1N : Nat), ∃ (x47_1C : Nat), ∃ (x47_2 : Int), v_1 = (.tuple #[(.agg #[(.slice x47_00A x47_00N x47_00C), (.slice x47_01A x47_01N x47_01C)]), (.slice x47_1A x47_1N x47_1C), (.int .i64 x47_2)]) ∧
  vS w9 ∧
  ∀ w10 : World, w10 = w9.alloc (.cells #[(.slice none 0 0), (.slice none 0 0)] 70 (0, 0)) →
  vS w10 ∧
  (((∃ u, w10.cell? (⟨w9.heap.size, 0, none⟩ : Addr) = some u) ∧ w10.frozen? (⟨w9.heap.size, 0, none⟩ : Addr) = false) ∧ ((∃ u, w10.cell? (⟨w9.heap.size, 1, none⟩ : Addr) = some u) ∧ w10.frozen? (⟨w9.heap.size, 1, none⟩ : Addr) = false)) ∧ ∀ w11 : World, w11 = ((w10.setCell (⟨w9.heap.size, 0, none⟩ : Addr) (.slice x47_00A x47_00N x47_00C)).setCell (⟨w9.heap.size, 1, none⟩ : Addr) (.slice x47_01A x47_01N x47_01C)) →
  vS w11 ∧
  ∃ (x520A : Option Addr), ∃ (x520N : Nat), ∃ (x520C : Nat), ∃ (x521A : Option Addr), ∃ (x521N : Nat), ∃ (x521C : Nat), (w11.cell? (⟨w9.heap.size, 0, none⟩ : Addr) = some (.slice x520A x520N x520C) ∧ w11.cell? (⟨w9.heap.size, 1, none⟩ : Addr) = some (.slice x521A x521N x521C)) ∧
  ∀ w12 : World, w12 = w11.alloc (.cells #[(.slice x520A x520N x520C), (.slice x521A x521N x521C)] 70 (0, 0)) →
  ∃ (x54A : Option Addr), ∃ (x54N : Nat), ∃ (x54C : Nat), ∃ w13 : World, (Builtin.append_ #[68, 68] 68 #[(.slice pastA pastN pastC), (.slice (some (⟨w11.heap.size, 0, none⟩ : Addr)) 1 1)]).run Tryz.prog w12 = .ok (.slice x54A x54N x54C) w13 ∧
  ∃ vk_1 : Nat, vk_1 < vk ∧ vI x54A x54N x54C x47_1A x47_1N x47_1C (IntKind.i64.wrap (i + 1)) vk_1 w13)) ∧ (∀ w14 : World, w14 = w6.alloc (.cells #[(.slice none 0 0), (.slice none 0 0)] 70 (0, 0)) →
  vS w14 ∧
  Calls Tryz.prog 24 #[(.agg #[(.int .i64 x410), (.int .i64 x411), (.int .i64 x412), (.int .i64 x413), (.int .i64 x414), (.int .i64 x415), (.string x416)]), (.slice pastA pastN pastC), (.int .i64 x46)] w14 (Ret fun v_2 w15 => ∃ (x47_00A_1 : Option Addr), ∃ (x47_00N_1 : Nat), ∃ (x47_00C_1 : Nat), ∃ (x47_01A_1 : Option Addr), ∃ (x47_01N_1 : Nat), ∃ (x47_01C_1 : Nat), ∃ (x47_1A_1 : Option Addr), ∃ (x47_1N_1 : Nat), ∃ (x47_1C_1 : Nat), ∃ (x47_2_1 : Int), v_2 = (.tuple #[(.agg #[(.slice x47_00A_1 x47_00N_1 x47_00C_1), (.slice x47_01A_1 x47_01N_1 x47_01C_1)]), (.slice x47_1A_1 x47_1N_1 x47_1C_1), (.int .i64 x47_2_1)]) ∧
  vS w15 ∧
  (((∃ u, w15.cell? (⟨w6.heap.size, 0, none⟩ : Addr) = some u) ∧ w15.frozen? (⟨w6.heap.size, 0, none⟩ : Addr) = false) ∧ ((∃ u, w15.cell? (⟨w6.heap.size, 1, none⟩ : Addr) = some u) ∧ w15.frozen? (⟨w6.heap.size, 1, none⟩ : Addr) = false)) ∧ ∀ w16 : World, w16 = ((w15.setCell (⟨w6.heap.size, 0, none⟩ : Addr) (.slice x47_00A_1 x47_00N_1 x47_00C_1)).setCell (⟨w6.heap.size, 1, none⟩ : Addr) (.slice x47_01A_1 x47_01N_1 x47_01C_1)) →
  vS w16 ∧
  ∃ (x520A_1 : Option Addr), ∃ (x520N_1 : Nat), ∃ (x520C_1 : Nat), ∃ (x521A_1 : Option Addr), ∃ (x521N_1 : Nat), ∃ (x521C_1 : Nat), (w16.cell? (⟨w6.heap.size, 0, none⟩ : Addr) = some (.slice x520A_1 x520N_1 x520C_1) ∧ w16.cell? (⟨w6.heap.size, 1, none⟩ : Addr) = some (.slice x521A_1 x521N_1 x521C_1)) ∧
  ∀ w17 : World, w17 = w16.alloc (.cells #[(.slice x520A_1 x520N_1 x520C_1), (.slice x521A_1 x521N_1 x521C_1)] 70 (0, 0)) →
  ∃ (x54A_1 : Option Addr), ∃ (x54N_1 : Nat), ∃ (x54C_1 : Nat), ∃ w18 : World, (Builtin.append_ #[68, 68] 68 #[(.slice pastA pastN pastC), (.slice (some (⟨w16.heap.size, 0, none⟩ : Addr)) 1 1)]).run Tryz.prog w17 = .ok (.slice x54A_1 x54N_1 x54C_1) w18 ∧
  ∃ vk_1 : Nat, vk_1 < vk ∧ vI x54A_1 x54N_1 x54C_1 x47_1A_1 x47_1N_1 x47_1C_1 (IntKind.i64.wrap (i + 1)) vk_1 w18)) ∧ True) ∧
  (decide (i < ((promptN : Nat) : Int)) = false →
  ∀ w19 : World, w19 = w5.alloc (.cells #[] 3 (0, 0)) →
  ∃ vI_1 : Option Addr → Nat → Nat → Option Addr → Nat → Nat → Option Addr → Nat → Nat → Nat → World → Prop, (∃ vk_5 : Nat, vI_1 pastA pastN pastC scoresA scoresN scoresC (some (⟨w5.heap.size, 0, none⟩ : Addr)) 0 0 vk_5 w19) ∧
  ∀ (jk : Nat → Value) (pastA_1 : Option Addr) (pastN_1 : Nat) (pastC_1 : Nat) (scoresA_1 : Option Addr) (scoresN_1 : Nat) (scoresC_1 : Nat) (outA : Option Addr) (outN : Nat) (outC : Nat), ∀ (vk_3 : Nat) (w20 : World), vI_1 pastA_1 pastN_1 pastC_1 scoresA_1 scoresN_1 scoresC_1 outA outN outC vk_3 w20 →
  ∃ J : Int → World → Prop, ((decide (((outN : Nat) : Int) < ((drawsN : Nat) : Int)) = true →
  (0 ≤ ((outN : Nat) : Int) ∧ ((outN : Nat) : Int) < ((drawsN : Nat) : Int)) ∧ someV drawsA fun p_1 =>
  ∃ (x66 : Int), w20.cell? (p_1.add (((outN : Nat) : Int).toNat * 1)) = some (.int .i64 x66) ∧
  J x66 w20) ∧
  (decide (((outN : Nat) : Int) < ((drawsN : Nat) : Int)) = false →
  J 0 w20)) ∧
  ∀ (jk : Nat → Value) (draw : Int), ∀ w21 : World, J draw w21 →
  Calls Tryz.prog 25 #[(.int .i64 draw), (.slice scoresA_1 scoresN_1 scoresC_1)] w21 (Ret fun v_3 w22 => ∃ (x69 : Int), v_3 = (.int .i64 x69) ∧
  ∃ J_1 : Int → World → Prop, ((greedy = true →
  Calls Tryz.prog 26 #[(.slice scoresA_1 scoresN_1 scoresC_1)] w22 (Ret fun v_4 w23 => ∃ (x72 : Int), v_4 = (.int .i64 x72) ∧
  J_1 x72 w23)) ∧
  (greedy = false →
  J_1 x69 w22)) ∧
  ∀ (jk : Nat → Value) (t : Int), ∀ w24 : World, J_1 t w24 →
  ((t == (0 : Int)) = true →
  R (.tuple #[(.slice outA outN outC), (.int .i64 0)]) w24) ∧
  ((t == (0 : Int)) = false →
  ∀ w25 : World, w25 = w24.alloc (.cells #[(.int .i64 t)] 3 (0, 0)) →
  ∃ (x79A : Option Addr), ∃ (x79N : Nat), ∃ (x79C : Nat), ∃ w26 : World, (Builtin.append_ #[39, 39] 39 #[(.slice outA outN outC), (.slice (some (⟨w24.heap.size, 0, none⟩ : Addr)) 1 1)]).run Tryz.prog w25 = .ok (.slice x79A x79N x79C) w26 ∧
  ((((x79N : Nat) : Int) == most) = true →
  R (.tuple #[(.slice x79A x79N x79C), (.int .i64 0)]) w26) ∧
  ((((x79N : Nat) : Int) == most) = false →
  ∃ (x860 : Int), ∃ (x861 : Int), ∃ (x862 : Int), ∃ (x863 : Int), ∃ (x864 : Int), ∃ (x865 : Int), ∃ (x866 : ByteArray), (w26.cell? (⟨w.heap.size, 0, none⟩ : Addr) = some (.int .i64 x860) ∧ w26.cell? (⟨w.heap.size, 1, none⟩ : Addr) = some (.int .i64 x861) ∧ w26.cell? (⟨w.heap.size, 2, none⟩ : Addr) = some (.int .i64 x862) ∧ w26.cell? (⟨w.heap.size, 3, none⟩ : Addr) = some (.int .i64 x863) ∧ w26.cell? (⟨w.heap.size, 4, none⟩ : Addr) = some (.int .i64 x864) ∧ w26.cell? (⟨w.heap.size, 5, none⟩ : Addr) = some (.int .i64 x865) ∧ w26.cell? (⟨w.heap.size, 6, none⟩ : Addr) = some (.string x866)) ∧
  Calls Tryz.prog 24 #[(.agg #[(.int .i64 x860), (.int .i64 x861), (.int .i64 x862), (.int .i64 x863), (.int .i64 x864), (.int .i64 x865), (.string x866)]), (.slice pastA_1 pastN_1 pastC_1), (.int .i64 t)] w26 (Ret fun v_5 w27 => ∃ (x89_00A : Option Addr), ∃ (x89_00N : Nat), ∃ (x89_00C : Nat), ∃ (x89_01A : Option Addr), ∃ (x89_01N : Nat), ∃ (x89_01C : Nat), ∃ (x89_1A : Option Addr), ∃ (x89_1N : Nat), ∃ (x89_1C : Nat), ∃ (x89_2 : Int), v_5 = (.tuple #[(.agg #[(.slice x89_00A x89_00N x89_00C), (.slice x89_01A x89_01N x89_01C)]), (.slice x89_1A x89_1N x89_1C), (.int .i64 x89_2)]) ∧
  ∀ w28 : World, w28 = w27.alloc (.cells #[(.slice none 0 0), (.slice none 0 0)] 70 (0, 0)) →
  (((∃ u, w28.cell? (⟨w27.heap.size, 0, none⟩ : Addr) = some u) ∧ w28.frozen? (⟨w27.heap.size, 0, none⟩ : Addr) = false) ∧ ((∃ u, w28.cell? (⟨w27.heap.size, 1, none⟩ : Addr) = some u) ∧ w28.frozen? (⟨w27.heap.size, 1, none⟩ : Addr) = false)) ∧ ∀ w29 : World, w29 = ((w28.setCell (⟨w27.heap.size, 0, none⟩ : Addr) (.slice x89_00A x89_00N x89_00C)).setCell (⟨w27.heap.size, 1, none⟩ : Addr) (.slice x89_01A x89_01N x89_01C)) →
  ∃ (x940A : Option Addr), ∃ (x940N : Nat), ∃ (x940C : Nat), ∃ (x941A : Option Addr), ∃ (x941N : Nat), ∃ (x941C : Nat), (w29.cell? (⟨w27.heap.size, 0, none⟩ : Addr) = some (.slice x940A x940N x940C) ∧ w29.cell? (⟨w27.heap.size, 1, none⟩ : Addr) = some (.slice x941A x941N x941C)) ∧
  ∀ w30 : World, w30 = w29.alloc (.cells #[(.slice x940A x940N x940C), (.slice x941A x941N x941C)] 70 (0, 0)) →
  ∃ (x96A : Option Addr), ∃ (x96N : Nat), ∃ (x96C : Nat), ∃ w31 : World, (Builtin.append_ #[68, 68] 68 #[(.slice pastA_1 pastN_1 pastC_1), (.slice (some (⟨w29.heap.size, 0, none⟩ : Addr)) 1 1)]).run Tryz.prog w30 = .ok (.slice x96A x96N x96C) w31 ∧
  ∃ vk_4 : Nat, vk_4 < vk_3 ∧ vI_1 x96A x96N x96C x89_1A x89_1N x89_1C x79A x79N x79C vk_4 w31)))))))
theorem coadjutorref18_Gen.vc_eq (m0 : Int) (m1 : Int) (m2 : Int) (m3 : Int) (m4 : Int) (m5 : Int) (m6 : ByteArray) (promptA : Option Addr) (promptN : Nat) (promptC : Nat) (most : Int) (drawsA : Option Addr) (drawsN : Nat) (drawsC : Nat) (greedy : Bool) (w : World) (R : Value → World → Prop) : fnV Tryz.prog Tryz.f11 (.c .nil (.lp [(13, some (.slice)), (14, some (.slice)), (15, some (.int .i64)), (16, none), (17, none), (18, none), (34, none), (35, none), (36, none), (37, none), (38, none), (39, none), (40, none), (41, none), (42, none), (43, none), (44, none), (45, none), (46, none), (47, none), (48, none), (49, none), (50, none), (51, none), (52, none), (53, none), (54, none), (55, none)] (.c (.tk 0 (.tk 1 (.tk 2 (.tk 3 (.tk 4 (.tk 5 (.alt 6 (.tk 7 (.tk 8 (.tk 9 (.tk 10 (.alt 11 (.alt 12 (.tk 13 (.tk 14 (.fin .nil))) .nil) .nil))))) (.alt 11 (.alt 6 (.tk 7 (.tk 8 (.tk 9 (.tk 10 (.alt 12 (.tk 13 (.tk 14 (.fin .nil))) .nil))))) .nil) .nil)))))))) (.lp [(10, none), (11, none), (13, some (.slice)), (14, some (.slice)), (19, some (.slice)), (20, none), (21, none), (22, none), (23, none), (24, none), (57, none), (58, none), (59, none), (60, none), (61, none), (62, none), (63, none), (64, none), (65, none), (66, none), (67, none), (68, none), (69, none), (70, none), (71, none), (72, none), (73, none), (74, none), (75, none), (76, none), (77, none), (78, none), (79, none), (80, none), (81, none), (82, none), (83, none), (84, none), (85, none), (86, none), (87, none), (88, none), (89, none), (90, none), (91, none), (92, none), (93, none), (94, none), (95, none), (96, none), (97, none)] (.cut 1 [(20, some (.int .i64)), (57, none), (58, none), (59, none), (60, none), (61, none), (62, none), (63, none), (64, none), (65, none), (66, none)] (.c .nil .nil) (.cut 1 [(21, some (.int .i64)), (70, none), (71, none), (72, none)] (.c .nil .nil) (.c .nil (.c .nil .nil)))))))) [(.agg #[(.int .i64 m0), (.int .i64 m1), (.int .i64 m2), (.int .i64 m3), (.int .i64 m4), (.int .i64 m5), (.string m6)]), (.slice promptA promptN promptC), (.int .i64 most), (.slice drawsA drawsN drawsC), (.bool greedy)] w R = coadjutorref18_Gen.vc m0 m1 m2 m3 m4 m5 m6 promptA promptN promptC most drawsA drawsN drawsC greedy w R := by kernel_rfl
theorem coadjutorref18_Gen.calls (m0 : Int) (m1 : Int) (m2 : Int) (m3 : Int) (m4 : Int) (m5 : Int) (m6 : ByteArray) (promptA : Option Addr) (promptN : Nat) (promptC : Nat) (most : Int) (drawsA : Option Addr) (drawsN : Nat) (drawsC : Nat) (greedy : Bool) {w : World} {R : Value → World → Prop} (h : coadjutorref18_Gen.vc m0 m1 m2 m3 m4 m5 m6 promptA promptN promptC most drawsA drawsN drawsC greedy w R) : Calls Tryz.prog 11 #[(.agg #[(.int .i64 m0), (.int .i64 m1), (.int .i64 m2), (.int .i64 m3), (.int .i64 m4), (.int .i64 m5), (.string m6)]), (.slice promptA promptN promptC), (.int .i64 most), (.slice drawsA drawsN drawsC), (.bool greedy)] w (Ret R) :=
  calls_V fit Tryz.func11 (.c .nil (.lp [(13, some (.slice)), (14, some (.slice)), (15, some (.int .i64)), (16, none), (17, none), (18, none), (34, none), (35, none), (36, none), (37, none), (38, none), (39, none), (40, none), (41, none), (42, none), (43, none), (44, none), (45, none), (46, none), (47, none), (48, none), (49, none), (50, none), (51, none), (52, none), (53, none), (54, none), (55, none)] (.c (.tk 0 (.tk 1 (.tk 2 (.tk 3 (.tk 4 (.tk 5 (.alt 6 (.tk 7 (.tk 8 (.tk 9 (.tk 10 (.alt 11 (.alt 12 (.tk 13 (.tk 14 (.fin .nil))) .nil) .nil))))) (.alt 11 (.alt 6 (.tk 7 (.tk 8 (.tk 9 (.tk 10 (.alt 12 (.tk 13 (.tk 14 (.fin .nil))) .nil))))) .nil) .nil)))))))) (.lp [(10, none), (11, none), (13, some (.slice)), (14, some (.slice)), (19, some (.slice)), (20, none), (21, none), (22, none), (23, none), (24, none), (57, none), (58, none), (59, none), (60, none), (61, none), (62, none), (63, none), (64, none), (65, none), (66, none), (67, none), (68, none), (69, none), (70, none), (71, none), (72, none), (73, none), (74, none), (75, none), (76, none), (77, none), (78, none), (79, none), (80, none), (81, none), (82, none), (83, none), (84, none), (85, none), (86, none), (87, none), (88, none), (89, none), (90, none), (91, none), (92, none), (93, none), (94, none), (95, none), (96, none), (97, none)] (.cut 1 [(20, some (.int .i64)), (57, none), (58, none), (59, none), (60, none), (61, none), (62, none), (63, none), (64, none), (65, none), (66, none)] (.c .nil .nil) (.cut 1 [(21, some (.int .i64)), (70, none), (71, none), (72, none)] (.c .nil .nil) (.c .nil (.c .nil .nil)))))))) (by rw [show (#[(.agg #[(.int .i64 m0), (.int .i64 m1), (.int .i64 m2), (.int .i64 m3), (.int .i64 m4), (.int .i64 m5), (.string m6)]), (.slice promptA promptN promptC), (.int .i64 most), (.slice drawsA drawsN drawsC), (.bool greedy)] : Array Value).toList = [(.agg #[(.int .i64 m0), (.int .i64 m1), (.int .i64 m2), (.int .i64 m3), (.int .i64 m4), (.int .i64 m5), (.string m6)]), (.slice promptA promptN promptC), (.int .i64 most), (.slice drawsA drawsN drawsC), (.bool greedy)] from rfl, coadjutorref18_Gen.vc_eq]; exact h)
end Go.Proofs.YtbadkcnemcnhfaaGreatDoor.Vc
