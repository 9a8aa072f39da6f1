import Derived.Test.YtfhnegfoglngoaaGreatVc
import Derived.Test.YtfhnegfoglngoaaGreatH
import Derived.Test.YtfhnegfoglngoaaGreatProg
import Derived.KernelRfl
set_option linter.unusedVariables false
set_option maxRecDepth 100000
namespace Go.Proofs.YtfhnegfoglngoaaGreat.Vc
open Go Go.Proofs Go.Proofs.YtfhnegfoglngoaaGreat.V
/-- function 51 -/
def coadjutorref18_Check.vc (m0 : Int) (m1 : Int) (m2 : Int) (m3 : Int) (m4 : Int) (m5 : Int) (m6 : ByteArray) (most : Int) (promptA : Option Addr) (promptN : Nat) (promptC : Nat) (w : World) (R : Value → World → Prop) : Prop :=
  ∀ w1 : World, w1 = w.alloc (.cells #[(.int .i64 m0), (.int .i64 m1), (.int .i64 m2), (.int .i64 m3), (.int .i64 m4), (.int .i64 m5), (.string m6)] 35 (0, 0)) →
  ((((promptN : Nat) : Int) == (0 : Int)) = true →
  R (.int .i64 1) w1) ∧
  ((((promptN : Nat) : Int) == (0 : Int)) = false →
  (decide (most < (1 : Int)) = true →
  R (.int .i64 1) w1) ∧
  (decide (most < (1 : Int)) = false →
  (decide (most > (32 : Int)) = true →
  R (.int .i64 1) w1) ∧
  (decide (most > (32 : Int)) = false →
  ∃ vI : Int → Nat → World → Prop, (∃ vk_2 : Nat, vI 0 vk_2 w1) ∧
  ∀ (jk : Nat → Value) (i : Int), ∀ (vk : Nat) (w2 : World), vI i vk w2 →
  (decide (i < ((promptN : Nat) : Int)) = true →
  ∃ vS : World → Prop, ∀ w3 : World, w3 = w2.drew → vS w3 ∧
  (0 ≤ i ∧ i < ((promptN : Nat) : Int)) ∧ someV promptA fun p =>
  ∃ (x28 : Int), (∀ w4, vS w4 → w4.cell? (p.add (i.toNat * 1)) = some (.int .i64 x28)) ∧
  (decide (x28 < (0 : Int)) = true →
  R (.int .i64 3) w3) ∧
  (decide (x28 < (0 : Int)) = false →
  (0 ≤ i ∧ i < ((promptN : Nat) : Int)) ∧ someV promptA fun p_1 =>
  ∃ (x34 : Int), (∀ w5, vS w5 → w5.cell? (p_1.add (i.toNat * 1)) = some (.int .i64 x34)) ∧
  ∃ (x37 : Int), (∀ w6, vS w6 → w6.cell? (⟨w.heap.size, 0, none⟩ : Addr) = some (.int .i64 x37)) ∧
  (decide (x34 ≥ x37) = true →
  R (.int .i64 3) w3) ∧
  (decide (x34 ≥ x37) = false →
  ∃ vk_1 : Nat, vk_1 < vk ∧ vI (IntKind.i64.wrap (i + 1)) vk_1 w3))) ∧
  (decide (i < ((promptN : Nat) : Int)) = false →
  ∃ (x44 : Int), w2.cell? (⟨w.heap.size, 5, none⟩ : Addr) = some (.int .i64 x44) ∧
  (decide (((promptN : Nat) : Int) > (IntKind.i64.wrap (x44 - most))) = true →
  R (.int .i64 12) w2) ∧
  (decide (((promptN : Nat) : Int) > (IntKind.i64.wrap (x44 - most))) = false →
  R (.int .i64 0) w2)))))
theorem coadjutorref18_Check.vc_eq (m0 : Int) (m1 : Int) (m2 : Int) (m3 : Int) (m4 : Int) (m5 : Int) (m6 : ByteArray) (most : Int) (promptA : Option Addr) (promptN : Nat) (promptC : Nat) (w : World) (R : Value → World → Prop) : fnV Tryz.prog Tryz.f51 (.at_ 1 3 (.k .nil) (.at_ 1 7 (.k .nil) (.c .nil (.lp [(6, none), (7, some (.int .i64)), (19, none), (20, none), (21, none), (22, none), (23, none), (24, none), (25, none), (26, none), (27, none), (28, none), (29, none), (30, none), (31, none), (32, none), (33, none), (34, none), (35, none), (36, none), (37, none), (38, none), (39, none)] (.c (.tk 0 (.tk 1 (.tk 2 (.tk 3 (.tk 4 (.tks 5 (.tk 6 (.tk 7 (.tk 8 (.tk 9 (.tk 10 (.tk 11 (.tk 12 (.tk 13 (.tk 14 (.fin (.k .nil))))))))))) (.tk 6 (.tk 7 (.tk 8 (.tk 9 (.tk 10 (.tk 11 (.tk 12 (.tk 13 (.tk 14 (.fin (.c .nil .nil))))))))))))))))) (.c .nil .nil)))))) [(.agg #[(.int .i64 m0), (.int .i64 m1), (.int .i64 m2), (.int .i64 m3), (.int .i64 m4), (.int .i64 m5), (.string m6)]), (.int .i64 most), (.slice promptA promptN promptC)] w R = coadjutorref18_Check.vc m0 m1 m2 m3 m4 m5 m6 most promptA promptN promptC w R := by kernel_rfl
theorem coadjutorref18_Check.calls (m0 : Int) (m1 : Int) (m2 : Int) (m3 : Int) (m4 : Int) (m5 : Int) (m6 : ByteArray) (most : Int) (promptA : Option Addr) (promptN : Nat) (promptC : Nat) {w : World} {R : Value → World → Prop} (h : coadjutorref18_Check.vc m0 m1 m2 m3 m4 m5 m6 most promptA promptN promptC w R) : Calls Tryz.prog 51 #[(.agg #[(.int .i64 m0), (.int .i64 m1), (.int .i64 m2), (.int .i64 m3), (.int .i64 m4), (.int .i64 m5), (.string m6)]), (.int .i64 most), (.slice promptA promptN promptC)] w (Ret R) :=
  calls_V fit Tryz.func51 (.at_ 1 3 (.k .nil) (.at_ 1 7 (.k .nil) (.c .nil (.lp [(6, none), (7, some (.int .i64)), (19, none), (20, none), (21, none), (22, none), (23, none), (24, none), (25, none), (26, none), (27, none), (28, none), (29, none), (30, none), (31, none), (32, none), (33, none), (34, none), (35, none), (36, none), (37, none), (38, none), (39, none)] (.c (.tk 0 (.tk 1 (.tk 2 (.tk 3 (.tk 4 (.tks 5 (.tk 6 (.tk 7 (.tk 8 (.tk 9 (.tk 10 (.tk 11 (.tk 12 (.tk 13 (.tk 14 (.fin (.k .nil))))))))))) (.tk 6 (.tk 7 (.tk 8 (.tk 9 (.tk 10 (.tk 11 (.tk 12 (.tk 13 (.tk 14 (.fin (.c .nil .nil))))))))))))))))) (.c .nil .nil)))))) (by rw [show (#[(.agg #[(.int .i64 m0), (.int .i64 m1), (.int .i64 m2), (.int .i64 m3), (.int .i64 m4), (.int .i64 m5), (.string m6)]), (.int .i64 most), (.slice promptA promptN promptC)] : Array Value).toList = [(.agg #[(.int .i64 m0), (.int .i64 m1), (.int .i64 m2), (.int .i64 m3), (.int .i64 m4), (.int .i64 m5), (.string m6)]), (.int .i64 most), (.slice promptA promptN promptC)] from rfl, coadjutorref18_Check.vc_eq]; exact h)
/-- function 20 -/
def coadjutorref18_Gen.vc (m0 : Int) (m1 : Int) (m2 : Int) (m3 : Int) (m4 : Int) (m5 : Int) (m6 : ByteArray) (promptA : Option Addr) (promptN : Nat) (promptC : Nat) (most : Int) (drawsA : Option Addr) (drawsN : Nat) (drawsC : Nat) (greedy : Bool) (w : World) (R : Value → World → Prop) : Prop :=
  ∀ w1 : World, w1 = w.alloc (.cells #[(.int .i64 m0), (.int .i64 m1), (.int .i64 m2), (.int .i64 m3), (.int .i64 m4), (.int .i64 m5), (.string m6)] 35 (0, 0)) →
  ∃ (x250 : Int), ∃ (x251 : Int), ∃ (x252 : Int), ∃ (x253 : Int), ∃ (x254 : Int), ∃ (x255 : Int), ∃ (x256 : ByteArray), (w1.cell? (⟨w.heap.size, 0, none⟩ : Addr) = some (.int .i64 x250) ∧ w1.cell? (⟨w.heap.size, 1, none⟩ : Addr) = some (.int .i64 x251) ∧ w1.cell? (⟨w.heap.size, 2, none⟩ : Addr) = some (.int .i64 x252) ∧ w1.cell? (⟨w.heap.size, 3, none⟩ : Addr) = some (.int .i64 x253) ∧ w1.cell? (⟨w.heap.size, 4, none⟩ : Addr) = some (.int .i64 x254) ∧ w1.cell? (⟨w.heap.size, 5, none⟩ : Addr) = some (.int .i64 x255) ∧ w1.cell? (⟨w.heap.size, 6, none⟩ : Addr) = some (.string x256)) ∧
  Calls Tryz.prog 51 #[(.agg #[(.int .i64 x250), (.int .i64 x251), (.int .i64 x252), (.int .i64 x253), (.int .i64 x254), (.int .i64 x255), (.string x256)]), (.int .i64 most), (.slice promptA promptN promptC)] w1 (Ret fun v w2 => ∃ (x28 : Int), v = (.int .i64 x28) ∧
  ((x28 != (0 : Int)) = true →
  R (.tuple #[(.slice none 0 0), (.int .i64 x28)]) w2) ∧
  ((x28 != (0 : Int)) = false →
  ∀ w3 : World, w3 = w2.alloc (.cells #[] 42 (0, 0)) →
  ∀ w4 : World, w4 = w3.alloc (.cells #[] 3 (0, 0)) →
  ∃ vI : Option Addr → Nat → Nat → Option Addr → Nat → Nat → Int → Nat → World → Prop, (∃ vk_2 : Nat, vI (some (⟨w2.heap.size, 0, none⟩ : Addr)) 0 0 (some (⟨w3.heap.size, 0, none⟩ : Addr)) 0 0 0 vk_2 w4) ∧
  ∀ (jk : Nat → Value) (pastA : Option Addr) (pastN : Nat) (pastC : Nat) (scoresA : Option Addr) (scoresN : Nat) (scoresC : Nat) (i : Int), ∀ (vk : Nat) (w5 : World), vI pastA pastN pastC scoresA scoresN scoresC i vk w5 →
  (decide (i < ((promptN : Nat) : Int)) = true →
  ∃ vS : World → Prop, ∀ w6 : World, w6 = w5.drew → vS w6 ∧
  ∃ (x410 : Int), ∃ (x411 : Int), ∃ (x412 : Int), ∃ (x413 : Int), ∃ (x414 : Int), ∃ (x415 : Int), ∃ (x416 : ByteArray), ((∀ w7, vS w7 → w7.cell? (⟨w.heap.size, 0, none⟩ : Addr) = some (.int .i64 x410)) ∧ (∀ w7, vS w7 → w7.cell? (⟨w.heap.size, 1, none⟩ : Addr) = some (.int .i64 x411)) ∧ (∀ w7, vS w7 → w7.cell? (⟨w.heap.size, 2, none⟩ : Addr) = some (.int .i64 x412)) ∧ (∀ w7, vS w7 → w7.cell? (⟨w.heap.size, 3, none⟩ : Addr) = some (.int .i64 x413)) ∧ (∀ w7, vS w7 → w7.cell? (⟨w.heap.size, 4, none⟩ : Addr) = some (.int .i64 x414)) ∧ (∀ w7, vS w7 → w7.cell? (⟨w.heap.size, 5, none⟩ : Addr) = some (.int .i64 x415)) ∧ (∀ w7, vS w7 → w7.cell? (⟨w.heap.size, 6, none⟩ : Addr) = some (.string x416))) ∧
  (0 ≤ i ∧ i < ((promptN : Nat) : Int)) ∧ someV promptA fun p =>
  ∃ (x46 : Int), (∀ w8, vS w8 → w8.cell? (p.add (i.toNat * 1)) = some (.int .i64 x46)) ∧
  (Calls Tryz.prog 15 #[(.agg #[(.int .i64 x410), (.int .i64 x411), (.int .i64 x412), (.int .i64 x413), (.int .i64 x414), (.int .i64 x415), (.string x416)]), (.slice pastA pastN pastC), (.int .i64 x46)] w6 (Ret fun v_1 w9 => ∃ (x47_00A : Option Addr), ∃ (x47_00N : Nat), ∃ (x47_00C : Nat), ∃ (x47_01A : Option Addr), ∃ (x47_01N : Nat), ∃ (x47_01C : Nat), ∃ (x47_1A : Option Addr), ∃ (x47_1N : Nat), ∃ (x47_1C : Nat), ∃ (x47_2 : Int), v_1 = (.tuple #[(.agg #[(.slice x47_00A x47_00N x47_00C), (.slice x47_01A x47_01N x47_01C)]), (.slice x47_1A x47_1N x47_1C), (.int .i64 x47_2)]) ∧
  vS w9 ∧
  ∀ w10 : World, w10 = w9.alloc (.cells #[(.slice none 0 0), (.slice none 0 0)] 42 (0, 0)) →
  vS w10 ∧
  (((∃ u, w10.cell? (⟨w9.heap.size, 0, none⟩ : Addr) = some u) ∧ w10.frozen? (⟨w9.heap.size, 0, none⟩ : Addr) = false) ∧ ((∃ u, w10.cell? (⟨w9.heap.size, 1, none⟩ : Addr) = some u) ∧ w10.frozen? (⟨w9.heap.size, 1, none⟩ : Addr) = false)) ∧ ∀ w11 : World, w11 = ((w10.setCell (⟨w9.heap.size, 0, none⟩ : Addr) (.slice x47_00A x47_00N x47_00C)).setCell (⟨w9.heap.size, 1, none⟩ : Addr) (.slice x47_01A x47_01N x47_01C)) →
  vS w11 ∧
  ∃ (x520A : Option Addr), ∃ (x520N : Nat), ∃ (x520C : Nat), ∃ (x521A : Option Addr), ∃ (x521N : Nat), ∃ (x521C : Nat), (w11.cell? (⟨w9.heap.size, 0, none⟩ : Addr) = some (.slice x520A x520N x520C) ∧ w11.cell? (⟨w9.heap.size, 1, none⟩ : Addr) = some (.slice x521A x521N x521C)) ∧
  ∀ w12 : World, w12 = w11.alloc (.cells #[(.slice x520A x520N x520C), (.slice x521A x521N x521C)] 42 (0, 0)) →
  ∃ (x54A : Option Addr), ∃ (x54N : Nat), ∃ (x54C : Nat), ∃ w13 : World, (Builtin.append_ #[36, 36] 36 #[(.slice pastA pastN pastC), (.slice (some (⟨w11.heap.size, 0, none⟩ : Addr)) 1 1)]).run Tryz.prog w12 = .ok (.slice x54A x54N x54C) w13 ∧
  ∃ vk_1 : Nat, vk_1 < vk ∧ vI x54A x54N x54C x47_1A x47_1N x47_1C (IntKind.i64.wrap (i + 1)) vk_1 w13)) ∧ (∀ w14 : World, w14 = w6.alloc (.cells #[(.slice none 0 0), (.slice none 0 0)] 42 (0, 0)) →
  vS w14 ∧
  Calls Tryz.prog 15 #[(.agg #[(.int .i64 x410), (.int .i64 x411), (.int .i64 x412), (.int .i64 x413), (.int .i64 x414), (.int .i64 x415), (.string x416)]), (.slice pastA pastN pastC), (.int .i64 x46)] w14 (Ret fun v_2 w15 => ∃ (x47_00A_1 : Option Addr), ∃ (x47_00N_1 : Nat), ∃ (x47_00C_1 : Nat), ∃ (x47_01A_1 : Option Addr), ∃ (x47_01N_1 : Nat), ∃ (x47_01C_1 : Nat), ∃ (x47_1A_1 : Option Addr), ∃ (x47_1N_1 : Nat), ∃ (x47_1C_1 : Nat), ∃ (x47_2_1 : Int), v_2 = (.tuple #[(.agg #[(.slice x47_00A_1 x47_00N_1 x47_00C_1), (.slice x47_01A_1 x47_01N_1 x47_01C_1)]), (.slice x47_1A_1 x47_1N_1 x47_1C_1), (.int .i64 x47_2_1)]) ∧
  vS w15 ∧
  (((∃ u, w15.cell? (⟨w6.heap.size, 0, none⟩ : Addr) = some u) ∧ w15.frozen? (⟨w6.heap.size, 0, none⟩ : Addr) = false) ∧ ((∃ u, w15.cell? (⟨w6.heap.size, 1, none⟩ : Addr) = some u) ∧ w15.frozen? (⟨w6.heap.size, 1, none⟩ : Addr) = false)) ∧ ∀ w16 : World, w16 = ((w15.setCell (⟨w6.heap.size, 0, none⟩ : Addr) (.slice x47_00A_1 x47_00N_1 x47_00C_1)).setCell (⟨w6.heap.size, 1, none⟩ : Addr) (.slice x47_01A_1 x47_01N_1 x47_01C_1)) →
  vS w16 ∧
  ∃ (x520A_1 : Option Addr), ∃ (x520N_1 : Nat), ∃ (x520C_1 : Nat), ∃ (x521A_1 : Option Addr), ∃ (x521N_1 : Nat), ∃ (x521C_1 : Nat), (w16.cell? (⟨w6.heap.size, 0, none⟩ : Addr) = some (.slice x520A_1 x520N_1 x520C_1) ∧ w16.cell? (⟨w6.heap.size, 1, none⟩ : Addr) = some (.slice x521A_1 x521N_1 x521C_1)) ∧
  ∀ w17 : World, w17 = w16.alloc (.cells #[(.slice x520A_1 x520N_1 x520C_1), (.slice x521A_1 x521N_1 x521C_1)] 42 (0, 0)) →
  ∃ (x54A_1 : Option Addr), ∃ (x54N_1 : Nat), ∃ (x54C_1 : Nat), ∃ w18 : World, (Builtin.append_ #[36, 36] 36 #[(.slice pastA pastN pastC), (.slice (some (⟨w16.heap.size, 0, none⟩ : Addr)) 1 1)]).run Tryz.prog w17 = .ok (.slice x54A_1 x54N_1 x54C_1) w18 ∧
  ∃ vk_1 : Nat, vk_1 < vk ∧ vI x54A_1 x54N_1 x54C_1 x47_1A_1 x47_1N_1 x47_1C_1 (IntKind.i64.wrap (i + 1)) vk_1 w18)) ∧ True) ∧
  (decide (i < ((promptN : Nat) : Int)) = false →
  ∀ w19 : World, w19 = w5.alloc (.cells #[] 3 (0, 0)) →
  ∃ vI_1 : Option Addr → Nat → Nat → Option Addr → Nat → Nat → Option Addr → Nat → Nat → Nat → World → Prop, (∃ vk_5 : Nat, vI_1 pastA pastN pastC scoresA scoresN scoresC (some (⟨w5.heap.size, 0, none⟩ : Addr)) 0 0 vk_5 w19) ∧
  ∀ (jk : Nat → Value) (pastA_1 : Option Addr) (pastN_1 : Nat) (pastC_1 : Nat) (scoresA_1 : Option Addr) (scoresN_1 : Nat) (scoresC_1 : Nat) (outA : Option Addr) (outN : Nat) (outC : Nat), ∀ (vk_3 : Nat) (w20 : World), vI_1 pastA_1 pastN_1 pastC_1 scoresA_1 scoresN_1 scoresC_1 outA outN outC vk_3 w20 →
  ∃ J : Int → World → Prop, ((decide (((outN : Nat) : Int) < ((drawsN : Nat) : Int)) = true →
  (0 ≤ ((outN : Nat) : Int) ∧ ((outN : Nat) : Int) < ((drawsN : Nat) : Int)) ∧ someV drawsA fun p_1 =>
  ∃ (x66 : Int), w20.cell? (p_1.add (((outN : Nat) : Int).toNat * 1)) = some (.int .i64 x66) ∧
  J x66 w20) ∧
  (decide (((outN : Nat) : Int) < ((drawsN : Nat) : Int)) = false →
  J 0 w20)) ∧
  ∀ (jk : Nat → Value) (draw : Int), ∀ w21 : World, J draw w21 →
  Calls Tryz.prog 52 #[(.int .i64 draw), (.slice scoresA_1 scoresN_1 scoresC_1)] w21 (Ret fun v_3 w22 => ∃ (x69 : Int), v_3 = (.int .i64 x69) ∧
  ∃ J_1 : Int → World → Prop, ((greedy = true →
  Calls Tryz.prog 53 #[(.slice scoresA_1 scoresN_1 scoresC_1)] w22 (Ret fun v_4 w23 => ∃ (x72 : Int), v_4 = (.int .i64 x72) ∧
  J_1 x72 w23)) ∧
  (greedy = false →
  J_1 x69 w22)) ∧
  ∀ (jk : Nat → Value) (t : Int), ∀ w24 : World, J_1 t w24 →
  ((t == (0 : Int)) = true →
  R (.tuple #[(.slice outA outN outC), (.int .i64 0)]) w24) ∧
  ((t == (0 : Int)) = false →
  ∀ w25 : World, w25 = w24.alloc (.cells #[(.int .i64 t)] 3 (0, 0)) →
  ∃ (x79A : Option Addr), ∃ (x79N : Nat), ∃ (x79C : Nat), ∃ w26 : World, (Builtin.append_ #[45, 45] 45 #[(.slice outA outN outC), (.slice (some (⟨w24.heap.size, 0, none⟩ : Addr)) 1 1)]).run Tryz.prog w25 = .ok (.slice x79A x79N x79C) w26 ∧
  ((((x79N : Nat) : Int) == most) = true →
  R (.tuple #[(.slice x79A x79N x79C), (.int .i64 0)]) w26) ∧
  ((((x79N : Nat) : Int) == most) = false →
  ∃ (x860 : Int), ∃ (x861 : Int), ∃ (x862 : Int), ∃ (x863 : Int), ∃ (x864 : Int), ∃ (x865 : Int), ∃ (x866 : ByteArray), (w26.cell? (⟨w.heap.size, 0, none⟩ : Addr) = some (.int .i64 x860) ∧ w26.cell? (⟨w.heap.size, 1, none⟩ : Addr) = some (.int .i64 x861) ∧ w26.cell? (⟨w.heap.size, 2, none⟩ : Addr) = some (.int .i64 x862) ∧ w26.cell? (⟨w.heap.size, 3, none⟩ : Addr) = some (.int .i64 x863) ∧ w26.cell? (⟨w.heap.size, 4, none⟩ : Addr) = some (.int .i64 x864) ∧ w26.cell? (⟨w.heap.size, 5, none⟩ : Addr) = some (.int .i64 x865) ∧ w26.cell? (⟨w.heap.size, 6, none⟩ : Addr) = some (.string x866)) ∧
  Calls Tryz.prog 15 #[(.agg #[(.int .i64 x860), (.int .i64 x861), (.int .i64 x862), (.int .i64 x863), (.int .i64 x864), (.int .i64 x865), (.string x866)]), (.slice pastA_1 pastN_1 pastC_1), (.int .i64 t)] w26 (Ret fun v_5 w27 => ∃ (x89_00A : Option Addr), ∃ (x89_00N : Nat), ∃ (x89_00C : Nat), ∃ (x89_01A : Option Addr), ∃ (x89_01N : Nat), ∃ (x89_01C : Nat), ∃ (x89_1A : Option Addr), ∃ (x89_1N : Nat), ∃ (x89_1C : Nat), ∃ (x89_2 : Int), v_5 = (.tuple #[(.agg #[(.slice x89_00A x89_00N x89_00C), (.slice x89_01A x89_01N x89_01C)]), (.slice x89_1A x89_1N x89_1C), (.int .i64 x89_2)]) ∧
  ∀ w28 : World, w28 = w27.alloc (.cells #[(.slice none 0 0), (.slice none 0 0)] 42 (0, 0)) →
  (((∃ u, w28.cell? (⟨w27.heap.size, 0, none⟩ : Addr) = some u) ∧ w28.frozen? (⟨w27.heap.size, 0, none⟩ : Addr) = false) ∧ ((∃ u, w28.cell? (⟨w27.heap.size, 1, none⟩ : Addr) = some u) ∧ w28.frozen? (⟨w27.heap.size, 1, none⟩ : Addr) = false)) ∧ ∀ w29 : World, w29 = ((w28.setCell (⟨w27.heap.size, 0, none⟩ : Addr) (.slice x89_00A x89_00N x89_00C)).setCell (⟨w27.heap.size, 1, none⟩ : Addr) (.slice x89_01A x89_01N x89_01C)) →
  ∃ (x940A : Option Addr), ∃ (x940N : Nat), ∃ (x940C : Nat), ∃ (x941A : Option Addr), ∃ (x941N : Nat), ∃ (x941C : Nat), (w29.cell? (⟨w27.heap.size, 0, none⟩ : Addr) = some (.slice x940A x940N x940C) ∧ w29.cell? (⟨w27.heap.size, 1, none⟩ : Addr) = some (.slice x941A x941N x941C)) ∧
  ∀ w30 : World, w30 = w29.alloc (.cells #[(.slice x940A x940N x940C), (.slice x941A x941N x941C)] 42 (0, 0)) →
  ∃ (x96A : Option Addr), ∃ (x96N : Nat), ∃ (x96C : Nat), ∃ w31 : World, (Builtin.append_ #[36, 36] 36 #[(.slice pastA_1 pastN_1 pastC_1), (.slice (some (⟨w29.heap.size, 0, none⟩ : Addr)) 1 1)]).run Tryz.prog w30 = .ok (.slice x96A x96N x96C) w31 ∧
  ∃ vk_4 : Nat, vk_4 < vk_3 ∧ vI_1 x96A x96N x96C x89_1A x89_1N x89_1C x79A x79N x79C vk_4 w31)))))))
theorem coadjutorref18_Gen.vc_eq (m0 : Int) (m1 : Int) (m2 : Int) (m3 : Int) (m4 : Int) (m5 : Int) (m6 : ByteArray) (promptA : Option Addr) (promptN : Nat) (promptC : Nat) (most : Int) (drawsA : Option Addr) (drawsN : Nat) (drawsC : Nat) (greedy : Bool) (w : World) (R : Value → World → Prop) : fnV Tryz.prog Tryz.f20 (.c .nil (.lp [(13, some (.slice)), (14, some (.slice)), (15, some (.int .i64)), (16, none), (17, none), (18, none), (34, none), (35, none), (36, none), (37, none), (38, none), (39, none), (40, none), (41, none), (42, none), (43, none), (44, none), (45, none), (46, none), (47, none), (48, none), (49, none), (50, none), (51, none), (52, none), (53, none), (54, none), (55, none)] (.c (.tk 0 (.tk 1 (.tk 2 (.tk 3 (.tk 4 (.tk 5 (.alt 6 (.tk 7 (.tk 8 (.tk 9 (.tk 10 (.alt 11 (.alt 12 (.tk 13 (.tk 14 (.fin .nil))) .nil) .nil))))) (.alt 11 (.alt 6 (.tk 7 (.tk 8 (.tk 9 (.tk 10 (.alt 12 (.tk 13 (.tk 14 (.fin .nil))) .nil))))) .nil) .nil)))))))) (.lp [(10, none), (11, none), (13, some (.slice)), (14, some (.slice)), (19, some (.slice)), (20, none), (21, none), (22, none), (23, none), (24, none), (57, none), (58, none), (59, none), (60, none), (61, none), (62, none), (63, none), (64, none), (65, none), (66, none), (67, none), (68, none), (69, none), (70, none), (71, none), (72, none), (73, none), (74, none), (75, none), (76, none), (77, none), (78, none), (79, none), (80, none), (81, none), (82, none), (83, none), (84, none), (85, none), (86, none), (87, none), (88, none), (89, none), (90, none), (91, none), (92, none), (93, none), (94, none), (95, none), (96, none), (97, none)] (.cut 1 [(20, some (.int .i64)), (57, none), (58, none), (59, none), (60, none), (61, none), (62, none), (63, none), (64, none), (65, none), (66, none)] (.c .nil .nil) (.cut 1 [(21, some (.int .i64)), (70, none), (71, none), (72, none)] (.c .nil .nil) (.c .nil (.c .nil .nil)))))))) [(.agg #[(.int .i64 m0), (.int .i64 m1), (.int .i64 m2), (.int .i64 m3), (.int .i64 m4), (.int .i64 m5), (.string m6)]), (.slice promptA promptN promptC), (.int .i64 most), (.slice drawsA drawsN drawsC), (.bool greedy)] w R = coadjutorref18_Gen.vc m0 m1 m2 m3 m4 m5 m6 promptA promptN promptC most drawsA drawsN drawsC greedy w R := by kernel_rfl
theorem coadjutorref18_Gen.calls (m0 : Int) (m1 : Int) (m2 : Int) (m3 : Int) (m4 : Int) (m5 : Int) (m6 : ByteArray) (promptA : Option Addr) (promptN : Nat) (promptC : Nat) (most : Int) (drawsA : Option Addr) (drawsN : Nat) (drawsC : Nat) (greedy : Bool) {w : World} {R : Value → World → Prop} (h : coadjutorref18_Gen.vc m0 m1 m2 m3 m4 m5 m6 promptA promptN promptC most drawsA drawsN drawsC greedy w R) : Calls Tryz.prog 20 #[(.agg #[(.int .i64 m0), (.int .i64 m1), (.int .i64 m2), (.int .i64 m3), (.int .i64 m4), (.int .i64 m5), (.string m6)]), (.slice promptA promptN promptC), (.int .i64 most), (.slice drawsA drawsN drawsC), (.bool greedy)] w (Ret R) :=
  calls_V fit Tryz.func20 (.c .nil (.lp [(13, some (.slice)), (14, some (.slice)), (15, some (.int .i64)), (16, none), (17, none), (18, none), (34, none), (35, none), (36, none), (37, none), (38, none), (39, none), (40, none), (41, none), (42, none), (43, none), (44, none), (45, none), (46, none), (47, none), (48, none), (49, none), (50, none), (51, none), (52, none), (53, none), (54, none), (55, none)] (.c (.tk 0 (.tk 1 (.tk 2 (.tk 3 (.tk 4 (.tk 5 (.alt 6 (.tk 7 (.tk 8 (.tk 9 (.tk 10 (.alt 11 (.alt 12 (.tk 13 (.tk 14 (.fin .nil))) .nil) .nil))))) (.alt 11 (.alt 6 (.tk 7 (.tk 8 (.tk 9 (.tk 10 (.alt 12 (.tk 13 (.tk 14 (.fin .nil))) .nil))))) .nil) .nil)))))))) (.lp [(10, none), (11, none), (13, some (.slice)), (14, some (.slice)), (19, some (.slice)), (20, none), (21, none), (22, none), (23, none), (24, none), (57, none), (58, none), (59, none), (60, none), (61, none), (62, none), (63, none), (64, none), (65, none), (66, none), (67, none), (68, none), (69, none), (70, none), (71, none), (72, none), (73, none), (74, none), (75, none), (76, none), (77, none), (78, none), (79, none), (80, none), (81, none), (82, none), (83, none), (84, none), (85, none), (86, none), (87, none), (88, none), (89, none), (90, none), (91, none), (92, none), (93, none), (94, none), (95, none), (96, none), (97, none)] (.cut 1 [(20, some (.int .i64)), (57, none), (58, none), (59, none), (60, none), (61, none), (62, none), (63, none), (64, none), (65, none), (66, none)] (.c .nil .nil) (.cut 1 [(21, some (.int .i64)), (70, none), (71, none), (72, none)] (.c .nil .nil) (.c .nil (.c .nil .nil)))))))) (by rw [show (#[(.agg #[(.int .i64 m0), (.int .i64 m1), (.int .i64 m2), (.int .i64 m3), (.int .i64 m4), (.int .i64 m5), (.string m6)]), (.slice promptA promptN promptC), (.int .i64 most), (.slice drawsA drawsN drawsC), (.bool greedy)] : Array Value).toList = [(.agg #[(.int .i64 m0), (.int .i64 m1), (.int .i64 m2), (.int .i64 m3), (.int .i64 m4), (.int .i64 m5), (.string m6)]), (.slice promptA promptN promptC), (.int .i64 most), (.slice drawsA drawsN drawsC), (.bool greedy)] from rfl, coadjutorref18_Gen.vc_eq]; exact h)
/-- function 4 -/
def coadjutorlaw18_GenExact.vc (c0 : Int) (c1 : Int) (c2 : Int) (c3 : Int) (c4 : Int) (c5 : Int) (weights : ByteArray) (promptA : Option Addr) (promptN : Nat) (promptC : Nat) (most : Int) (drawsA : Option Addr) (drawsN : Nat) (drawsC : Nat) (w : World) (R : Value → World → Prop) : Prop :=
  ∀ w1 : World, w1 = w.alloc (.cells #[(.int .i64 c0), (.int .i64 c1), (.int .i64 c2), (.int .i64 c3), (.int .i64 c4), (.int .i64 c5)] 23 (0, 0)) →
  Calls Tryz.prog 17 #[] w1 (Ret fun v w2 => ∃ (x26 : Bool), v = (.bool x26) ∧
  ((!x26) = true →
  R (.bool false) w2) ∧
  ((!x26) = false →
  (decide (((promptN : Nat) : Int) > (20 : Int)) = true →
  R (.bool true) w2) ∧
  (decide (((promptN : Nat) : Int) > (20 : Int)) = false →
  (decide (((drawsN : Nat) : Int) > (20 : Int)) = true →
  R (.bool true) w2) ∧
  (decide (((drawsN : Nat) : Int) > (20 : Int)) = false →
  ∃ (x370 : Int), ∃ (x371 : Int), ∃ (x372 : Int), ∃ (x373 : Int), ∃ (x374 : Int), ∃ (x375 : Int), (w2.cell? (⟨w.heap.size, 0, none⟩ : Addr) = some (.int .i64 x370) ∧ w2.cell? (⟨w.heap.size, 1, none⟩ : Addr) = some (.int .i64 x371) ∧ w2.cell? (⟨w.heap.size, 2, none⟩ : Addr) = some (.int .i64 x372) ∧ w2.cell? (⟨w.heap.size, 3, none⟩ : Addr) = some (.int .i64 x373) ∧ w2.cell? (⟨w.heap.size, 4, none⟩ : Addr) = some (.int .i64 x374) ∧ w2.cell? (⟨w.heap.size, 5, none⟩ : Addr) = some (.int .i64 x375)) ∧
  Calls Tryz.prog 18 #[(.agg #[(.int .i64 x370), (.int .i64 x371), (.int .i64 x372), (.int .i64 x373), (.int .i64 x374), (.int .i64 x375)])] w2 (Ret fun v_1 w3 => ∃ (x38 : Bool), v_1 = (.bool x38) ∧
  ((!x38) = true →
  R (.bool true) w3) ∧
  ((!x38) = false →
  (decide (((weights.size : Nat) : Int) > (2048 : Int)) = true →
  R (.bool true) w3) ∧
  (decide (((weights.size : Nat) : Int) > (2048 : Int)) = false →
  ∃ (x470 : Int), ∃ (x471 : Int), ∃ (x472 : Int), ∃ (x473 : Int), ∃ (x474 : Int), ∃ (x475 : Int), (w3.cell? (⟨w.heap.size, 0, none⟩ : Addr) = some (.int .i64 x470) ∧ w3.cell? (⟨w.heap.size, 1, none⟩ : Addr) = some (.int .i64 x471) ∧ w3.cell? (⟨w.heap.size, 2, none⟩ : Addr) = some (.int .i64 x472) ∧ w3.cell? (⟨w.heap.size, 3, none⟩ : Addr) = some (.int .i64 x473) ∧ w3.cell? (⟨w.heap.size, 4, none⟩ : Addr) = some (.int .i64 x474) ∧ w3.cell? (⟨w.heap.size, 5, none⟩ : Addr) = some (.int .i64 x475)) ∧
  Calls Tryz.prog 7 #[(.agg #[(.int .i64 x470), (.int .i64 x471), (.int .i64 x472), (.int .i64 x473), (.int .i64 x474), (.int .i64 x475)]), (.string weights)] w3 (Ret fun v_2 w4 => ∃ (x49_0 : Option Addr), ∃ (x49_1 : Int), v_2 = (.tuple #[(.pointer x49_0), (.int .i64 x49_1)]) ∧
  ((x49_1 != (0 : Int)) = true →
  R (.bool x49_0.isNone) w4) ∧
  ((x49_1 != (0 : Int)) = false →
  ∃ (x560 : Int), ∃ (x561 : Int), ∃ (x562 : Int), ∃ (x563 : Int), ∃ (x564 : Int), ∃ (x565 : Int), (w4.cell? (⟨w.heap.size, 0, none⟩ : Addr) = some (.int .i64 x560) ∧ w4.cell? (⟨w.heap.size, 1, none⟩ : Addr) = some (.int .i64 x561) ∧ w4.cell? (⟨w.heap.size, 2, none⟩ : Addr) = some (.int .i64 x562) ∧ w4.cell? (⟨w.heap.size, 3, none⟩ : Addr) = some (.int .i64 x563) ∧ w4.cell? (⟨w.heap.size, 4, none⟩ : Addr) = some (.int .i64 x564) ∧ w4.cell? (⟨w.heap.size, 5, none⟩ : Addr) = some (.int .i64 x565)) ∧
  ∀ w5 : World, w5 = w4.alloc (.cells #[(.int .i64 0), (.int .i64 0), (.int .i64 0), (.int .i64 0), (.int .i64 0), (.int .i64 0), (.string ByteArray.empty)] 35 (0, 0)) →
  (((∃ u, w5.cell? (⟨w4.heap.size, 0, none⟩ : Addr) = some u) ∧ w5.frozen? (⟨w4.heap.size, 0, none⟩ : Addr) = false) ∧ ((∃ u, w5.cell? (⟨w4.heap.size, 1, none⟩ : Addr) = some u) ∧ w5.frozen? (⟨w4.heap.size, 1, none⟩ : Addr) = false) ∧ ((∃ u, w5.cell? (⟨w4.heap.size, 2, none⟩ : Addr) = some u) ∧ w5.frozen? (⟨w4.heap.size, 2, none⟩ : Addr) = false) ∧ ((∃ u, w5.cell? (⟨w4.heap.size, 3, none⟩ : Addr) = some u) ∧ w5.frozen? (⟨w4.heap.size, 3, none⟩ : Addr) = false) ∧ ((∃ u, w5.cell? (⟨w4.heap.size, 4, none⟩ : Addr) = some u) ∧ w5.frozen? (⟨w4.heap.size, 4, none⟩ : Addr) = false) ∧ ((∃ u, w5.cell? (⟨w4.heap.size, 5, none⟩ : Addr) = some u) ∧ w5.frozen? (⟨w4.heap.size, 5, none⟩ : Addr) = false) ∧ ((∃ u, w5.cell? (⟨w4.heap.size, 6, none⟩ : Addr) = some u) ∧ w5.frozen? (⟨w4.heap.size, 6, none⟩ : Addr) = false)) ∧ ∀ w6 : World, w6 = (((((((w5.setCell (⟨w4.heap.size, 0, none⟩ : Addr) (.int .i64 x560)).setCell (⟨w4.heap.size, 1, none⟩ : Addr) (.int .i64 x561)).setCell (⟨w4.heap.size, 2, none⟩ : Addr) (.int .i64 x562)).setCell (⟨w4.heap.size, 3, none⟩ : Addr) (.int .i64 x563)).setCell (⟨w4.heap.size, 4, none⟩ : Addr) (.int .i64 x564)).setCell (⟨w4.heap.size, 5, none⟩ : Addr) (.int .i64 x565)).setCell (⟨w4.heap.size, 6, none⟩ : Addr) (.string weights)) →
  Calls Tryz.prog 19 #[(.pointer x49_0), (.slice promptA promptN promptC), (.int .i64 most), (.slice drawsA drawsN drawsC)] w6 (Ret fun v_3 w7 => ∃ (x64_0A : Option Addr), ∃ (x64_0N : Nat), ∃ (x64_0C : Nat), ∃ (x64_1 : Int), v_3 = (.tuple #[(.slice x64_0A x64_0N x64_0C), (.int .i64 x64_1)]) ∧
  ∃ (x680 : Int), ∃ (x681 : Int), ∃ (x682 : Int), ∃ (x683 : Int), ∃ (x684 : Int), ∃ (x685 : Int), ∃ (x686 : ByteArray), (w7.cell? (⟨w4.heap.size, 0, none⟩ : Addr) = some (.int .i64 x680) ∧ w7.cell? (⟨w4.heap.size, 1, none⟩ : Addr) = some (.int .i64 x681) ∧ w7.cell? (⟨w4.heap.size, 2, none⟩ : Addr) = some (.int .i64 x682) ∧ w7.cell? (⟨w4.heap.size, 3, none⟩ : Addr) = some (.int .i64 x683) ∧ w7.cell? (⟨w4.heap.size, 4, none⟩ : Addr) = some (.int .i64 x684) ∧ w7.cell? (⟨w4.heap.size, 5, none⟩ : Addr) = some (.int .i64 x685) ∧ w7.cell? (⟨w4.heap.size, 6, none⟩ : Addr) = some (.string x686)) ∧
  Calls Tryz.prog 20 #[(.agg #[(.int .i64 x680), (.int .i64 x681), (.int .i64 x682), (.int .i64 x683), (.int .i64 x684), (.int .i64 x685), (.string x686)]), (.slice promptA promptN promptC), (.int .i64 most), (.slice drawsA drawsN drawsC), (.bool false)] w7 (Ret fun v_4 w8 => ∃ (x72_0A : Option Addr), ∃ (x72_0N : Nat), ∃ (x72_0C : Nat), ∃ (x72_1 : Int), v_4 = (.tuple #[(.slice x72_0A x72_0N x72_0C), (.int .i64 x72_1)]) ∧
  Calls Tryz.prog 21 #[(.pointer x49_0), (.slice promptA promptN promptC), (.int .i64 most)] w8 (Ret fun v_5 w9 => ∃ (x79_0A : Option Addr), ∃ (x79_0N : Nat), ∃ (x79_0C : Nat), ∃ (x79_1 : Int), v_5 = (.tuple #[(.slice x79_0A x79_0N x79_0C), (.int .i64 x79_1)]) ∧
  ∃ (x830 : Int), ∃ (x831 : Int), ∃ (x832 : Int), ∃ (x833 : Int), ∃ (x834 : Int), ∃ (x835 : Int), ∃ (x836 : ByteArray), (w9.cell? (⟨w4.heap.size, 0, none⟩ : Addr) = some (.int .i64 x830) ∧ w9.cell? (⟨w4.heap.size, 1, none⟩ : Addr) = some (.int .i64 x831) ∧ w9.cell? (⟨w4.heap.size, 2, none⟩ : Addr) = some (.int .i64 x832) ∧ w9.cell? (⟨w4.heap.size, 3, none⟩ : Addr) = some (.int .i64 x833) ∧ w9.cell? (⟨w4.heap.size, 4, none⟩ : Addr) = some (.int .i64 x834) ∧ w9.cell? (⟨w4.heap.size, 5, none⟩ : Addr) = some (.int .i64 x835) ∧ w9.cell? (⟨w4.heap.size, 6, none⟩ : Addr) = some (.string x836)) ∧
  Calls Tryz.prog 20 #[(.agg #[(.int .i64 x830), (.int .i64 x831), (.int .i64 x832), (.int .i64 x833), (.int .i64 x834), (.int .i64 x835), (.string x836)]), (.slice promptA promptN promptC), (.int .i64 most), (.slice none 0 0), (.bool true)] w9 (Ret fun v_6 w10 => ∃ (x86_0A : Option Addr), ∃ (x86_0N : Nat), ∃ (x86_0C : Nat), ∃ (x86_1 : Int), v_6 = (.tuple #[(.slice x86_0A x86_0N x86_0C), (.int .i64 x86_1)]) ∧
  ((x64_1 != x72_1) = true →
  R (.bool false) w10) ∧
  ((x64_1 != x72_1) = false →
  Calls Tryz.prog 22 #[(.slice x64_0A x64_0N x64_0C), (.slice x72_0A x72_0N x72_0C)] w10 (Ret fun v_7 w11 => ∃ (x95 : Bool), v_7 = (.bool x95) ∧
  ((!x95) = true →
  R (.bool false) w11) ∧
  ((!x95) = false →
  ((x79_1 != x86_1) = true →
  R (.bool false) w11) ∧
  ((x79_1 != x86_1) = false →
  Calls Tryz.prog 22 #[(.slice x79_0A x79_0N x79_0C), (.slice x86_0A x86_0N x86_0C)] w11 (Ret fun v_8 w12 => ∃ (x106 : Bool), v_8 = (.bool x106) ∧
  ((!x106) = true →
  R (.bool false) w12) ∧
  ((!x106) = false →
  Calls Tryz.prog 23 #[(.pointer x49_0), (.int .i64 most), (.slice promptA promptN promptC)] w12 (Ret fun v_9 w13 => ∃ (x113 : Int), v_9 = (.int .i64 x113) ∧
  ((x113 != x72_1) = true →
  R (.bool false) w13) ∧
  ((x113 != x72_1) = false →
  Calls Tryz.prog 19 #[(.pointer none), (.slice promptA promptN promptC), (.int .i64 most), (.slice none 0 0)] w13 (Ret fun v_10 w14 => ∃ (x120_0A : Option Addr), ∃ (x120_0N : Nat), ∃ (x120_0C : Nat), ∃ (x120_1 : Int), v_10 = (.tuple #[(.slice x120_0A x120_0N x120_0C), (.int .i64 x120_1)]) ∧
  Calls Tryz.prog 21 #[(.pointer none), (.slice promptA promptN promptC), (.int .i64 most)] w14 (Ret fun v_11 w15 => ∃ (x126_0A : Option Addr), ∃ (x126_0N : Nat), ∃ (x126_0C : Nat), ∃ (x126_1 : Int), v_11 = (.tuple #[(.slice x126_0A x126_0N x126_0C), (.int .i64 x126_1)]) ∧
  ((x120_1 == (2 : Int)) = true →
  ((x126_1 == (2 : Int)) = true →
  Calls Tryz.prog 23 #[(.pointer none), (.int .i64 most), (.slice none 0 0)] w15 (Ret fun v_12 w16 => ∃ (x137 : Int), v_12 = (.int .i64 x137) ∧
  R (.bool (x137 == (2 : Int))) w16)) ∧
  ((x126_1 == (2 : Int)) = false →
  R (.bool false) w15)) ∧
  ((x120_1 == (2 : Int)) = false →
  R (.bool false) w15))))))))))))))))))))))))
theorem coadjutorlaw18_GenExact.vc_eq (c0 : Int) (c1 : Int) (c2 : Int) (c3 : Int) (c4 : Int) (c5 : Int) (weights : ByteArray) (promptA : Option Addr) (promptN : Nat) (promptC : Nat) (most : Int) (drawsA : Option Addr) (drawsN : Nat) (drawsC : Nat) (w : World) (R : Value → World → Prop) : fnV Tryz.prog Tryz.f4 (.c .nil (.at_ 3 3 (.k .nil) (.at_ 3 8 (.k .nil) (.at_ 3 13 (.k .nil) (.c .nil (.c .nil (.at_ 13 3 (.k .nil) (.at_ 13 9 (.k .nil) (.at_ 13 14 (.k .nil) (.at_ 13 20 (.k .nil) (.c .nil (.at_ 17 2 (.at_ 17 6 .nil .nil) .nil)))))))))))) [(.agg #[(.int .i64 c0), (.int .i64 c1), (.int .i64 c2), (.int .i64 c3), (.int .i64 c4), (.int .i64 c5)]), (.string weights), (.slice promptA promptN promptC), (.int .i64 most), (.slice drawsA drawsN drawsC)] w R = coadjutorlaw18_GenExact.vc c0 c1 c2 c3 c4 c5 weights promptA promptN promptC most drawsA drawsN drawsC w R := by kernel_rfl
theorem coadjutorlaw18_GenExact.calls (c0 : Int) (c1 : Int) (c2 : Int) (c3 : Int) (c4 : Int) (c5 : Int) (weights : ByteArray) (promptA : Option Addr) (promptN : Nat) (promptC : Nat) (most : Int) (drawsA : Option Addr) (drawsN : Nat) (drawsC : Nat) {w : World} {R : Value → World → Prop} (h : coadjutorlaw18_GenExact.vc c0 c1 c2 c3 c4 c5 weights promptA promptN promptC most drawsA drawsN drawsC w R) : Calls Tryz.prog 4 #[(.agg #[(.int .i64 c0), (.int .i64 c1), (.int .i64 c2), (.int .i64 c3), (.int .i64 c4), (.int .i64 c5)]), (.string weights), (.slice promptA promptN promptC), (.int .i64 most), (.slice drawsA drawsN drawsC)] w (Ret R) :=
  calls_V fit Tryz.func4 (.c .nil (.at_ 3 3 (.k .nil) (.at_ 3 8 (.k .nil) (.at_ 3 13 (.k .nil) (.c .nil (.c .nil (.at_ 13 3 (.k .nil) (.at_ 13 9 (.k .nil) (.at_ 13 14 (.k .nil) (.at_ 13 20 (.k .nil) (.c .nil (.at_ 17 2 (.at_ 17 6 .nil .nil) .nil)))))))))))) (by rw [show (#[(.agg #[(.int .i64 c0), (.int .i64 c1), (.int .i64 c2), (.int .i64 c3), (.int .i64 c4), (.int .i64 c5)]), (.string weights), (.slice promptA promptN promptC), (.int .i64 most), (.slice drawsA drawsN drawsC)] : Array Value).toList = [(.agg #[(.int .i64 c0), (.int .i64 c1), (.int .i64 c2), (.int .i64 c3), (.int .i64 c4), (.int .i64 c5)]), (.string weights), (.slice promptA promptN promptC), (.int .i64 most), (.slice drawsA drawsN drawsC)] from rfl, coadjutorlaw18_GenExact.vc_eq]; exact h)
end Go.Proofs.YtfhnegfoglngoaaGreat.Vc
