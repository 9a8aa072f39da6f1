import Derived.Test.YtkbikekbaboclaaGreatVc
import Derived.Test.YtkbikekbaboclaaGreatH
import Derived.Test.YtkbikekbaboclaaGreatProg
import Derived.KernelRfl
set_option linter.unusedVariables false
set_option maxRecDepth 100000
namespace Go.Proofs.YtkbikekbaboclaaGreat.Vc
open Go Go.Proofs V
def slices_Grow.vc (sA : Option Addr) (sN : Nat) (sC : Nat) (n : Int) (w : World) (R : Value → World → Prop) : Prop :=
 (decide (n < (0 : Int)) = true →
 False) ∧
 (decide (n < (0 : Int)) = false →
 (decide ((IntKind.i64.wrap (n - (IntKind.i64.wrap ((sC : Int) - (sN : Int))))) > (0 : Int)) = true →
 (0 ≤ (sC : Int) ∧ (sC : Int) ≤ (sC : Int)) ∧
 ∃ (x22A : Option Addr) (x22N x22C : Nat), ∃ w1 : World, (Builtin.append_ #[35, 3] 35 #[(.slice (if sC = 0 then sA else sA.map (·.add (0 * 1))) ((sC : Int).toNat - 0) (sC - 0)), (.int .i64 (IntKind.i64.wrap (n - (IntKind.i64.wrap ((sC : Int) - (sN : Int))))))]).run Tryz.prog w = .ok (.slice x22A x22N x22C) w1 ∧
 (0 ≤ (sN : Int) ∧ (sN : Int) ≤ (x22C : Int)) ∧
 R (.slice (if x22C = 0 then x22A else x22A.map (·.add (0 * 1))) ((sN : Int).toNat - 0) (x22C - 0)) w1) ∧
 (decide ((IntKind.i64.wrap (n - (IntKind.i64.wrap ((sC : Int) - (sN : Int))))) > (0 : Int)) = false →
 R (.slice sA sN sC) w))
theorem slices_Grow.calls (sA : Option Addr) (sN : Nat) (sC : Nat) (n : Int) {w : World} {R : Value → World → Prop} (h : slices_Grow.vc sA sN sC n w R) : Calls Tryz.prog 147 #[(.slice sA sN sC), (.int .i64 n)] w (Ret R) :=
 calls_V fit Tryz.func147 (.c .nil (.c .nil .nil)) (Eq.mpr (by kernel_rfl) h)
def slices_Concat.vc (slicesA : Option Addr) (slicesN : Nat) (slicesC : Nat) (w : World) (R : Value → World → Prop) : Prop :=
 ∃ vI : Int → Int → Nat → World → Prop, (∃ vk_2 : Nat, vI 0 0 vk_2 w) ∧
 ∀ (jk : Nat → Value) (size : Int) (x11 : Int), ∀ (vk : Nat) (w1 : World), vI size x11 vk w1 →
 (decide (x11 < (slicesN : Int)) = true →
 (0 ≤ x11 ∧ x11 < (slicesN : Int)) ∧ someV slicesA fun p =>
 ∃ (x14A : Option Addr) (x14N x14C : Nat), w1.cell? (p.add (x11.toNat * 1)) = some (.slice x14A x14N x14C) ∧
 (decide ((IntKind.i64.wrap (size + (x14N : Int))) < (0 : Int)) = true →
 False) ∧
 (decide ((IntKind.i64.wrap (size + (x14N : Int))) < (0 : Int)) = false →
 ∃ vk_1 : Nat, vk_1 < vk ∧ vI (IntKind.i64.wrap (size + (x14N : Int))) (IntKind.i64.wrap (x11 + 1)) vk_1 w1)) ∧
 (decide (x11 < (slicesN : Int)) = false →
 Calls Tryz.prog 147 #[(.slice none 0 0), (.int .i64 size)] w1 (Ret fun v w2 => ∃ (x24A : Option Addr) (x24N x24C : Nat), v = (.slice x24A x24N x24C) ∧
 ∃ vI_1 : Option Addr → Nat → Nat → Int → Nat → World → Prop, (∃ vk_5 : Nat, vI_1 x24A x24N x24C 0 vk_5 w2) ∧
 ∀ (jk : Nat → Value) (newsliceA : Option Addr) (newsliceN : Nat) (newsliceC : Nat) (x27 : Int), ∀ (vk_3 : Nat) (w3 : World), vI_1 newsliceA newsliceN newsliceC x27 vk_3 w3 →
 (decide (x27 < (slicesN : Int)) = true →
 (0 ≤ x27 ∧ x27 < (slicesN : Int)) ∧ someV slicesA fun p_1 =>
 ∃ (x30A : Option Addr) (x30N x30C : Nat), w3.cell? (p_1.add (x27.toNat * 1)) = some (.slice x30A x30N x30C) ∧
 ∃ (x33A : Option Addr) (x33N x33C : Nat), ∃ w4 : World, (Builtin.append_ #[35, 35] 35 #[(.slice newsliceA newsliceN newsliceC), (.slice x30A x30N x30C)]).run Tryz.prog w3 = .ok (.slice x33A x33N x33C) w4 ∧
 ∃ vk_4 : Nat, vk_4 < vk_3 ∧ vI_1 x33A x33N x33C (IntKind.i64.wrap (x27 + 1)) vk_4 w4) ∧
 (decide (x27 < (slicesN : Int)) = false →
 R (.slice newsliceA newsliceN newsliceC) w3)))
theorem slices_Concat.calls (slicesA : Option Addr) (slicesN : Nat) (slicesC : Nat) {w : World} {R : Value → World → Prop} (h : slices_Concat.vc slicesA slicesN slicesC w R) : Calls Tryz.prog 111 #[(.slice slicesA slicesN slicesC)] w (Ret R) :=
 calls_V fit Tryz.func111 (.lp ([(3, some (.int .i64)), (5, none), (11, some (.int .i64))] ++ nn 12 11) (.c (.c .nil .nil) (.lp ([(6, some (.slice)), (8, none), (27, some (.int .i64))] ++ nn 28 7) (.c .nil .nil)))) (Eq.mpr (by kernel_rfl) h)
def slices_Delete.vc_run (sA : Option Addr) (sN : Nat) (sC : Nat) (i : Int) (j : Int) (w : World) (R : Value → World → Prop) : Prop :=
 (0 ≤ i ∧ i ≤ j ∧ j ≤ (sN : Int) ∧ (sN : Int) ≤ (sC : Int)) ∧
 ((i == j) = true →
 R (.slice sA sN sC) w) ∧
 ((i == j) = false →
 ∃ vS : World → Prop, ∀ w1 : World, w1 = w.drew → vS w1 ∧
 (0 ≤ i ∧ i ≤ (sC : Int)) ∧
 (0 ≤ j ∧ j ≤ (sN : Int)) ∧
 ∃ (x26A : Option Addr) (x26N x26C : Nat), ∃ w2 : World, (Builtin.append_ #[93, 93] 93 #[(.slice (if sC = 0 then sA else sA.map (·.add (0 * 1))) (i.toNat - 0) (sC - 0)), (.slice (if sC = j.toNat then sA else sA.map (·.add (j.toNat * 1))) (sN - j.toNat) (sC - j.toNat))]).run Tryz.prog w1 = .ok (.slice x26A x26N x26C) w2 ∧
 vS w2 ∧
 (0 ≤ (x26N : Int) ∧ (x26N : Int) ≤ (sN : Int) ∧ (sN : Int) ≤ (x26C : Int)) ∧
 ∃ x : Value, ∃ w3 : World, (Builtin.clear_ #[93] 0 #[(.slice (if x26C = (x26N : Int).toNat then x26A else x26A.map (·.add ((x26N : Int).toNat * 1))) ((sN : Int).toNat - (x26N : Int).toNat) (x26C - (x26N : Int).toNat))]).run Tryz.prog w2 = .ok x w3 ∧
 R (.slice x26A x26N x26C) w3)
theorem slices_Delete.calls_run (sA : Option Addr) (sN : Nat) (sC : Nat) (i : Int) (j : Int) {w : World} {R : Value → World → Prop} (h : slices_Delete.vc_run sA sN sC i j w R) : Calls Tryz.prog 84 #[(.slice sA sN sC), (.int .i64 i), (.int .i64 j)] w (Ret R) :=
 calls_V fit Tryz.func84 (.c .nil (.tk 0 (.tk 1 (.tk 2 (.tk 3 (.tk 4 (.tk 5 (.alt 6 (.tk 7 (.fin .nil)) .nil)))))))) (Eq.mpr (by kernel_rfl) h)
def crew_New.vc (n : Int) (w : World) (R : Value → World → Prop) : Prop :=
 Calls Tryz.prog 36 #[(.int .i64 n)] w (Ret fun v w1 => ∃ x5 : Option Addr, v = (.pointer x5) ∧
 (x5.isNone = true →
 R (.pointer none) w1) ∧
 (x5.isNone = false →
 Calls Tryz.prog 37 #[(.pointer x5)] w1 (Ret fun v_1 w2 => ∃ x10 : Option Addr, v_1 = (.pointer x10) ∧
 ∀ w3 : World, w3 = w2.alloc (.cells #[(.pointer x5), (.pointer x10), (.slice none 0 0)] 95 (0, 0)) →
 R (.pointer (some ⟨w2.heap.size, 0, none⟩)) w3)))
theorem crew_New.calls (n : Int) {w : World} {R : Value → World → Prop} (h : crew_New.vc n w R) : Calls Tryz.prog 9 #[(.int .i64 n)] w (Ret R) :=
 calls_V fit Tryz.func9 (.c .nil .nil) (Eq.mpr (by kernel_rfl) h)
def crew_Crew_at_c1.vc (rB : Nat) (c0B : Nat) (w : World) (R : Value → World → Prop) : Prop :=
 ∃ vS : World → Prop, ∀ w1 : World, w1 = w.drew → vS w1 ∧
 ∃ x8 : Int, (∀ w2, vS w2 → w2.cell? ⟨rB, 1, none⟩ = some (.int .i64 x8)) ∧
 ∃ x9 : Int, (∀ w3, vS w3 → w3.cell? ⟨c0B, 0, none⟩ = some (.int .i64 x9)) ∧
 R (.bool (x8 == x9)) w1
theorem crew_Crew_at_c1.calls (rB : Nat) (c0B : Nat) {w : World} {R : Value → World → Prop} (h : crew_Crew_at_c1.vc rB c0B w R) : Calls Tryz.prog 72 #[(.pointer (some (⟨rB, 0, none⟩ : Addr))), (.pointer (some (⟨c0B, 0, none⟩ : Addr)))] w (Ret R) :=
 calls_V fit Tryz.func72 (.tk 0 (.tk 1 (.tk 2 (.tk 3 (.tk 4 (.tk 5 (.tk 6 (.tk 7 (.fin .nil))))))))) (Eq.mpr (by kernel_rfl) h)
def slices_IndexFunc.vc_ca (sA : Option Addr) (sN : Nat) (sC : Nat) (c0B : Nat) (w : World) (R : Value → World → Prop) : Prop :=
 ∃ vI : Int → Nat → World → Prop, (∃ vk_2 : Nat, vI 0 vk_2 w) ∧
 ∀ (jk : Nat → Value) (x8 : Int), ∀ (vk : Nat) (w1 : World), vI x8 vk w1 →
 (decide (x8 < (sN : Int)) = true →
 (0 ≤ x8 ∧ x8 < (sN : Int)) ∧ someV sA fun p =>
 ∃ x15 : Option Addr, w1.cell? (p.add (x8.toNat * 1)) = some (.pointer x15) ∧
 Calls Tryz.prog 72 #[(.pointer x15), (.pointer (some ⟨c0B, 0, none⟩))] w1 (Ret fun v w2 => ∃ x16 : Bool, v = (.bool x16) ∧
 (x16 = true →
 R (.int .i64 x8) w2) ∧
 (x16 = false →
 ∃ vk_1 : Nat, vk_1 < vk ∧ vI (IntKind.i64.wrap (x8 + 1)) vk_1 w2))) ∧
 (decide (x8 < (sN : Int)) = false →
 R (.int .i64 (-1)) w1)
theorem slices_IndexFunc.calls_ca (sA : Option Addr) (sN : Nat) (sC : Nat) (c0B : Nat) {w : World} {R : Value → World → Prop} (h : slices_IndexFunc.vc_ca sA sN sC c0B w R) : Calls Tryz.prog 71 #[(.slice sA sN sC), (.func (.func 72) #[] #[(.pointer (some (⟨c0B, 0, none⟩ : Addr)))])] w (Ret R) :=
 calls_V fit Tryz.func71 (.lp ([(4, none), (5, none), (8, some (.int .i64))] ++ nn 9 10) (.c (.c .nil .nil) .nil)) (Eq.mpr (by kernel_rfl) h)
def crew_Crew_at.vc (cB : Nat) (id : Int) (w : World) (R : Value → World → Prop) : Prop :=
 ∀ w1 : World, w1 = w.alloc (.cells #[(.int .i64 id)] 3 (0, 0)) →
 ∃ (x8A : Option Addr) (x8N x8C : Nat), w1.cell? ⟨cB, 2, none⟩ = some (.slice x8A x8N x8C) ∧
 Calls Tryz.prog 71 #[(.slice x8A x8N x8C), (.func (.func 72) #[] #[(.pointer (some ⟨w.heap.size, 0, none⟩))])] w1 (Ret fun v w2 => ∃ x10 : Int, v = (.int .i64 x10) ∧
 R (.int .i64 x10) w2)
theorem crew_Crew_at.calls (cB : Nat) (id : Int) {w : World} {R : Value → World → Prop} (h : crew_Crew_at.vc cB id w R) : Calls Tryz.prog 39 #[(.pointer (some (⟨cB, 0, none⟩ : Addr))), (.int .i64 id)] w (Ret R) :=
 calls_V fit Tryz.func39 .nil (Eq.mpr (by kernel_rfl) h)
def crew_Crew_isAsk.vc (cB : Nat) (bB : Nat) (a0 : Int) (a1 : Int) (a2A : Option Addr) (a2N : Nat) (a2C : Nat) (a3 : Int) (a4A : Option Addr) (a4N : Nat) (a4C : Nat) (w : World) (R : Value → World → Prop) : Prop :=
 ∀ w1 : World, w1 = w.alloc (.cells #[(.int .i64 a0), (.int .i64 a1), (.slice a2A a2N a2C), (.int .i64 a3), (.slice a4A a4N a4C)] 37 (0, 0)) →
 ∃ x8 : Int, w1.cell? ⟨w.heap.size, 1, none⟩ = some (.int .i64 x8) ∧
 (decide (x8 < (1 : Int)) = true →
 R (.bool false) w1) ∧
 (decide (x8 < (1 : Int)) = false →
 ∃ x12 : Int, w1.cell? ⟨w.heap.size, 1, none⟩ = some (.int .i64 x12) ∧
 (decide (x12 > (2147483647 : Int)) = true →
 R (.bool false) w1) ∧
 (decide (x12 > (2147483647 : Int)) = false →
 ∃ vS : World → Prop, ∀ w2 : World, w2 = w1.drew → vS w2 ∧
 ∃ x18 : Option Addr, (∀ w3, vS w3 → w3.cell? ⟨cB, 0, none⟩ = some (.pointer x18)) ∧
 ∃ (x220 x221 : Int) (x222A : Option Addr) (x222N x222C : Nat) (x223 : Int) (x224A : Option Addr) (x224N x224C : Nat), ((∀ w4, vS w4 → w4.cell? ⟨w.heap.size, 0, none⟩ = some (.int .i64 x220)) ∧ (∀ w4, vS w4 → w4.cell? ⟨w.heap.size, 1, none⟩ = some (.int .i64 x221)) ∧ (∀ w4, vS w4 → w4.cell? ⟨w.heap.size, 2, none⟩ = some (.slice x222A x222N x222C)) ∧ (∀ w4, vS w4 → w4.cell? ⟨w.heap.size, 3, none⟩ = some (.int .i64 x223)) ∧ (∀ w4, vS w4 → w4.cell? ⟨w.heap.size, 4, none⟩ = some (.slice x224A x224N x224C))) ∧
 Calls Tryz.prog 69 #[(.pointer x18)] w2 (Ret fun v w5 => ∃ x19 : Int, v = (.int .i64 x19) ∧
 vS w5 ∧
 Calls Tryz.prog 68 #[(.int .i64 x19)] w5 (Ret fun v_1 w6 => ∃ x20 : Option Addr, v_1 = (.pointer x20) ∧
 vS w6 ∧
 Calls Tryz.prog 70 #[(.pointer x20), (.pointer (some ⟨bB, 0, none⟩)), (.agg #[(.int .i64 x220), (.int .i64 x221), (.slice x222A x222N x222C), (.int .i64 x223), (.slice x224A x224N x224C)])] w6 (Ret fun v_2 w7 => ∃ x23 : Int, v_2 = (.int .i64 x23) ∧
 vS w7 ∧
 R (.bool (x23 == (0 : Int))) w7)))))
theorem crew_Crew_isAsk.calls (cB : Nat) (bB : Nat) (a0 : Int) (a1 : Int) (a2A : Option Addr) (a2N : Nat) (a2C : Nat) (a3 : Int) (a4A : Option Addr) (a4N : Nat) (a4C : Nat) {w : World} {R : Value → World → Prop} (h : crew_Crew_isAsk.vc cB bB a0 a1 a2A a2N a2C a3 a4A a4N a4C w R) : Calls Tryz.prog 38 #[(.pointer (some (⟨cB, 0, none⟩ : Addr))), (.pointer (some (⟨bB, 0, none⟩ : Addr))), (.agg #[(.int .i64 a0), (.int .i64 a1), (.slice a2A a2N a2C), (.int .i64 a3), (.slice a4A a4N a4C)])] w (Ret R) :=
 calls_V fit Tryz.func38 (.at_ 1 3 (.k .nil) (.c .nil (.tk 0 (.tk 1 (.tk 2 (.tk 3 (.tk 6 (.tk 7 (.alt 4 (.alt 5 (.alt 8 (.tk 9 (.tk 10 (.fin .nil))) .nil) .nil) .nil))))))))) (Eq.mpr (by kernel_rfl) h)
def crew_Crew_Join.vc (cB : Nat) (bB : Nat) (a0 : Int) (a1 : Int) (a2A : Option Addr) (a2N : Nat) (a2C : Nat) (a3 : Int) (a4A : Option Addr) (a4N : Nat) (a4C : Nat) (w : World) (R : Value → World → Prop) : Prop :=
 ∀ w1 : World, w1 = w.alloc (.cells #[(.int .i64 a0), (.int .i64 a1), (.slice a2A a2N a2C), (.int .i64 a3), (.slice a4A a4N a4C)] 37 (0, 0)) →
 ∃ (x180 x181 : Int) (x182A : Option Addr) (x182N x182C : Nat) (x183 : Int) (x184A : Option Addr) (x184N x184C : Nat), (w1.cell? ⟨w.heap.size, 0, none⟩ = some (.int .i64 x180) ∧ w1.cell? ⟨w.heap.size, 1, none⟩ = some (.int .i64 x181) ∧ w1.cell? ⟨w.heap.size, 2, none⟩ = some (.slice x182A x182N x182C) ∧ w1.cell? ⟨w.heap.size, 3, none⟩ = some (.int .i64 x183) ∧ w1.cell? ⟨w.heap.size, 4, none⟩ = some (.slice x184A x184N x184C)) ∧
 Calls Tryz.prog 38 #[(.pointer (some ⟨cB, 0, none⟩)), (.pointer (some ⟨bB, 0, none⟩)), (.agg #[(.int .i64 x180), (.int .i64 x181), (.slice x182A x182N x182C), (.int .i64 x183), (.slice x184A x184N x184C)])] w1 (Ret fun v w2 => ∃ x19 : Bool, v = (.bool x19) ∧
 ((!x19) = true →
 R (.int .i64 1) w2) ∧
 ((!x19) = false →
 ∃ x24 : Int, w2.cell? ⟨w.heap.size, 0, none⟩ = some (.int .i64 x24) ∧
 Calls Tryz.prog 39 #[(.pointer (some ⟨cB, 0, none⟩)), (.int .i64 x24)] w2 (Ret fun v_1 w3 => ∃ x25 : Int, v_1 = (.int .i64 x25) ∧
 (decide (x25 ≥ (0 : Int)) = true →
 R (.int .i64 9) w3) ∧
 (decide (x25 ≥ (0 : Int)) = false →
 ∃ (x31A : Option Addr) (x31N x31C : Nat), w3.cell? ⟨cB, 2, none⟩ = some (.slice x31A x31N x31C) ∧
 (decide ((x31N : Int) ≥ (8 : Int)) = true →
 R (.int .i64 10) w3) ∧
 (decide ((x31N : Int) ≥ (8 : Int)) = false →
 ∃ vS : World → Prop, ∀ w4 : World, w4 = w3.drew → vS w4 ∧
 ∃ (x350 x351 : Int) (x352A : Option Addr) (x352N x352C : Nat) (x353 : Int) (x354A : Option Addr) (x354N x354C : Nat), ((∀ w5, vS w5 → w5.cell? ⟨w.heap.size, 0, none⟩ = some (.int .i64 x350)) ∧ (∀ w5, vS w5 → w5.cell? ⟨w.heap.size, 1, none⟩ = some (.int .i64 x351)) ∧ (∀ w5, vS w5 → w5.cell? ⟨w.heap.size, 2, none⟩ = some (.slice x352A x352N x352C)) ∧ (∀ w5, vS w5 → w5.cell? ⟨w.heap.size, 3, none⟩ = some (.int .i64 x353)) ∧ (∀ w5, vS w5 → w5.cell? ⟨w.heap.size, 4, none⟩ = some (.slice x354A x354N x354C))) ∧
 ∃ x40 : Option Addr, (∀ w6, vS w6 → w6.cell? ⟨cB, 1, none⟩ = some (.pointer x40)) ∧
 ∃ x42 : Int, (∀ w7, vS w7 → w7.cell? ⟨w.heap.size, 1, none⟩ = some (.int .i64 x42)) ∧
 ∃ (x44A : Option Addr) (x44N x44C : Nat), (∀ w8, vS w8 → w8.cell? ⟨w.heap.size, 2, none⟩ = some (.slice x44A x44N x44C)) ∧
 Calls Tryz.prog 20 #[(.agg #[(.int .i64 x350), (.int .i64 x351), (.slice x352A x352N x352C), (.int .i64 x353), (.slice x354A x354N x354C)])] w4 (Ret fun v_2 w9 => ∃ (x360 x361 : Int) (x362A : Option Addr) (x362N x362C : Nat) (x363 : Int) (x364A : Option Addr) (x364N x364C : Nat), v_2 = (.agg #[(.int .i64 x360), (.int .i64 x361), (.slice x362A x362N x362C), (.int .i64 x363), (.slice x364A x364N x364C)]) ∧
 vS w9 ∧
 Calls Tryz.prog 40 #[(.pointer x40), (.int .i64 x42), (.slice x44A x44N x44C)] w9 (Ret fun v_3 w10 => ∃ (x45A : Option Addr) (x45N x45C : Nat), v_3 = (.slice x45A x45N x45C) ∧
 vS w10 ∧
 ∀ w11 : World, w11 = w10.alloc (.cells #[(.pointer (some ⟨bB, 0, none⟩)), (.int .i64 x360), (.int .i64 x361), (.slice x362A x362N x362C), (.int .i64 x363), (.slice x364A x364N x364C), (.slice x45A x45N x45C), (.int .i64 0), (.slice none 0 0)] 100 (0, 0)) →
 vS w11 ∧
 ∃ (x52A : Option Addr) (x52N x52C : Nat), w11.cell? ⟨w10.heap.size, 6, none⟩ = some (.slice x52A x52N x52C) ∧
 (Okc w11 ⟨w10.heap.size, 7, none⟩) ∧ ∀ w12 : World, w12 = (w11.setCell ⟨w10.heap.size, 7, none⟩ (.int .i64 (IntKind.i64.wrap ((x52N : Int) * 4)))) →
 ∃ (x61A : Option Addr) (x61N x61C : Nat), w12.cell? ⟨cB, 2, none⟩ = some (.slice x61A x61N x61C) ∧
 ∀ w13 : World, w13 = w12.alloc (.cells #[(.pointer (some ⟨w10.heap.size, 0, none⟩))] 97 (0, 0)) →
 ∃ (x64A : Option Addr) (x64N x64C : Nat), ∃ w14 : World, (Builtin.append_ #[93, 93] 93 #[(.slice x61A x61N x61C), (.slice (some ⟨w12.heap.size, 0, none⟩) 1 1)]).run Tryz.prog w13 = .ok (.slice x64A x64N x64C) w14 ∧
 (Okc w14 ⟨cB, 2, none⟩) ∧ ∀ w15 : World, w15 = (w14.setCell ⟨cB, 2, none⟩ (.slice x64A x64N x64C)) →
 R (.int .i64 0) w15)))))))
theorem crew_Crew_Join.calls (cB : Nat) (bB : Nat) (a0 : Int) (a1 : Int) (a2A : Option Addr) (a2N : Nat) (a2C : Nat) (a3 : Int) (a4A : Option Addr) (a4N : Nat) (a4C : Nat) {w : World} {R : Value → World → Prop} (h : crew_Crew_Join.vc cB bB a0 a1 a2A a2N a2C a3 a4A a4N a4C w R) : Calls Tryz.prog 10 #[(.pointer (some (⟨cB, 0, none⟩ : Addr))), (.pointer (some (⟨bB, 0, none⟩ : Addr))), (.agg #[(.int .i64 a0), (.int .i64 a1), (.slice a2A a2N a2C), (.int .i64 a3), (.slice a4A a4N a4C)])] w (Ret R) :=
 calls_V fit Tryz.func10 (.k (.c .nil (.c .nil (.c .nil (.tk 0 (.tk 1 (.tk 3 (.tk 4 (.tk 5 (.tk 6 (.tk 7 (.tk 8 (.tk 9 (.tk 10 (.alt 2 (.alt 11 (.tk 12 (.alt 13 (.tk 14 (.fin .nil)) .nil)) .nil) .nil))))))))))))))) (Eq.mpr (by kernel_rfl) h)
def crew_Crew_cut.vc (cB : Nat) (vat : Int) (w : World) (R : Value → World → Prop) : Prop :=
 ∃ (x9A : Option Addr) (x9N x9C : Nat), w.cell? ⟨cB, 2, none⟩ = some (.slice x9A x9N x9C) ∧
 (0 ≤ vat ∧ vat < (x9N : Int)) ∧ someV x9A fun p =>
 ∃ x12 : Option Addr, w.cell? (p.add (vat.toNat * 1)) = some (.pointer x12) ∧
 ∃ vS : World → Prop, ∀ w1 : World, w1 = w.drew → vS w1 ∧
 ∃ x16 : Option Addr, (∀ w2, vS w2 → w2.cell? ⟨cB, 0, none⟩ = some (.pointer x16)) ∧
 someV x12 fun p_1 =>
 ∃ (x20A : Option Addr) (x20N x20C : Nat), (∀ w3, vS w3 → w3.cell? (p_1.add 6) = some (.slice x20A x20N x20C)) ∧
 Calls Tryz.prog 83 #[(.pointer x16), (.slice x20A x20N x20C)] w1 (Ret fun v w4 => ∃ x21 : Int, v = (.int .i64 x21) ∧
 vS w4 ∧
 ∃ (x26A : Option Addr) (x26N x26C : Nat), w4.cell? ⟨cB, 2, none⟩ = some (.slice x26A x26N x26C) ∧
 Calls Tryz.prog 84 #[(.slice x26A x26N x26C), (.int .i64 vat), (.int .i64 (IntKind.i64.wrap (vat + 1)))] w4 (Ret fun v_1 w5 => ∃ (x30A : Option Addr) (x30N x30C : Nat), v_1 = (.slice x30A x30N x30C) ∧
 (Okc w5 ⟨cB, 2, none⟩) ∧ ∀ w6 : World, w6 = (w5.setCell ⟨cB, 2, none⟩ (.slice x30A x30N x30C)) →
 R (.pointer x12) w6))
theorem crew_Crew_cut.calls (cB : Nat) (vat : Int) {w : World} {R : Value → World → Prop} (h : crew_Crew_cut.vc cB vat w R) : Calls Tryz.prog 44 #[(.pointer (some (⟨cB, 0, none⟩ : Addr))), (.int .i64 vat)] w (Ret R) :=
 calls_V fit Tryz.func44 (.tk 0 (.tk 1 (.tk 2 (.tk 3 (.tk 4 (.tk 5 (.tk 6 (.tk 7 (.alt 8 (.fin .nil) .nil))))))))) (Eq.mpr (by kernel_rfl) h)
def crew_Crew_page.vc (cB : Nat) (rB : Nat) (tB : Nat) (w : World) (R : Value → World → Prop) : Prop :=
 ∃ vI : Nat → World → Prop, (∃ vk_2 : Nat, vI vk_2 w) ∧
 ∀ (jk : Nat → Value), ∀ (vk : Nat) (w1 : World), vI vk w1 →
 ∃ vS : World → Prop, ∀ w2 : World, w2 = w1.drew → vS w2 ∧
 ∃ x13 : Int, (∀ w3, vS w3 → w3.cell? ⟨rB, 7, none⟩ = some (.int .i64 x13)) ∧
 ∃ (x17A : Option Addr) (x17N x17C : Nat), (∀ w4, vS w4 → w4.cell? ⟨rB, 6, none⟩ = some (.slice x17A x17N x17C)) ∧
 ((x13 == (IntKind.i64.wrap ((x17N : Int) * 4))) = true →
 ∃ vS_1 : World → Prop, ∀ w5 : World, w5 = w2.drew → vS_1 w5 ∧
 ∃ x25 : Option Addr, (∀ w6, vS_1 w6 → w6.cell? ⟨cB, 0, none⟩ = some (.pointer x25)) ∧
 ∃ x30 : Int, (∀ w7, vS_1 w7 → w7.cell? ⟨rB, 2, none⟩ = some (.int .i64 x30)) ∧
 Calls Tryz.prog 76 #[(.pointer x25), (.int .i64 x30)] w5 (Ret fun v w8 => ∃ x31_0 x31_1 : Int, v = (.tuple #[(.int .i64 x31_0), (.int .i64 x31_1)]) ∧
 vS_1 w8 ∧
 ((x31_1 == (0 : Int)) = true →
 ∃ (x40A : Option Addr) (x40N x40C : Nat), w8.cell? ⟨rB, 6, none⟩ = some (.slice x40A x40N x40C) ∧
 ∀ w9 : World, w9 = w8.alloc (.cells #[(.int .i64 x31_0)] 3 (0, 0)) →
 ∃ (x43A : Option Addr) (x43N x43C : Nat), ∃ w10 : World, (Builtin.append_ #[35, 35] 35 #[(.slice x40A x40N x40C), (.slice (some ⟨w8.heap.size, 0, none⟩) 1 1)]).run Tryz.prog w9 = .ok (.slice x43A x43N x43C) w10 ∧
 (Okc w10 ⟨rB, 6, none⟩) ∧ ∀ w11 : World, w11 = (w10.setCell ⟨rB, 6, none⟩ (.slice x43A x43N x43C)) →
 R (.bool true) w11) ∧
 ((x31_1 == (0 : Int)) = false →
 ∃ x49 : Option Addr, w8.cell? ⟨cB, 1, none⟩ = some (.pointer x49) ∧
 Calls Tryz.prog 77 #[(.pointer x49)] w8 (Ret fun v_1 w12 => ∃ x50 : Bool, v_1 = (.bool x50) ∧
 (x50 = true →
 ∃ vk_1 : Nat, vk_1 < vk ∧ vI vk_1 w12) ∧
 (x50 = false →
 ∃ (x55A : Option Addr) (x55N x55C : Nat), w12.cell? ⟨cB, 2, none⟩ = some (.slice x55A x55N x55C) ∧
 Calls Tryz.prog 44 #[(.pointer (some ⟨cB, 0, none⟩)), (.int .i64 (IntKind.i64.wrap ((x55N : Int) - 1)))] w12 (Ret fun v_2 w13 => ∃ x58 : Option Addr, v_2 = (.pointer x58) ∧
 ∃ vS_2 : World → Prop, ∀ w14 : World, w14 = w13.drew → vS_2 w14 ∧
 ∃ (x63A : Option Addr) (x63N x63C : Nat), (∀ w15, vS_2 w15 → w15.cell? ⟨tB, 4, none⟩ = some (.slice x63A x63N x63C)) ∧
 someV x58 fun p =>
 ∃ (x670 x671 : Int) (x672A : Option Addr) (x672N x672C : Nat) (x673 : Int) (x674A : Option Addr) (x674N x674C : Nat), ((∀ w16, vS_2 w16 → w16.cell? (p.add 1) = some (.int .i64 x670)) ∧ (∀ w16, vS_2 w16 → w16.cell? (p.add 2) = some (.int .i64 x671)) ∧ (∀ w16, vS_2 w16 → w16.cell? (p.add 3) = some (.slice x672A x672N x672C)) ∧ (∀ w16, vS_2 w16 → w16.cell? (p.add 4) = some (.int .i64 x673)) ∧ (∀ w16, vS_2 w16 → w16.cell? (p.add 5) = some (.slice x674A x674N x674C))) ∧
 ∀ w17 : World, w17 = w14.alloc (.cells #[(.int .i64 x670), (.int .i64 x671), (.slice x672A x672N x672C), (.int .i64 x673), (.slice x674A x674N x674C)] 37 (0, 0)) →
 vS_2 w17 ∧
 ∃ (x69A : Option Addr) (x69N x69C : Nat), ∃ w18 : World, (Builtin.append_ #[43, 43] 43 #[(.slice x63A x63N x63C), (.slice (some ⟨w14.heap.size, 0, none⟩) 1 1)]).run Tryz.prog w17 = .ok (.slice x69A x69N x69C) w18 ∧
 vS_2 w18 ∧
 (Okc w18 ⟨tB, 4, none⟩) ∧ ∀ w19 : World, w19 = (w18.setCell ⟨tB, 4, none⟩ (.slice x69A x69N x69C)) →
 ptrCmp w19 x58 (some ⟨rB, 0, none⟩) ∧
 (decide (x58 = (some ⟨rB, 0, none⟩)) = true →
 (Okc w19 ⟨tB, 2, none⟩) ∧ ∀ w20 : World, w20 = (w19.setCell ⟨tB, 2, none⟩ (.bool true)) →
 R (.bool false) w20) ∧
 (decide (x58 = (some ⟨rB, 0, none⟩)) = false →
 ∃ vk_1 : Nat, vk_1 < vk ∧ vI vk_1 w19))))))) ∧
 ((x13 == (IntKind.i64.wrap ((x17N : Int) * 4))) = false →
 R (.bool true) w2)
theorem crew_Crew_page.calls (cB : Nat) (rB : Nat) (tB : Nat) {w : World} {R : Value → World → Prop} (h : crew_Crew_page.vc cB rB tB w R) : Calls Tryz.prog 41 #[(.pointer (some (⟨cB, 0, none⟩ : Addr))), (.pointer (some (⟨rB, 0, none⟩ : Addr))), (.pointer (some (⟨tB, 0, none⟩ : Addr)))] w (Ret R) :=
 calls_V fit Tryz.func41 (.lp (nn 6 72) (.tk 0 (.tk 1 (.tk 2 (.tk 3 (.tk 4 (.tk 5 (.tk 6 (.tk 7 (.tk 8 (.tk 9 (.tk 10 (.fin (.c (.tk 0 (.tk 1 (.tk 2 (.tk 3 (.tk 4 (.tk 5 (.tk 6 (.tk 7 (.tk 8 (.alt 9 (.tk 10 (.tk 11 (.tk 12 (.tk 13 (.tk 14 (.fin (.c .nil (.c .nil (.tk 0 (.tk 1 (.tk 2 (.tk 3 (.tk 4 (.tk 5 (.tk 6 (.tk 7 (.tk 8 (.alt 9 (.alt 10 (.tk 11 (.tk 12 (.last 13 (.fin (.c .nil .nil))))) .nil) .nil)))))))))))))))))) .nil)))))))))) .nil)))))))))))))) (Eq.mpr (by kernel_rfl) h)
def crew_Crew_reckon.vc (cB : Nat) (rB : Nat) (w : World) (R : Value → World → Prop) : Prop :=
 ∃ vS : World → Prop, ∀ w1 : World, w1 = w.drew → vS w1 ∧
 ∃ (x13A : Option Addr) (x13N x13C : Nat), (∀ w2, vS w2 → w2.cell? ⟨rB, 6, none⟩ = some (.slice x13A x13N x13C)) ∧
 ∃ (x17A : Option Addr) (x17N x17C : Nat), (∀ w3, vS w3 → w3.cell? ⟨rB, 6, none⟩ = some (.slice x17A x17N x17C)) ∧
 (0 ≤ (IntKind.i64.wrap ((x17N : Int) - 1)) ∧ (IntKind.i64.wrap ((x17N : Int) - 1)) < (x13N : Int)) ∧ someV x13A fun p =>
 ∃ x21 : Int, (∀ w4, vS w4 → w4.cell? (p.add ((IntKind.i64.wrap ((x17N : Int) - 1)).toNat * 1)) = some (.int .i64 x21)) ∧
 Calls Tryz.prog 78 #[(.pointer (some ⟨rB, 0, none⟩))] w1 (Ret fun v w5 => ∃ (x23A : Option Addr) (x23N x23C : Nat), v = (.slice x23A x23N x23C) ∧
 ∃ J : Addr → Option Addr → Nat → Nat → World → Prop, (∃ vS_1 : World → Prop, ∀ w6 : World, w6 = w5.drew → vS_1 w6 ∧
 ∃ x28 : Option Addr, (∀ w7, vS_1 w7 → w7.cell? ⟨rB, 0, none⟩ = some (.pointer x28)) ∧
 ∃ x32 : Option Addr, (∀ w8, vS_1 w8 → w8.cell? ⟨cB, 0, none⟩ = some (.pointer x32)) ∧
 ∃ (x36A : Option Addr) (x36N x36C : Nat), (∀ w9, vS_1 w9 → w9.cell? ⟨rB, 6, none⟩ = some (.slice x36A x36N x36C)) ∧
 ∃ x42 : Int, (∀ w10, vS_1 w10 → w10.cell? ⟨rB, 7, none⟩ = some (.int .i64 x42)) ∧
 (0 ≤ x42 ∧ x42 < (x23N : Int)) ∧ someV x23A fun p_1 =>
 ∃ x44 : Int, (∀ w11, vS_1 w11 → w11.cell? (p_1.add (x42.toNat * 1)) = some (.int .i64 x44)) ∧
 (Calls Tryz.prog 80 #[(.pointer x32), (.slice x36A x36N x36C)] w6 (Ret fun v_1 w12 => ∃ (x37A : Option Addr) (x37N x37C : Nat), v_1 = (.slice x37A x37N x37C) ∧
 vS_1 w12 ∧
 (Calls Tryz.prog 79 #[(.pointer x28), (.slice x37A x37N x37C), (.int .i64 x44)] w12 (Ret fun v_2 w13 => ∃ (x45_00A : Option Addr) (x45_00N x45_00C : Nat) (x45_01A : Option Addr) (x45_01N x45_01C : Nat) (x45_1A : Option Addr) (x45_1N x45_1C : Nat) (x45_2 : Int), v_2 = (.tuple #[(.agg #[(.slice x45_00A x45_00N x45_00C), (.slice x45_01A x45_01N x45_01C)]), (.slice x45_1A x45_1N x45_1C), (.int .i64 x45_2)]) ∧
 vS_1 w13 ∧
 ∀ w14 : World, w14 = w13.alloc (.cells #[(.slice none 0 0), (.slice none 0 0)] 157 (0, 0)) →
 vS_1 w14 ∧
 (Okc w14 ⟨w13.heap.size, 0, none⟩ ∧ Okc w14 ⟨w13.heap.size, 1, none⟩) ∧ ∀ w15 : World, w15 = ((w14.setCell ⟨w13.heap.size, 0, none⟩ (.slice x45_00A x45_00N x45_00C)).setCell ⟨w13.heap.size, 1, none⟩ (.slice x45_01A x45_01N x45_01C)) →
 vS_1 w15 ∧
 J (⟨w13.heap.size, 0, none⟩ : Addr) x45_1A x45_1N x45_1C w15)) ∧ (∀ w16 : World, w16 = w12.alloc (.cells #[(.slice none 0 0), (.slice none 0 0)] 157 (0, 0)) →
 vS_1 w16 ∧
 Calls Tryz.prog 79 #[(.pointer x28), (.slice x37A x37N x37C), (.int .i64 x44)] w16 (Ret fun v_3 w17 => ∃ (x45_00A_1 : Option Addr) (x45_00N_1 x45_00C_1 : Nat) (x45_01A_1 : Option Addr) (x45_01N_1 x45_01C_1 : Nat) (x45_1A_1 : Option Addr) (x45_1N_1 x45_1C_1 : Nat) (x45_2_1 : Int), v_3 = (.tuple #[(.agg #[(.slice x45_00A_1 x45_00N_1 x45_00C_1), (.slice x45_01A_1 x45_01N_1 x45_01C_1)]), (.slice x45_1A_1 x45_1N_1 x45_1C_1), (.int .i64 x45_2_1)]) ∧
 vS_1 w17 ∧
 (Okc w17 ⟨w12.heap.size, 0, none⟩ ∧ Okc w17 ⟨w12.heap.size, 1, none⟩) ∧ ∀ w18 : World, w18 = ((w17.setCell ⟨w12.heap.size, 0, none⟩ (.slice x45_00A_1 x45_00N_1 x45_00C_1)).setCell ⟨w12.heap.size, 1, none⟩ (.slice x45_01A_1 x45_01N_1 x45_01C_1)) →
 vS_1 w18 ∧
 J (⟨w12.heap.size, 0, none⟩ : Addr) x45_1A_1 x45_1N_1 x45_1C_1 w18)) ∧ True)) ∧ (∀ w19 : World, w19 = w6.alloc (.cells #[(.slice none 0 0), (.slice none 0 0)] 157 (0, 0)) →
 vS_1 w19 ∧
 Calls Tryz.prog 80 #[(.pointer x32), (.slice x36A x36N x36C)] w19 (Ret fun v_4 w20 => ∃ (x37A_1 : Option Addr) (x37N_1 x37C_1 : Nat), v_4 = (.slice x37A_1 x37N_1 x37C_1) ∧
 vS_1 w20 ∧
 Calls Tryz.prog 79 #[(.pointer x28), (.slice x37A_1 x37N_1 x37C_1), (.int .i64 x44)] w20 (Ret fun v_5 w21 => ∃ (x45_00A_2 : Option Addr) (x45_00N_2 x45_00C_2 : Nat) (x45_01A_2 : Option Addr) (x45_01N_2 x45_01C_2 : Nat) (x45_1A_2 : Option Addr) (x45_1N_2 x45_1C_2 : Nat) (x45_2_2 : Int), v_5 = (.tuple #[(.agg #[(.slice x45_00A_2 x45_00N_2 x45_00C_2), (.slice x45_01A_2 x45_01N_2 x45_01C_2)]), (.slice x45_1A_2 x45_1N_2 x45_1C_2), (.int .i64 x45_2_2)]) ∧
 vS_1 w21 ∧
 (Okc w21 ⟨w6.heap.size, 0, none⟩ ∧ Okc w21 ⟨w6.heap.size, 1, none⟩) ∧ ∀ w22 : World, w22 = ((w21.setCell ⟨w6.heap.size, 0, none⟩ (.slice x45_00A_2 x45_00N_2 x45_00C_2)).setCell ⟨w6.heap.size, 1, none⟩ (.slice x45_01A_2 x45_01N_2 x45_01C_2)) →
 vS_1 w22 ∧
 J (⟨w6.heap.size, 0, none⟩ : Addr) x45_1A_2 x45_1N_2 x45_1C_2 w22))) ∧ True) ∧
 ∀ (jk : Nat → Value) (e : Addr) (scoresA : Option Addr) (scoresN : Nat) (scoresC : Nat), ∀ w23 : World, J e scoresA scoresN scoresC w23 →
 ∃ vS_2 : World → Prop, ∀ w24 : World, w24 = w23.drew → vS_2 w24 ∧
 ∃ x52 : Option Addr, (∀ w25, vS_2 w25 → w25.cell? ⟨cB, 0, none⟩ = some (.pointer x52)) ∧
 ∃ (x540A : Option Addr) (x540N x540C : Nat) (x541A : Option Addr) (x541N x541C : Nat), ((∀ w26, vS_2 w26 → w26.cell? e = some (.slice x540A x540N x540C)) ∧ (∀ w26, vS_2 w26 → w26.cell? (e.add 1) = some (.slice x541A x541N x541C))) ∧
 Calls Tryz.prog 81 #[(.pointer x52), (.int .i64 x21), (.agg #[(.slice x540A x540N x540C), (.slice x541A x541N x541C)])] w24 (Ret fun v_6 w27 => ∃ x55 : Int, v_6 = (.int .i64 x55) ∧
 vS_2 w27 ∧
 ∃ x59 : Int, w27.cell? ⟨rB, 7, none⟩ = some (.int .i64 x59) ∧
 (Okc w27 ⟨rB, 7, none⟩) ∧ ∀ w28 : World, w28 = (w27.setCell ⟨rB, 7, none⟩ (.int .i64 (IntKind.i64.wrap (x59 + 1)))) →
 ∃ J_1 : World → Prop, (∃ x66 : Int, w28.cell? ⟨rB, 7, none⟩ = some (.int .i64 x66) ∧
 (4 : Int) ≠ 0 ∧
 (((Int.tmod x66 4) == (0 : Int)) = true →
 ∃ vS_3 : World → Prop, ∀ w29 : World, w29 = w28.drew → vS_3 w29 ∧
 ∃ x72 : Option Addr, (∀ w30, vS_3 w30 → w30.cell? ⟨cB, 1, none⟩ = some (.pointer x72)) ∧
 ∃ x78 : Int, (∀ w31, vS_3 w31 → w31.cell? ⟨rB, 2, none⟩ = some (.int .i64 x78)) ∧
 ∃ x83 : Int, (∀ w32, vS_3 w32 → w32.cell? ⟨rB, 7, none⟩ = some (.int .i64 x83)) ∧
 (0 ≤ x83 ∧ x83 ≤ (x23C : Int)) ∧
 Calls Tryz.prog 82 #[(.pointer x72), (.int .i64 x21), (.int .i64 x78), (.slice (if x23C = 0 then x23A else x23A.map (·.add (0 * 1))) (x83.toNat - 0) (x23C - 0))] w29 (Ret fun v_7 w33 => ∃ x85 : Int, v_7 = (.int .i64 x85) ∧
 vS_3 w33 ∧
 J_1 w33)) ∧
 (((Int.tmod x66 4) == (0 : Int)) = false →
 J_1 w28)) ∧
 ∀ (jk : Nat → Value), ∀ w34 : World, J_1 w34 →
 R (.slice scoresA scoresN scoresC) w34))
theorem crew_Crew_reckon.calls (cB : Nat) (rB : Nat) {w : World} {R : Value → World → Prop} (h : crew_Crew_reckon.vc cB rB w R) : Calls Tryz.prog 43 #[(.pointer (some (⟨cB, 0, none⟩ : Addr))), (.pointer (some (⟨rB, 0, none⟩ : Addr)))] w (Ret R) :=
 calls_V fit Tryz.func43 (.tk 0 (.tk 1 (.tk 2 (.tk 3 (.tk 4 (.tk 5 (.tk 6 (.tk 7 (.tk 8 (.tk 9 (.tk 10 (.tk 11 (.tk 12 (.fin (.cut 1 ([(7, some (.addr)), (8, some (.slice)), (9, none)] ++ nn 24 25) (.tk 0 (.tk 1 (.tk 2 (.tk 3 (.tk 4 (.tk 5 (.tk 6 (.tk 7 (.tk 8 (.tk 9 (.tk 10 (.tk 11 (.tk 13 (.tk 14 (.tk 15 (.tk 16 (.tk 17 (.tk 18 (.tk 19 (.alt 12 (.alt 20 (.tk 21 (.tk 22 (.tk 23 (.tk 24 (.alt 25 (.alt 26 (.tk 27 (.tk 28 (.fin .nil))) .nil) .nil))))) (.alt 25 (.alt 20 (.tk 21 (.tk 22 (.tk 23 (.tk 24 (.alt 26 (.tk 27 (.tk 28 (.fin .nil))) .nil))))) .nil) .nil)) (.alt 25 (.alt 12 (.alt 20 (.tk 21 (.tk 22 (.tk 23 (.tk 24 (.alt 26 (.tk 27 (.tk 28 (.fin .nil))) .nil))))) .nil) .nil) .nil))))))))))))))))))))) (.tk 0 (.tk 1 (.tk 2 (.tk 3 (.tk 4 (.tk 5 (.alt 6 (.fin (.cut 1 (nn 63 23) (.c (.tk 0 (.tk 1 (.tk 2 (.tk 3 (.tk 4 (.tk 5 (.tk 6 (.tk 7 (.tk 8 (.tk 9 (.tk 10 (.tk 11 (.tk 12 (.tk 13 (.tk 14 (.tk 15 (.alt 16 (.fin .nil) .nil))))))))))))))))) .nil) .nil)) .nil)))))))))))))))))))))) (Eq.mpr (by kernel_rfl) h)
def crew_run_say.vc (rB : Nat) (scoresA : Option Addr) (scoresN : Nat) (scoresC : Nat) (w : World) (R : Value → World → Prop) : Prop :=
 ∃ vS : World → Prop, ∀ w1 : World, w1 = w.drew → vS w1 ∧
 ∃ x11 : Int, (∀ w2, vS w2 → w2.cell? ⟨rB, 7, none⟩ = some (.int .i64 x11)) ∧
 Calls Tryz.prog 78 #[(.pointer (some ⟨rB, 0, none⟩))] w1 (Ret fun v w3 => ∃ (x13A : Option Addr) (x13N x13C : Nat), v = (.slice x13A x13N x13C) ∧
 vS w3 ∧
 (decide (x11 < (x13N : Int)) = true →
 R (.bool false) w3) ∧
 (decide (x11 < (x13N : Int)) = false →
 ∃ J : Int → World → Prop, (∃ (x19A : Option Addr) (x19N x19C : Nat), w3.cell? ⟨rB, 8, none⟩ = some (.slice x19A x19N x19C) ∧
 ∃ (x26A : Option Addr) (x26N x26C : Nat), w3.cell? ⟨rB, 5, none⟩ = some (.slice x26A x26N x26C) ∧
 (decide ((x19N : Int) < (x26N : Int)) = true →
 ∃ (x33A : Option Addr) (x33N x33C : Nat), w3.cell? ⟨rB, 5, none⟩ = some (.slice x33A x33N x33C) ∧
 (0 ≤ (x19N : Int) ∧ (x19N : Int) < (x33N : Int)) ∧ someV x33A fun p =>
 ∃ x36 : Int, w3.cell? (p.add ((x19N : Int).toNat * 1)) = some (.int .i64 x36) ∧
 J x36 w3) ∧
 (decide ((x19N : Int) < (x26N : Int)) = false →
 J 0 w3)) ∧
 ∀ (jk : Nat → Value) (draw : Int), ∀ w4 : World, J draw w4 →
 Calls Tryz.prog 50 #[(.int .i64 draw), (.slice scoresA scoresN scoresC)] w4 (Ret fun v_1 w5 => ∃ x39 : Int, v_1 = (.int .i64 x39) ∧
 ((x39 == (0 : Int)) = true →
 R (.bool true) w5) ∧
 ((x39 == (0 : Int)) = false →
 ∃ (x46A : Option Addr) (x46N x46C : Nat), w5.cell? ⟨rB, 8, none⟩ = some (.slice x46A x46N x46C) ∧
 ∀ w6 : World, w6 = w5.alloc (.cells #[(.int .i64 x39)] 3 (0, 0)) →
 ∃ (x49A : Option Addr) (x49N x49C : Nat), ∃ w7 : World, (Builtin.append_ #[35, 35] 35 #[(.slice x46A x46N x46C), (.slice (some ⟨w5.heap.size, 0, none⟩) 1 1)]).run Tryz.prog w6 = .ok (.slice x49A x49N x49C) w7 ∧
 (Okc w7 ⟨rB, 8, none⟩) ∧ ∀ w8 : World, w8 = (w7.setCell ⟨rB, 8, none⟩ (.slice x49A x49N x49C)) →
 ∃ vS_1 : World → Prop, ∀ w9 : World, w9 = w8.drew → vS_1 w9 ∧
 ∃ (x55A : Option Addr) (x55N x55C : Nat), (∀ w10, vS_1 w10 → w10.cell? ⟨rB, 8, none⟩ = some (.slice x55A x55N x55C)) ∧
 ∃ x61 : Int, (∀ w11, vS_1 w11 → w11.cell? ⟨rB, 4, none⟩ = some (.int .i64 x61)) ∧
 R (.bool ((x55N : Int) == x61)) w9))))
theorem crew_run_say.calls (rB : Nat) (scoresA : Option Addr) (scoresN : Nat) (scoresC : Nat) {w : World} {R : Value → World → Prop} (h : crew_run_say.vc rB scoresA scoresN scoresC w R) : Calls Tryz.prog 42 #[(.pointer (some (⟨rB, 0, none⟩ : Addr))), (.slice scoresA scoresN scoresC)] w (Ret R) :=
 calls_V fit Tryz.func42 (.tk 0 (.tk 1 (.tk 2 (.tk 3 (.tk 4 (.alt 5 (.tk 6 (.tk 7 (.fin (.c .nil (.cut 1 ([(5, some (.int .i64)), (6, none)] ++ nn 16 21) (.c .nil .nil) (.c .nil (.tk 0 (.tk 1 (.tk 2 (.tk 3 (.tk 4 (.tk 5 (.tk 6 (.tk 7 (.tk 8 (.tk 9 (.tk 10 (.tk 11 (.fin .nil))))))))))))))))))) .nil)))))) (Eq.mpr (by kernel_rfl) h)
def crew_run_tokens.vc (rB : Nat) (w : World) (R : Value → World → Prop) : Prop :=
 ∃ vS : World → Prop, ∀ w1 : World, w1 = w.drew → vS w1 ∧
 ∃ (x7A : Option Addr) (x7N x7C : Nat), (∀ w2, vS w2 → w2.cell? ⟨rB, 3, none⟩ = some (.slice x7A x7N x7C)) ∧
 ∃ (x11A : Option Addr) (x11N x11C : Nat), (∀ w3, vS w3 → w3.cell? ⟨rB, 8, none⟩ = some (.slice x11A x11N x11C)) ∧
 ∀ w4 : World, w4 = w1.alloc (.cells #[(.slice x7A x7N x7C), (.slice x11A x11N x11C)] 35 (0, 0)) →
 vS w4 ∧
 Calls Tryz.prog 111 #[(.slice (some ⟨w1.heap.size, 0, none⟩) 2 2)] w4 (Ret fun v w5 => ∃ (x13A : Option Addr) (x13N x13C : Nat), v = (.slice x13A x13N x13C) ∧
 vS w5 ∧
 R (.slice x13A x13N x13C) w5)
theorem crew_run_tokens.calls (rB : Nat) {w : World} {R : Value → World → Prop} (h : crew_run_tokens.vc rB w R) : Calls Tryz.prog 78 #[(.pointer (some (⟨rB, 0, none⟩ : Addr)))] w (Ret R) :=
 calls_V fit Tryz.func78 (.tk 0 (.tk 1 (.tk 2 (.tk 3 (.tk 4 (.tk 5 (.tk 6 (.tk 7 (.tk 8 (.alt 9 (.alt 10 (.tk 11 (.fin .nil)) .nil) .nil)))))))))) (Eq.mpr (by kernel_rfl) h)
def crew_Crew_Pick.vc (cB : Nat) (n : Int) (w : World) (R : Value → World → Prop) : Prop :=
 ∀ w1 : World, w1 = w.alloc (.cells #[(.int .i64 0), (.bool false), (.bool false), (.slice none 0 0), (.slice none 0 0)] 45 (0, 0)) →
 ∃ (x17A : Option Addr) (x17N x17C : Nat), w1.cell? ⟨cB, 2, none⟩ = some (.slice x17A x17N x17C) ∧
 (((x17N : Int) == (0 : Int)) = true →
 (Okc w1 ⟨w.heap.size, 0, none⟩ ∧ Okc w1 ⟨w.heap.size, 1, none⟩ ∧ Okc w1 ⟨w.heap.size, 2, none⟩ ∧ Okc w1 ⟨w.heap.size, 3, none⟩ ∧ Okc w1 ⟨w.heap.size, 4, none⟩) ∧ ∀ w2 : World, w2 = (((((w1.setCell ⟨w.heap.size, 0, none⟩ (.int .i64 0)).setCell ⟨w.heap.size, 1, none⟩ (.bool false)).setCell ⟨w.heap.size, 2, none⟩ (.bool false)).setCell ⟨w.heap.size, 3, none⟩ (.slice none 0 0)).setCell ⟨w.heap.size, 4, none⟩ (.slice none 0 0)) →
 ∃ (r00 : Int) (r01 r02 : Bool) (r03A : Option Addr) (r03N r03C : Nat) (r04A : Option Addr) (r04N r04C : Nat), (w2.cell? ⟨w.heap.size, 0, none⟩ = some (.int .i64 r00) ∧ w2.cell? ⟨w.heap.size, 1, none⟩ = some (.bool r01) ∧ w2.cell? ⟨w.heap.size, 2, none⟩ = some (.bool r02) ∧ w2.cell? ⟨w.heap.size, 3, none⟩ = some (.slice r03A r03N r03C) ∧ w2.cell? ⟨w.heap.size, 4, none⟩ = some (.slice r04A r04N r04C)) ∧
 R (.tuple #[(.agg #[(.int .i64 r00), (.bool r01), (.bool r02), (.slice r03A r03N r03C), (.slice r04A r04N r04C)]), (.int .i64 8)]) w2) ∧
 (((x17N : Int) == (0 : Int)) = false →
 ∃ (x25A : Option Addr) (x25N x25C : Nat), w1.cell? ⟨cB, 2, none⟩ = some (.slice x25A x25N x25C) ∧
 (x25N : Int) ≠ 0 ∧
 ∃ J : Int → World → Prop, ((decide ((Int.tmod n (x25N : Int)) < (0 : Int)) = true →
 ∃ (x34A : Option Addr) (x34N x34C : Nat), w1.cell? ⟨cB, 2, none⟩ = some (.slice x34A x34N x34C) ∧
 J (IntKind.i64.wrap ((Int.tmod n (x25N : Int)) + (x34N : Int))) w1) ∧
 (decide ((Int.tmod n (x25N : Int)) < (0 : Int)) = false →
 J (Int.tmod n (x25N : Int)) w1)) ∧
 ∀ (jk : Nat → Value) (vat : Int), ∀ w3 : World, J vat w3 →
 ∃ (x40A : Option Addr) (x40N x40C : Nat), w3.cell? ⟨cB, 2, none⟩ = some (.slice x40A x40N x40C) ∧
 (0 ≤ vat ∧ vat < (x40N : Int)) ∧ someV x40A fun p =>
 ∃ x43 : Option Addr, w3.cell? (p.add (vat.toNat * 1)) = some (.pointer x43) ∧
 someV x43 fun p_1 =>
 ∃ x48 : Int, w3.cell? (p_1.add 1) = some (.int .i64 x48) ∧
 ∀ w4 : World, w4 = w3.alloc (.cells #[(.int .i64 0), (.bool false), (.bool false), (.slice none 0 0), (.slice none 0 0)] 45 (0, 0)) →
 (Okc w4 ⟨w3.heap.size, 0, none⟩ ∧ Okc w4 ⟨w3.heap.size, 1, none⟩ ∧ Okc w4 ⟨w3.heap.size, 2, none⟩ ∧ Okc w4 ⟨w3.heap.size, 3, none⟩ ∧ Okc w4 ⟨w3.heap.size, 4, none⟩) ∧ ∀ w5 : World, w5 = (((((w4.setCell ⟨w3.heap.size, 0, none⟩ (.int .i64 x48)).setCell ⟨w3.heap.size, 1, none⟩ (.bool false)).setCell ⟨w3.heap.size, 2, none⟩ (.bool false)).setCell ⟨w3.heap.size, 3, none⟩ (.slice none 0 0)).setCell ⟨w3.heap.size, 4, none⟩ (.slice none 0 0)) →
 ∃ J_1 : World → Prop, (Calls Tryz.prog 41 #[(.pointer (some ⟨cB, 0, none⟩)), (.pointer x43), (.pointer (some ⟨w3.heap.size, 0, none⟩))] w5 (Ret fun v w6 => ∃ x52 : Bool, v = (.bool x52) ∧
 (x52 = true →
 Calls Tryz.prog 43 #[(.pointer (some ⟨cB, 0, none⟩)), (.pointer x43)] w6 (Ret fun v_1 w7 => ∃ (x57A : Option Addr) (x57N x57C : Nat), v_1 = (.slice x57A x57N x57C) ∧
 Calls Tryz.prog 42 #[(.pointer x43), (.slice x57A x57N x57C)] w7 (Ret fun v_2 w8 => ∃ x58 : Bool, v_2 = (.bool x58) ∧
 (x58 = true →
 someV x43 fun p_2 =>
 ∃ (x63A : Option Addr) (x63N x63C : Nat), w8.cell? (p_2.add 8) = some (.slice x63A x63N x63C) ∧
 (Okc w8 ⟨w3.heap.size, 1, none⟩) ∧ ∀ w9 : World, w9 = (w8.setCell ⟨w3.heap.size, 1, none⟩ (.bool true)) →
 (Okc w9 ⟨w3.heap.size, 3, none⟩) ∧ ∀ w10 : World, w10 = (w9.setCell ⟨w3.heap.size, 3, none⟩ (.slice x63A x63N x63C)) →
 Calls Tryz.prog 44 #[(.pointer (some ⟨cB, 0, none⟩)), (.int .i64 vat)] w10 (Ret fun v_3 w11 => ∃ x68 : Option Addr, v_3 = (.pointer x68) ∧
 J_1 w11)) ∧
 (x58 = false →
 J_1 w8)))) ∧
 (x52 = false →
 J_1 w6))) ∧
 ∀ (jk : Nat → Value), ∀ w12 : World, J_1 w12 →
 ∃ (x690 : Int) (x691 x692 : Bool) (x693A : Option Addr) (x693N x693C : Nat) (x694A : Option Addr) (x694N x694C : Nat), (w12.cell? ⟨w3.heap.size, 0, none⟩ = some (.int .i64 x690) ∧ w12.cell? ⟨w3.heap.size, 1, none⟩ = some (.bool x691) ∧ w12.cell? ⟨w3.heap.size, 2, none⟩ = some (.bool x692) ∧ w12.cell? ⟨w3.heap.size, 3, none⟩ = some (.slice x693A x693N x693C) ∧ w12.cell? ⟨w3.heap.size, 4, none⟩ = some (.slice x694A x694N x694C)) ∧
 (Okc w12 ⟨w.heap.size, 0, none⟩ ∧ Okc w12 ⟨w.heap.size, 1, none⟩ ∧ Okc w12 ⟨w.heap.size, 2, none⟩ ∧ Okc w12 ⟨w.heap.size, 3, none⟩ ∧ Okc w12 ⟨w.heap.size, 4, none⟩) ∧ ∀ w13 : World, w13 = (((((w12.setCell ⟨w.heap.size, 0, none⟩ (.int .i64 x690)).setCell ⟨w.heap.size, 1, none⟩ (.bool x691)).setCell ⟨w.heap.size, 2, none⟩ (.bool x692)).setCell ⟨w.heap.size, 3, none⟩ (.slice x693A x693N x693C)).setCell ⟨w.heap.size, 4, none⟩ (.slice x694A x694N x694C)) →
 ∃ (r00_1 : Int) (r01_1 r02_1 : Bool) (r03A_1 : Option Addr) (r03N_1 r03C_1 : Nat) (r04A_1 : Option Addr) (r04N_1 r04C_1 : Nat), (w13.cell? ⟨w.heap.size, 0, none⟩ = some (.int .i64 r00_1) ∧ w13.cell? ⟨w.heap.size, 1, none⟩ = some (.bool r01_1) ∧ w13.cell? ⟨w.heap.size, 2, none⟩ = some (.bool r02_1) ∧ w13.cell? ⟨w.heap.size, 3, none⟩ = some (.slice r03A_1 r03N_1 r03C_1) ∧ w13.cell? ⟨w.heap.size, 4, none⟩ = some (.slice r04A_1 r04N_1 r04C_1)) ∧
 R (.tuple #[(.agg #[(.int .i64 r00_1), (.bool r01_1), (.bool r02_1), (.slice r03A_1 r03N_1 r03C_1), (.slice r04A_1 r04N_1 r04C_1)]), (.int .i64 0)]) w13)
theorem crew_Crew_Pick.calls (cB : Nat) (n : Int) {w : World} {R : Value → World → Prop} (h : crew_Crew_Pick.vc cB n w R) : Calls Tryz.prog 11 #[(.pointer (some (⟨cB, 0, none⟩ : Addr))), (.int .i64 n)] w (Ret R) :=
 calls_V fit Tryz.func11 (.k (.c .nil (.cut 1 ([(6, some (.int .i64))] ++ nn 28 9) (.c .nil .nil) (.cut 2 (nn 50 19) (.at_ 10 3 (.c .nil .nil) (.k .nil)) .nil)))) (Eq.mpr (by kernel_rfl) h)
def crew_Crew_Leave.vc (cB : Nat) (id : Int) (w : World) (R : Value → World → Prop) : Prop :=
 Calls Tryz.prog 39 #[(.pointer (some ⟨cB, 0, none⟩)), (.int .i64 id)] w (Ret fun v w1 => ∃ x10 : Int, v = (.int .i64 x10) ∧
 (decide (x10 < (0 : Int)) = true →
 R (.bool false) w1) ∧
 (decide (x10 < (0 : Int)) = false →
 Calls Tryz.prog 39 #[(.pointer (some ⟨cB, 0, none⟩)), (.int .i64 id)] w1 (Ret fun v_1 w2 => ∃ x16 : Int, v_1 = (.int .i64 x16) ∧
 Calls Tryz.prog 44 #[(.pointer (some ⟨cB, 0, none⟩)), (.int .i64 x16)] w2 (Ret fun v_2 w3 => ∃ x17 : Option Addr, v_2 = (.pointer x17) ∧
 R (.bool true) w3))))
def crew_Crew_Ids.vc (cB : Nat) (w : World) (R : Value → World → Prop) : Prop :=
 ∃ (x10A : Option Addr) (x10N x10C : Nat), w.cell? ⟨cB, 2, none⟩ = some (.slice x10A x10N x10C) ∧
 ∃ vI : Option Addr → Nat → Nat → Int → Nat → World → Prop, (∃ vk_2 : Nat, vI none 0 0 0 vk_2 w) ∧
 ∀ (jk : Nat → Value) (outA : Option Addr) (outN : Nat) (outC : Nat) (x12 : Int), ∀ (vk : Nat) (w1 : World), vI outA outN outC x12 vk w1 →
 (decide (x12 < (x10N : Int)) = true →
 (0 ≤ x12 ∧ x12 < (x10N : Int)) ∧ someV x10A fun p =>
 ∃ x15 : Option Addr, w1.cell? (p.add (x12.toNat * 1)) = some (.pointer x15) ∧
 someV x15 fun p_1 =>
 ∃ x21 : Int, w1.cell? (p_1.add 1) = some (.int .i64 x21) ∧
 ∀ w2 : World, w2 = w1.alloc (.cells #[(.int .i64 x21)] 3 (0, 0)) →
 ∃ (x23A : Option Addr) (x23N x23C : Nat), ∃ w3 : World, (Builtin.append_ #[35, 35] 35 #[(.slice outA outN outC), (.slice (some ⟨w1.heap.size, 0, none⟩) 1 1)]).run Tryz.prog w2 = .ok (.slice x23A x23N x23C) w3 ∧
 ∃ vk_1 : Nat, vk_1 < vk ∧ vI x23A x23N x23C (IntKind.i64.wrap (x12 + 1)) vk_1 w3) ∧
 (decide (x12 < (x10N : Int)) = false →
 R (.slice outA outN outC) w1)
theorem crew_Crew_Ids.calls (cB : Nat) {w : World} {R : Value → World → Prop} (h : crew_Crew_Ids.vc cB w R) : Calls Tryz.prog 14 #[(.pointer (some (⟨cB, 0, none⟩ : Addr)))] w (Ret R) :=
 calls_V fit Tryz.func14 (.k (.lp ([(2, some (.slice)), (4, none), (12, some (.int .i64))] ++ nn 13 12) (.c .nil .nil))) (Eq.mpr (by kernel_rfl) h)
def crew_Crew_Of.vc (cB : Nat) (versionsA : Option Addr) (versionsN : Nat) (versionsC : Nat) (w : World) (R : Value → World → Prop) : Prop :=
 ∃ (x12A : Option Addr) (x12N x12C : Nat), w.cell? ⟨cB, 2, none⟩ = some (.slice x12A x12N x12C) ∧
 ∃ vI : Option Addr → Nat → Nat → Int → Nat → World → Prop, (∃ vk_2 : Nat, vI none 0 0 0 vk_2 w) ∧
 ∀ (jk : Nat → Value) (outA : Option Addr) (outN : Nat) (outC : Nat) (x14 : Int), ∀ (vk : Nat) (w1 : World), vI outA outN outC x14 vk w1 →
 (decide (x14 < (x12N : Int)) = true →
 (0 ≤ x14 ∧ x14 < (x12N : Int)) ∧ someV x12A fun p =>
 ∃ x17 : Option Addr, w1.cell? (p.add (x14.toNat * 1)) = some (.pointer x17) ∧
 someV x17 fun p_1 =>
 ∃ x23 : Int, w1.cell? (p_1.add 2) = some (.int .i64 x23) ∧
 Calls Tryz.prog 65 #[(.slice versionsA versionsN versionsC), (.int .i64 x23)] w1 (Ret fun v w2 => ∃ x24 : Bool, v = (.bool x24) ∧
 (x24 = true →
 someV x17 fun p_2 =>
 ∃ x30 : Int, w2.cell? (p_2.add 1) = some (.int .i64 x30) ∧
 ∀ w3 : World, w3 = w2.alloc (.cells #[(.int .i64 x30)] 3 (0, 0)) →
 ∃ (x32A : Option Addr) (x32N x32C : Nat), ∃ w4 : World, (Builtin.append_ #[35, 35] 35 #[(.slice outA outN outC), (.slice (some ⟨w2.heap.size, 0, none⟩) 1 1)]).run Tryz.prog w3 = .ok (.slice x32A x32N x32C) w4 ∧
 ∃ vk_1 : Nat, vk_1 < vk ∧ vI x32A x32N x32C (IntKind.i64.wrap (x14 + 1)) vk_1 w4) ∧
 (x24 = false →
 ∃ vk_1 : Nat, vk_1 < vk ∧ vI outA outN outC (IntKind.i64.wrap (x14 + 1)) vk_1 w2))) ∧
 (decide (x14 < (x12N : Int)) = false →
 R (.slice outA outN outC) w1)
def crew_Crew_Said.vc (cB : Nat) (id : Int) (w : World) (R : Value → World → Prop) : Prop :=
 Calls Tryz.prog 39 #[(.pointer (some ⟨cB, 0, none⟩)), (.int .i64 id)] w (Ret fun v w1 => ∃ x10 : Int, v = (.int .i64 x10) ∧
 (decide (x10 < (0 : Int)) = true →
 R (.slice none 0 0) w1) ∧
 (decide (x10 < (0 : Int)) = false →
 ∃ vS : World → Prop, ∀ w2 : World, w2 = w1.drew → vS w2 ∧
 ∃ (x16A : Option Addr) (x16N x16C : Nat), (∀ w3, vS w3 → w3.cell? ⟨cB, 2, none⟩ = some (.slice x16A x16N x16C)) ∧
 Calls Tryz.prog 39 #[(.pointer (some ⟨cB, 0, none⟩)), (.int .i64 id)] w2 (Ret fun v_1 w4 => ∃ x19 : Int, v_1 = (.int .i64 x19) ∧
 vS w4 ∧
 (0 ≤ x19 ∧ x19 < (x16N : Int)) ∧ someV x16A fun p =>
 ∃ x21 : Option Addr, w4.cell? (p.add (x19.toNat * 1)) = some (.pointer x21) ∧
 vS w4 ∧
 someV x21 fun p_1 =>
 ∃ (x24A : Option Addr) (x24N x24C : Nat), w4.cell? (p_1.add 8) = some (.slice x24A x24N x24C) ∧
 vS w4 ∧
 Calls Tryz.prog 51 #[(.slice x24A x24N x24C)] w4 (Ret fun v_2 w5 => ∃ (x25A : Option Addr) (x25N x25C : Nat), v_2 = (.slice x25A x25N x25C) ∧
 vS w5 ∧
 R (.slice x25A x25N x25C) w5))))
theorem crew_Crew_Said.calls (cB : Nat) (id : Int) {w : World} {R : Value → World → Prop} (h : crew_Crew_Said.vc cB id w R) : Calls Tryz.prog 18 #[(.pointer (some (⟨cB, 0, none⟩ : Addr))), (.int .i64 id)] w (Ret R) :=
 calls_V fit Tryz.func18 (.c .nil (.tk 0 (.tk 1 (.tk 2 (.tk 3 (.tk 4 (.tk 5 (.alt 6 (.tk 7 (.alt 8 (.tk 9 (.tk 10 (.alt 11 (.alt 12 (.tk 13 (.fin .nil)) .nil) .nil))) .nil)) .nil)))))))) (Eq.mpr (by kernel_rfl) h)
def crew_Crew_Free.vc (cB : Nat) (w : World) (R : Value → World → Prop) : Prop :=
 ∃ x8 : Option Addr, w.cell? ⟨cB, 0, none⟩ = some (.pointer x8) ∧
 Calls Tryz.prog 45 #[(.pointer x8)] w (Ret fun v w1 => ∃ x9 : Int, v = (.int .i64 x9) ∧
 R (.int .i64 x9) w1)
theorem crew_Crew_Free.calls (cB : Nat) {w : World} {R : Value → World → Prop} (h : crew_Crew_Free.vc cB w R) : Calls Tryz.prog 12 #[(.pointer (some (⟨cB, 0, none⟩ : Addr)))] w (Ret R) :=
 calls_V fit Tryz.func12 (.k .nil) (Eq.mpr (by kernel_rfl) h)
def crew_Crew_Kept.vc (cB : Nat) (w : World) (R : Value → World → Prop) : Prop :=
 ∃ x8 : Option Addr, w.cell? ⟨cB, 1, none⟩ = some (.pointer x8) ∧
 Calls Tryz.prog 46 #[(.pointer x8)] w (Ret fun v w1 => ∃ x9 : Int, v = (.int .i64 x9) ∧
 R (.int .i64 x9) w1)
theorem crew_Crew_Kept.calls (cB : Nat) {w : World} {R : Value → World → Prop} (h : crew_Crew_Kept.vc cB w R) : Calls Tryz.prog 13 #[(.pointer (some (⟨cB, 0, none⟩ : Addr)))] w (Ret R) :=
 calls_V fit Tryz.func13 (.k .nil) (Eq.mpr (by kernel_rfl) h)
def crew_Crew_Forget.vc (cB : Nat) (version : Int) (w : World) (R : Value → World → Prop) : Prop :=
 ∃ x10 : Option Addr, w.cell? ⟨cB, 1, none⟩ = some (.pointer x10) ∧
 Calls Tryz.prog 47 #[(.pointer x10), (.int .i64 version)] w (Ret fun v w1 => ∃ x12 : Int, v = (.int .i64 x12) ∧
 R (.int .i64 x12) w1)
def slices_Contains.vc (sA : Option Addr) (sN : Nat) (sC : Nat) (v : Int) (w : World) (R : Value → World → Prop) : Prop :=
 Calls Tryz.prog 99 #[(.slice sA sN sC), (.int .i64 v)] w (Ret fun v_1 w1 => ∃ x7 : Int, v_1 = (.int .i64 x7) ∧
 R (.bool (decide (x7 ≥ (0 : Int)))) w1)
end Go.Proofs.YtkbikekbaboclaaGreat.Vc
